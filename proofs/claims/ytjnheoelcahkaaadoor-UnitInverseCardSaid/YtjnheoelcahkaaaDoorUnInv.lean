/-
  Rescaling by numbers, and then by the inverse ones, plainly.
-/
import Derived.Test.YtjnheoelcahkaaaDoorUnNum
set_option linter.unusedVariables false
set_option linter.unusedSimpArgs false
namespace Go.Proofs.YtjnheoelcahkaaaDoor.Rat
open Go.RowKit Go.Proofs.YtjnheoelcahkaaaDoorW.PrintWords Go.Proofs.YtjnheoelcahkaaaDoorW.PrintLast Go.Proofs.YtjnheoelcahkaaaDoorW.PrintMore Go.Proofs.YtjnheoelcahkaaaDoor.Gv
theorem pos_left {a b : Int} (h : 0 < a * b) (hb : 0 < b) : 0 < a := by
  by_cases c : 0 < a
  · exact c
  · have := Int.mul_le_mul_of_nonneg_right (show a ≤ 0 by omega) (show 0 ≤ b by omega)
    rw [Int.zero_mul] at this
    omega
theorem quoz_says {neg : Bool} {a b : Nat} (hb : b ≠ 0) {x y : Int} (h : quoz neg a b = (x, y, 0)) : vz x y = true ∧ x * (b : Int) = (if neg = true then -(a : Int) else (a : Int)) * y := by
  unfold quoz at h
  have hg : 0 < Nat.gcd a b := Nat.pos_of_ne_zero (gcd_pos hb)
  have ha' : (a / Nat.gcd a b) * Nat.gcd a b = a := Nat.div_mul_cancel (Nat.gcd_dvd_left a b)
  have hb' : (b / Nat.gcd a b) * Nat.gcd a b = b := Nat.div_mul_cancel (Nat.gcd_dvd_right a b)
  have hc : Nat.gcd (a / Nat.gcd a b) (b / Nat.gcd a b) = 1 := Nat.coprime_div_gcd_div_gcd hg
  have hb0 : 0 < b / Nat.gcd a b := Nat.div_pos (Nat.le_of_dvd (Nat.pos_of_ne_zero hb) (Nat.gcd_dvd_right a b)) hg
  generalize a / Nat.gcd a b = A at *
  generalize b / Nat.gcd a b = B at *
  generalize Nat.gcd a b = g at *
  split at h
  · simp at h
  · rename_i hlim
    simp only [Prod.mk.injEq] at h
    obtain ⟨rfl, rfl, _⟩ := h
    have ea : (a : Int) = (A : Int) * (g : Int) := by rw [← ha']; simp
    have eb : (b : Int) = (B : Int) * (g : Int) := by rw [← hb']; simp
    rw [vz_iff]
    cases neg with
    | true =>
      simp only [if_true]
      refine ⟨⟨by omega, by omega, by omega, by omega, ?_⟩, by rw [ea, eb]; grind⟩
      simpa using hc
    | false =>
      simp only [Bool.false_eq_true, if_false]
      refine ⟨⟨by omega, by omega, by omega, by omega, ?_⟩, by rw [ea, eb]; grind⟩
      simpa using hc
theorem mkz_says {n d x y : Int} (h : mkz n d = (x, y, 0)) : d ≠ 0 ∧ vz x y = true ∧ x * d = n * y := by
  unfold mkz at h
  by_cases hd : d = 0
  · rw [if_pos hd] at h; simp at h
  · rw [if_neg hd] at h
    obtain ⟨h1, h2⟩ := quoz_says (by omega) h
    refine ⟨hd, h1, ?_⟩
    by_cases hn : n < 0
    · by_cases hd2 : d < 0
      · rw [decide_eq_true hn, decide_eq_true hd2, if_neg (by decide)] at h2
        have e1 : (d.natAbs : Int) = -d := by omega
        have e2 : (n.natAbs : Int) = -n := by omega
        rw [e1, e2] at h2; grind
      · rw [decide_eq_true hn, decide_eq_false hd2, if_pos (by decide)] at h2
        have e1 : (d.natAbs : Int) = d := by omega
        have e2 : (n.natAbs : Int) = -n := by omega
        rw [e1, e2] at h2; grind
    · by_cases hd2 : d < 0
      · rw [decide_eq_false hn, decide_eq_true hd2, if_pos (by decide)] at h2
        have e1 : (d.natAbs : Int) = -d := by omega
        have e2 : (n.natAbs : Int) = n := by omega
        rw [e1, e2] at h2; grind
      · rw [decide_eq_false hn, decide_eq_false hd2, if_neg (by decide)] at h2
        have e1 : (d.natAbs : Int) = d := by omega
        have e2 : (n.natAbs : Int) = n := by omega
        rw [e1, e2] at h2; exact h2
theorem mulz_says {a b c d x y : Int} (h : mulz a b c d = (x, y, 0)) : vz a b = true ∧ vz c d = true ∧ vz x y = true ∧ x * (b * d) = (a * c) * y := by
  unfold mulz at h
  split at h
  · rename_i h1
    split at h
    · rename_i h2
      obtain ⟨_, h3, h4⟩ := mkz_says h
      exact ⟨h1, h2, h3, h4⟩
    · simp at h
  · simp at h
theorem divz_says {a b c d x y : Int} (h : divz a b c d = (x, y, 0)) : vz a b = true ∧ vz c d = true ∧ vz x y = true ∧ c ≠ 0 ∧ x * (b * c) = (a * d) * y := by
  unfold divz at h
  split at h
  · rename_i h1
    split at h
    · rename_i h2
      obtain ⟨h0, h3, h4⟩ := mkz_says h
      have hb := (vz_iff.1 h1).1
      exact ⟨h1, h2, h3, fun e => h0 (by rw [e]; simp), h4⟩
    · simp at h
  · simp at h
theorem nat_unique {a b c d : Nat} (hb : 0 < b) (hd : 0 < d) (h1 : Nat.gcd a b = 1) (h2 : Nat.gcd c d = 1) (h : a * d = c * b) : a = c ∧ b = d := by
  have k1 : Nat.Coprime b a := by rw [Nat.coprime_comm]; exact h1
  have k2 : Nat.Coprime d c := by rw [Nat.coprime_comm]; exact h2
  have d1 : b ∣ d := by
    have : b ∣ a * d := ⟨c, by rw [h, Nat.mul_comm]⟩
    exact k1.dvd_of_dvd_mul_left this
  have d2 : d ∣ b := by
    have : d ∣ c * b := ⟨a, by rw [← h, Nat.mul_comm]⟩
    exact k2.dvd_of_dvd_mul_left this
  have e : b = d := Nat.dvd_antisymm d1 d2
  subst e
  exact ⟨Nat.eq_of_mul_eq_mul_right hb h, rfl⟩
theorem vz_unique {a b c d : Int} (h1 : vz a b = true) (h2 : vz c d = true) (h : a * d = c * b) : a = c ∧ b = d := by
  rw [vz_iff] at h1 h2
  have hn : a.natAbs * d.natAbs = c.natAbs * b.natAbs := by rw [← Int.natAbs_mul, ← Int.natAbs_mul, h]
  obtain ⟨e1, e2⟩ := nat_unique (by omega) (by omega) h1.2.2.2.2 h2.2.2.2.2 hn
  have eb : b = d := by omega
  subst eb
  exact ⟨Int.eq_of_mul_eq_mul_right (by omega) h, rfl⟩
/-- positive fractions -/
def pz (x y : Int) : Prop := vz x y = true ∧ 0 < x
theorem powz_inv {x y n : Int} (h : pz x y) {e f e' f' : Int} (h1 : powz x y n = (e, f, 0)) (h2 : powz y x n = (e', f', 0)) : 0 < e ∧ 0 < f ∧ 0 < e' ∧ 0 < f' ∧ e * e' = f * f' := by
  obtain ⟨hv, hx⟩ := h
  have hy := (vz_iff.1 hv).1
  have up : ∀ {a b : Int} {k : Nat} {e f : Int}, 0 < a → 0 < b → upz a b k = (e, f, 0) → 0 < e ∧ 0 < f ∧ e = a ^ k ∧ f = b ^ k := fun {a b k e f} ha hb h => by
    unfold upz at h
    split at h
    · simp only [Prod.mk.injEq] at h
      obtain ⟨rfl, rfl, _⟩ := h
      exact ⟨Int.pow_pos ha, Int.pow_pos hb, rfl, rfl⟩
    · simp at h
  have key : ∀ {a b n e f : Int}, vz a b = true → 0 < a → powz a b n = (e, f, 0) → 0 < e ∧ 0 < f ∧ ((a = 1 ∧ b = 1 ∧ e = 1 ∧ f = 1) ∨ (0 ≤ n ∧ e = a ^ n.natAbs ∧ f = b ^ n.natAbs) ∨ (n < 0 ∧ e = b ^ n.natAbs ∧ f = a ^ n.natAbs)) := fun {a b n e f} hv ha h => by
    have hb := (vz_iff.1 hv).1
    unfold powz at h
    rw [if_pos hv] at h
    by_cases hn : n = 0
    · rw [if_pos hn] at h
      simp only [Prod.mk.injEq] at h
      obtain ⟨rfl, rfl, _⟩ := h
      exact ⟨by omega, by omega, .inr (.inl ⟨by omega, by subst hn; simp, by subst hn; simp⟩)⟩
    · rw [if_neg hn, if_neg (by omega)] at h
      by_cases h11 : a = 1 ∧ b = 1
      · rw [if_pos h11] at h
        simp only [Prod.mk.injEq] at h
        obtain ⟨rfl, rfl, _⟩ := h
        exact ⟨by omega, by omega, .inl ⟨h11.1, h11.2, rfl, rfl⟩⟩
      · rw [if_neg h11, if_neg (by omega)] at h
        split at h
        · simp at h
        · split at h
          · obtain ⟨p, q, r, s⟩ := up ha (by omega) h
            exact ⟨p, q, .inr (.inl ⟨by omega, r, s⟩)⟩
          · rw [if_neg (by omega), show ((a.natAbs : Int)) = a by omega] at h
            obtain ⟨p, q, r, s⟩ := up (by omega) ha h
            exact ⟨p, q, .inr (.inr ⟨by omega, r, s⟩)⟩
  have hv' : vz y x = true := by
    rw [vz_iff] at hv ⊢
    exact ⟨by omega, by omega, by omega, by omega, by rw [Nat.gcd_comm]; exact hv.2.2.2.2⟩
  obtain ⟨p1, p2, p3⟩ := key hv hx h1
  obtain ⟨q1, q2, q3⟩ := key hv' (by omega) h2
  refine ⟨p1, p2, q1, q2, ?_⟩
  rcases p3 with ⟨r1, r2, rfl, rfl⟩ | ⟨r1, rfl, rfl⟩ | ⟨r1, rfl, rfl⟩ <;> rcases q3 with ⟨s1, s2, rfl, rfl⟩ | ⟨s1, rfl, rfl⟩ | ⟨s1, rfl, rfl⟩
  · rfl
  · rw [r1, r2]
  · rw [r1, r2]
  · rw [s1, s2]
  · exact Int.mul_comm _ _
  · omega
  · rw [s1, s2]
  · omega
  · exact Int.mul_comm _ _
def backF (f : Nat → Int × Int) (k : Nat) : Int × Int := ((f k).2, (f k).1)
theorem prodz_some {d : Nat → Int} {f : Nat → Int × Int} {k : Nat} {q : Int × Int} (h : prodz d f (k + 1) = some q) : ∃ p, prodz d f k = some p ∧ (powz (f k).1 (f k).2 (d k)).2.2 = 0 ∧ mulz p.1 p.2 (powz (f k).1 (f k).2 (d k)).1 (powz (f k).1 (f k).2 (d k)).2.1 = (q.1, q.2, 0) := by
  rw [prodz] at h
  cases hp : prodz d f k with
  | none => rw [hp] at h; cases h
  | some p =>
    rw [hp] at h
    simp only at h
    split at h
    · rename_i h1
      split at h
      · rename_i h2
        refine ⟨p, rfl, h1, ?_⟩
        injection h with h
        rw [← h]
        simp only
        rw [← h2]
      · cases h
    · cases h
theorem prod_inv {d : Nat → Int} {f : Nat → Int × Int} (hf : ∀ k, k < 7 → pz (f k).1 (f k).2) : ∀ k, k ≤ 7 → ∀ p q, prodz d f k = some p → prodz d (backF f) k = some q → 0 < p.1 ∧ 0 < p.2 ∧ 0 < q.1 ∧ 0 < q.2 ∧ p.1 * q.1 = p.2 * q.2
  | 0, _, p, q, h1, h2 => by
    rw [prodz] at h1 h2
    injection h1 with h1
    injection h2 with h2
    subst h1 h2
    simp
  | k + 1, hk, p, q, h1, h2 => by
    obtain ⟨p0, a1, a2, a3⟩ := prodz_some h1
    obtain ⟨q0, b1, b2, b3⟩ := prodz_some h2
    obtain ⟨i1, i2, i3, i4, i5⟩ := prod_inv hf k (by omega) p0 q0 a1 b1
    have hw : powz (f k).1 (f k).2 (d k) = ((powz (f k).1 (f k).2 (d k)).1, (powz (f k).1 (f k).2 (d k)).2.1, 0) := by rw [← a2]
    have hw' : powz (f k).2 (f k).1 (d k) = ((powz (backF f k).1 (backF f k).2 (d k)).1, (powz (backF f k).1 (backF f k).2 (d k)).2.1, 0) := by rw [← b2]; rfl
    obtain ⟨j1, j2, j3, j4, j5⟩ := powz_inv (hf k (by omega)) hw hw'
    obtain ⟨_, _, v1, m1⟩ := mulz_says a3
    obtain ⟨_, _, v2, m2⟩ := mulz_says b3
    generalize (powz (f k).1 (f k).2 (d k)).1 = e at *
    generalize (powz (f k).1 (f k).2 (d k)).2.1 = g at *
    generalize (powz (backF f k).1 (backF f k).2 (d k)).1 = e' at *
    generalize (powz (backF f k).1 (backF f k).2 (d k)).2.1 = g' at *
    have p2pos := (vz_iff.1 v1).1
    have q2pos := (vz_iff.1 v2).1
    obtain ⟨pa, pb⟩ := p
    obtain ⟨qa, qb⟩ := q
    obtain ⟨xa, xb⟩ := p0
    obtain ⟨ya, yb⟩ := q0
    simp only at *
    have s1 : 0 < pa := by
      have h0 : 0 < pa * (xb * g) := by rw [m1]; exact Int.mul_pos (Int.mul_pos i1 j1) (by omega)
      exact pos_left h0 (Int.mul_pos i2 j2)
    have s2 : 0 < qa := by
      have h0 : 0 < qa * (yb * g') := by rw [m2]; exact Int.mul_pos (Int.mul_pos i3 j3) (by omega)
      exact pos_left h0 (Int.mul_pos i4 j4)
    refine ⟨s1, by omega, s2, by omega, ?_⟩
    have hne : xb * g * (yb * g') ≠ 0 := by
      have := Int.mul_pos (Int.mul_pos i2 j2) (Int.mul_pos i4 j4)
      omega
    refine Int.eq_of_mul_eq_mul_right hne ?_
    grind
theorem back_pz {f : Nat → Int × Int} (hf : ∀ k, k < 7 → pz (f k).1 (f k).2) : allF (backF f) = true := by
  rw [allF_iff]
  intro j hj
  obtain ⟨hv, hx⟩ := hf j hj
  unfold okF backF
  rw [Bool.and_eq_true, decide_eq_true_eq]
  have h := vz_iff.1 hv
  exact ⟨vz_iff.2 ⟨by show 1 ≤ (f j).1; omega, by show (f j).1 ≤ _; omega, by show _ ≤ (f j).2; omega, by show (f j).2 ≤ _; omega, by show Nat.gcd (f j).2.natAbs (f j).1.natAbs = 1; rw [Nat.gcd_comm]; exact h.2.2.2.2⟩, by show 0 < (f j).2; omega⟩
theorem resz_says {n m : Int} {d : Nat → Int} {f : Nat → Int × Int} (h : (resz n m d f).2 = 0) : okV n m d = true ∧ allF f = true ∧ ∃ q, prodz d f 7 = some q ∧ (divz n m q.1 q.2).2.2 = 0 ∧ resz n m d f = (((divz n m q.1 q.2).1, (divz n m q.1 q.2).2.1, d), 0) := by
  cases hv : okV n m d with
  | false => rw [resz_v hv] at h; cases h
  | true =>
    cases hf : allF f with
    | false => rw [resz_f hf] at h; cases h
    | true =>
      cases hp : prodz d f 7 with
      | none => rw [resz_p hv hf hp] at h; cases h
      | some q =>
        by_cases hd : (divz n m q.1 q.2).2.2 = 0
        · exact ⟨rfl, rfl, q, rfl, hd, resz_ok hv hf hp hd⟩
        · rw [resz_d hv hf hp hd] at h; cases h
/-- there and back -/
theorem resz_inv {n m : Int} {d : Nat → Int} {f : Nat → Int × Int} (hf : ∀ k, k < 7 → pz (f k).1 (f k).2) {p q : Int} (h : resz n m d f = ((p, q, d), 0)) : (resz p q d (backF f)).2 = 2 ∨ resz p q d (backF f) = ((n, m, d), 0) := by
  obtain ⟨hv, ha, ⟨A, B⟩, hp, hd, he⟩ := resz_says (show (resz n m d f).2 = 0 by rw [h])
  rw [h] at he
  simp only [Prod.mk.injEq, and_true] at he
  have hdiv : divz n m A B = (p, q, 0) := by rw [he.1, he.2]; rw [← hd]
  obtain ⟨v1, v2, v3, hA, e1⟩ := divz_says hdiv
  have hdim : dimB d = true := by unfold okV at hv; rw [Bool.and_eq_true] at hv; exact hv.2
  have hv2 : okV p q d = true := by unfold okV; rw [v3, hdim]; rfl
  have ha2 := back_pz hf
  cases hp2 : prodz d (backF f) 7 with
  | none => rw [resz_p hv2 ha2 hp2]; exact .inl rfl
  | some r =>
    obtain ⟨C, D⟩ := r
    by_cases hd2 : (divz p q C D).2.2 = 0
    · right
      rw [resz_ok hv2 ha2 hp2 hd2]
      obtain ⟨k1, k2, k3, k4, k5⟩ := prod_inv hf 7 (by omega) _ _ hp hp2
      have hdv2 : divz p q C D = ((divz p q C D).1, (divz p q C D).2.1, 0) := by rw [← hd2]
      obtain ⟨w1, w2, w3, hC, e2⟩ := divz_says hdv2
      simp only
      generalize (divz p q C D).1 = r at *
      generalize (divz p q C D).2.1 = s at *
      simp only at k1 k2 k3 k4 k5
      have hq := (vz_iff.1 v3).1
      have hne : q * (B * D) ≠ 0 := by
        have := Int.mul_pos (show 0 < q by omega) (Int.mul_pos k2 k4)
        omega
      have hc : r * m = n * s := Int.eq_of_mul_eq_mul_right hne (by grind)
      obtain ⟨u1, u2⟩ := vz_unique w3 v1 hc
      rw [u1, u2]
    · left
      rw [resz_d hv2 ha2 hp2 hd2]
def oneF (_ : Nat) : Int × Int := (1, 1)
theorem powz_ones (n : Int) : powz 1 1 n = (1, 1, 0) := by
  unfold powz
  rw [if_pos (by decide +kernel)]
  by_cases hn : n = 0
  · rw [if_pos hn]
  · rw [if_neg hn, if_neg (by decide), if_pos ⟨rfl, rfl⟩]
theorem prodz_ones (d : Nat → Int) : ∀ k, prodz d oneF k = some (1, 1)
  | 0 => rfl
  | k + 1 => by
    have h := prodz_ok (prodz_ones d k) (by show (powz 1 1 (d k)).2.2 = 0; rw [powz_ones]) (by show (mulz 1 1 (powz 1 1 (d k)).1 (powz 1 1 (d k)).2.1).2.2 = 0; rw [powz_ones]; decide +kernel)
    rw [h]
    show some ((mulz 1 1 (powz 1 1 (d k)).1 (powz 1 1 (d k)).2.1).1, (mulz 1 1 (powz 1 1 (d k)).1 (powz 1 1 (d k)).2.1).2.1) = _
    rw [powz_ones]
    decide +kernel
theorem divz_one {n m : Int} (h : vz n m = true) : divz n m 1 1 = (n, m, 0) := by
  unfold divz
  rw [if_pos h, if_pos (by decide +kernel), Int.mul_one, Int.mul_one]
  have hv := vz_iff.1 h
  unfold mkz
  rw [if_neg (by omega), quoz_one hv.2.2.2.2, if_neg (by omega)]
  have : decide (m < 0) = false := decide_eq_false (by omega)
  rw [this]
  by_cases hs : n < 0
  · rw [decide_eq_true hs, if_pos (by decide)]
    congr 1
    · omega
    · congr 1; omega
  · rw [decide_eq_false hs, if_neg (by decide)]
    congr 1
    · omega
    · congr 1; omega
theorem resz_ones {n m : Int} {d : Nat → Int} (h : okV n m d = true) : resz n m d oneF = ((n, m, d), 0) := by
  have hv : vz n m = true := by unfold okV at h; rw [Bool.and_eq_true] at h; exact h.1
  have hd := divz_one hv
  rw [resz_ok (q := (1, 1)) h (by decide +kernel) (prodz_ones d 7) (by show (divz n m 1 1).2.2 = 0; rw [hd])]
  show (((divz n m 1 1).1, (divz n m 1 1).2.1, d), (0 : Int)) = _
  rw [hd]
theorem mkz_small {x y : Int} (hx : 1 ≤ x ∧ x ≤ 256) (hy : 1 ≤ y ∧ y ≤ 256) : pz (mkz x y).1 (mkz x y).2.1 := by
  have h3 : (mkz x y).2.2 = 0 := by
    unfold mkz quoz
    rw [if_neg (by omega)]
    have h1 := Nat.div_le_self x.natAbs (Nat.gcd x.natAbs y.natAbs)
    have h2 := Nat.div_le_self y.natAbs (Nat.gcd x.natAbs y.natAbs)
    rw [if_neg (by omega)]
  have h : mkz x y = ((mkz x y).1, (mkz x y).2.1, 0) := by rw [← h3]
  obtain ⟨_, hv, he⟩ := mkz_says h
  generalize (mkz x y).1 = a at *
  generalize (mkz x y).2.1 = b at *
  refine ⟨hv, ?_⟩
  have hb := (vz_iff.1 hv).1
  have h0 : 0 < a * y := by rw [he]; exact Int.mul_pos (by omega) (by omega)
  exact pos_left h0 (by omega)
theorem numF_pz {s : Nat → Int × Int} (hs : ∀ k, k < 7 → (0 ≤ (s k).1 ∧ (s k).1 ≤ 255) ∧ (0 ≤ (s k).2 ∧ (s k).2 ≤ 255)) : ∀ k, k < 7 → pz (numF s k).1 (numF s k).2 := fun k hk => by
  obtain ⟨⟨a, b⟩, ⟨c, d⟩⟩ := hs k hk
  exact mkz_small ⟨by omega, by omega⟩ ⟨by omega, by omega⟩
end Go.Proofs.YtjnheoelcahkaaaDoor.Rat
