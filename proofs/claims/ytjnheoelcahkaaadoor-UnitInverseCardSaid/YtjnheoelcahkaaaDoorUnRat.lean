/-
  Fractions: what both packages' functions compute, plainly.
-/
import Derived.Test.YtjnheoelcahkaaaDoorRx5
import Derived.Test.YtjnheoelcahkaaaDoorRx4
set_option linter.unusedVariables false
set_option linter.unusedSimpArgs false
namespace Go.Proofs.YtjnheoelcahkaaaDoor.Rat
open Go.RowKit Go.Proofs.YtjnheoelcahkaaaDoorW.PrintWords Go.Proofs.YtjnheoelcahkaaaDoorW.PrintLast Go.Proofs.YtjnheoelcahkaaaDoorW.PrintMore
open Go.Proofs.YtjnheoelcahkaaaDoor.R
def i64 (x : Int) : Prop := -9223372036854775808 ≤ x ∧ x ≤ 9223372036854775807
theorem w64 {x : Int} (h0 : -9223372036854775808 ≤ x) (h1 : x ≤ 9223372036854775807) : wrap64 x = x := by unfold wrap64; omega
theorem u64 {x : Int} (h0 : 0 ≤ x) (h1 : x ≤ 18446744073709551615) : IntKind.u64.wrap x = x := by
  simp [IntKind.wrap, IntKind.bits, IntKind.signed]; omega
theorem size_f {a : Int} (h : i64 a) : rational_size.f a = some (a.natAbs : Int) := by
  obtain ⟨h0, h1⟩ := h
  unfold rational_size.f
  split
  · congr 1
    simp [IntKind.wrap, IntKind.bits, IntKind.signed]; omega
  · rw [u64 (by omega) (by omega)]; congr 1; omega
theorem rsize_f {a : Int} (h : i64 a) : vinculumref02_size.f a = some (a.natAbs : Int) := by
  obtain ⟨h0, h1⟩ := h
  unfold vinculumref02_size.f
  split
  · rw [w64 (x := a + 1) (by omega) (by omega), w64 (x := -(a + 1)) (by omega) (by omega), u64 (x := -(a + 1)) (by omega) (by omega), u64 (by omega) (by omega)]
    congr 1; omega
  · rw [u64 (by omega) (by omega)]; congr 1; omega
theorem tmod_nat (a b : Nat) : Int.tmod (a : Int) (b : Int) = ((a % b : Nat) : Int) := by simp [Int.tmod]
theorem tdiv_nat (a b : Nat) : Int.tdiv (a : Int) (b : Int) = ((a / b : Nat) : Int) := by simp [Int.tdiv]
theorem gcd_f : ∀ (b a k : Nat), b < k → rational_gcd.l0 k (a : Int) (b : Int) = some ((Nat.gcd a b : Nat) : Int)
  | b, a, 0, h => absurd h (Nat.not_lt_zero _)
  | b, a, k + 1, h => by
    rw [rational_gcd.l0]
    by_cases hb : b = 0
    · subst hb; rw [if_pos (by decide), Nat.gcd_zero_right]
    · have hm : a % b < b := Nat.mod_lt _ (by omega)
      rw [if_neg (by omega), tmod_nat, gcd_f (a % b) b k (by omega), Nat.gcd_comm b, ← Nat.gcd_rec, Nat.gcd_comm]
termination_by b => b
theorem common_f : ∀ (b a k : Nat), b < k → vinculumref02_common.l0 k (a : Int) (b : Int) = some ((Nat.gcd a b : Nat) : Int)
  | b, a, 0, h => absurd h (Nat.not_lt_zero _)
  | b, a, k + 1, h => by
    rw [vinculumref02_common.l0]
    by_cases hb : b = 0
    · subst hb; rw [if_neg (by decide), Nat.gcd_zero_right]
    · have hm : a % b < b := Nat.mod_lt _ (by omega)
      rw [if_pos (by omega), if_neg (by omega), tmod_nat, common_f (a % b) b k (by omega), Nat.gcd_comm b, ← Nat.gcd_rec, Nat.gcd_comm]
termination_by b => b
/-- valid -/
def vz (n d : Int) : Bool := decide (1 ≤ d) && (decide (d ≤ 2147483647) && (decide (-2147483647 ≤ n) && (decide (n ≤ 2147483647) && decide (Nat.gcd n.natAbs d.natAbs = 1))))
theorem vz_iff {n d : Int} : vz n d = true ↔ 1 ≤ d ∧ d ≤ 2147483647 ∧ -2147483647 ≤ n ∧ n ≤ 2147483647 ∧ Nat.gcd n.natAbs d.natAbs = 1 := by
  simp [vz, and_assoc]
/-- rounds that are enough -/
def Big (k : Nat) : Prop := 9223372036854775900 < k
theorem Big.pred {k : Nat} (h : Big k) : ∃ m, k = m + 1 := ⟨k - 1, by unfold Big at h; omega⟩
theorem one_beq (x : Nat) : ((x : Int) == 1) = decide (x = 1) := by
  rw [Bool.eq_iff_iff, beq_iff_eq, decide_eq_true_eq]; omega
theorem valid_f {n d : Int} (k : Nat) (hk : Big k) : rational_Valid.f k n d = some (vz n d) := by
  unfold Big at hk
  unfold rational_Valid.f vz
  by_cases h1 : 1 ≤ d
  · rw [if_pos h1]
    by_cases h2 : d ≤ 2147483647
    · rw [if_pos h2]
      by_cases h3 : -2147483647 ≤ n
      · rw [if_pos h3]
        by_cases h4 : n ≤ 2147483647
        · have hd : IntKind.u64.wrap d = (d.natAbs : Int) := by rw [u64 (by omega) (by omega)]; omega
          rw [if_pos h4, size_f ⟨by omega, by omega⟩, Option.bind_some, hd]
          unfold rational_gcd.f
          rw [gcd_f _ _ _ (by omega), Option.bind_some, one_beq]
          simp [h1, h2, h3, h4]
        · rw [if_neg h4]; simp [h4]
      · rw [if_neg h3]; simp [h3]
    · rw [if_neg h2]; simp [h2]
  · rw [if_neg h1]; simp [h1]
theorem rvalid_f {n d : Int} (k : Nat) (hk : Big k) : vinculumref02_Valid.f k n d = some (vz n d) := by
  unfold Big at hk
  unfold vinculumref02_Valid.f vz
  by_cases h1 : 1 ≤ d
  · rw [if_pos h1]
    by_cases h2 : d ≤ 2147483647
    · rw [if_pos h2]
      by_cases h3 : -2147483647 ≤ n
      · rw [if_pos h3]
        by_cases h4 : n ≤ 2147483647
        · rw [if_pos h4, rsize_f ⟨by omega, by omega⟩, Option.bind_some, rsize_f ⟨by omega, by omega⟩, Option.bind_some]
          unfold vinculumref02_common.f
          rw [common_f _ _ _ (by omega), Option.bind_some, one_beq]
          simp [h1, h2, h3, h4]
        · rw [if_neg h4]; simp [h4]
      · rw [if_neg h3]; simp [h3]
    · rw [if_neg h2]; simp [h2]
  · rw [if_neg h1]; simp [h1]
/-- the quotient of two sizes, with a sign -/
def quoz (neg : Bool) (a b : Nat) : Int × Int × Int :=
  if 2147483647 < a / Nat.gcd a b ∨ 2147483647 < b / Nat.gcd a b then (0, 0, 2) else (if neg = true then -((a / Nat.gcd a b : Nat) : Int) else ((a / Nat.gcd a b : Nat) : Int), ((b / Nat.gcd a b : Nat) : Int), 0)
def mkz (n d : Int) : Int × Int × Int := if d = 0 then (0, 0, 10) else quoz ((decide (n < 0)) != (decide (d < 0))) n.natAbs d.natAbs
theorem div_u (a g : Nat) (ha : a ≤ 9223372036854775808) : IntKind.u64.wrap (Int.tdiv (a : Int) (g : Int)) = ((a / g : Nat) : Int) := by
  rw [tdiv_nat]
  have := Nat.div_le_self a g
  generalize a / g = c at *
  exact u64 (by omega) (by omega)
theorem gcd_pos {a b : Nat} (h : b ≠ 0) : Nat.gcd a b ≠ 0 := by
  intro e; exact h (Nat.eq_zero_of_gcd_eq_zero_right e)
theorem make_f {n d : Int} (hn : i64 n) (hd : i64 d) (k : Nat) (hk : Big k) : rational_Make.f k n d = some (mkz n d) := by
  obtain ⟨k, rfl⟩ := hk.pred
  unfold Big at hk
  unfold rational_Make.f mkz
  by_cases h0 : d = 0
  · rw [if_pos h0, if_pos h0]
  · have hg := gcd_pos (a := n.natAbs) (b := d.natAbs) (by omega)
    have hn' : n.natAbs ≤ 9223372036854775808 := by unfold i64 at hn; omega
    have hd' : d.natAbs ≤ 9223372036854775808 := by unfold i64 at hd; omega
    rw [if_neg h0, if_neg h0, size_f hn, Option.bind_some, size_f hd, Option.bind_some]
    unfold rational_gcd.f quoz
    rw [gcd_f _ _ _ (by omega), Option.bind_some, if_neg (by omega), div_u _ _ hn', div_u _ _ hd', rational_Make.j0, rational_Make.j0]
    generalize n.natAbs / Nat.gcd n.natAbs d.natAbs = A
    generalize d.natAbs / Nat.gcd n.natAbs d.natAbs = B
    by_cases h1 : 2147483647 < A
    · rw [if_pos (by omega), if_pos rfl, if_pos (.inl h1)]
    · rw [if_neg (by omega)]
      by_cases h2 : 2147483647 < B
      · rw [if_pos (by rw [decide_eq_true_eq]; omega), if_pos (.inr h2)]
      · rw [if_neg (by rw [decide_eq_true_eq]; omega), if_neg (show ¬ (2147483647 < A ∨ 2147483647 < B) by omega), w64 (x := (A : Int)) (by omega) (by omega), w64 (x := -(A : Int)) (by omega) (by omega), w64 (x := (B : Int)) (by omega) (by omega)]
        split <;> rfl
theorem rquo_f {neg : Bool} {a b : Nat} (ha : a ≤ 9223372036854775808) (hb : b ≤ 9223372036854775808) (h0 : b ≠ 0) (k : Nat) (hk : Big k) : vinculumref02_quotient.f k neg (a : Int) (b : Int) = some (quoz neg a b) := by
  obtain ⟨k, rfl⟩ := hk.pred
  unfold Big at hk
  have hg := gcd_pos (a := a) (b := b) h0
  unfold vinculumref02_quotient.f quoz vinculumref02_common.f
  rw [common_f _ _ _ (by omega), Option.bind_some, if_neg (by omega), div_u _ _ ha, div_u _ _ hb, vinculumref02_quotient.j0, vinculumref02_quotient.j0]
  generalize a / Nat.gcd a b = A
  generalize b / Nat.gcd a b = B
  by_cases h1 : 2147483647 < A
  · rw [if_pos (by omega), if_pos rfl, if_pos (.inl h1)]
  · rw [if_neg (by omega)]
    by_cases h2 : 2147483647 < B
    · rw [if_pos (by rw [decide_eq_true_eq]; omega), if_pos (.inr h2)]
    · rw [if_neg (by rw [decide_eq_true_eq]; omega), if_neg (show ¬ (2147483647 < A ∨ 2147483647 < B) by omega), w64 (x := (A : Int)) (by omega) (by omega), w64 (x := -(A : Int)) (by omega) (by omega), w64 (x := (B : Int)) (by omega) (by omega)]
      split <;> rfl
theorem rmake_f {n d : Int} (hn : i64 n) (hd : i64 d) (k : Nat) (hk : Big k) : vinculumref02_Make.f k n d = some (mkz n d) := by
  unfold vinculumref02_Make.f mkz
  by_cases h0 : d = 0
  · rw [if_pos h0, if_pos h0]
  · have hn' : n.natAbs ≤ 9223372036854775808 := by unfold i64 at hn; omega
    have hd' : d.natAbs ≤ 9223372036854775808 := by unfold i64 at hd; omega
    rw [if_neg h0, if_neg h0, rsize_f hn, Option.bind_some, rsize_f hd, Option.bind_some, rquo_f hn' hd' (by omega) k hk, Option.bind_some]
def mulz (a b c d : Int) : Int × Int × Int := if vz a b = true then (if vz c d = true then mkz (a * c) (b * d) else (0, 0, 1)) else (0, 0, 1)
def divz (a b c d : Int) : Int × Int × Int := if vz a b = true then (if vz c d = true then mkz (a * d) (b * c) else (0, 0, 1)) else (0, 0, 1)
theorem prod_le {x y : Int} (h1 : -2147483647 ≤ x) (h2 : x ≤ 2147483647) (h3 : -2147483647 ≤ y) (h4 : y ≤ 2147483647) : -4611686014132420609 ≤ x * y ∧ x * y ≤ 4611686014132420609 := by
  have h : (x * y).natAbs ≤ 2147483647 * 2147483647 := by rw [Int.natAbs_mul]; exact Nat.mul_le_mul (by omega) (by omega)
  omega
theorem prod_i {x y : Int} (h1 : -2147483647 ≤ x) (h2 : x ≤ 2147483647) (h3 : -2147483647 ≤ y) (h4 : y ≤ 2147483647) : wrap64 (x * y) = x * y ∧ i64 (x * y) := by
  have := prod_le h1 h2 h3 h4
  exact ⟨w64 (by omega) (by omega), by unfold i64; omega⟩
theorem mul_f (a b c d : Int) (k : Nat) (hk : Big k) : rational_Mul.f k a b c d = some (mulz a b c d) := by
  unfold rational_Mul.f mulz
  rw [valid_f k hk, Option.bind_some]
  split
  · rename_i h1
    rw [valid_f k hk, Option.bind_some]
    split
    · rename_i h2
      rw [vz_iff] at h1 h2
      have p := prod_i (x := a) (y := c) (by omega) (by omega) (by omega) (by omega)
      have q := prod_i (x := b) (y := d) (by omega) (by omega) (by omega) (by omega)
      rw [p.1, q.1, make_f p.2 q.2 k hk, Option.bind_some]
    · rfl
  · rfl
theorem rmul_f (a b c d : Int) (k : Nat) (hk : Big k) : vinculumref02_Mul.f k a b c d = some (mulz a b c d) := by
  unfold vinculumref02_Mul.f mulz
  rw [rvalid_f k hk, Option.bind_some]
  split
  · rename_i h1
    rw [rvalid_f k hk, Option.bind_some]
    split
    · rename_i h2
      rw [vz_iff] at h1 h2
      have p := prod_i (x := a) (y := c) (by omega) (by omega) (by omega) (by omega)
      have q := prod_i (x := b) (y := d) (by omega) (by omega) (by omega) (by omega)
      rw [p.1, q.1, rmake_f p.2 q.2 k hk, Option.bind_some]
    · rfl
  · rfl
theorem div_f (a b c d : Int) (k : Nat) (hk : Big k) : rational_Div.f k a b c d = some (divz a b c d) := by
  unfold rational_Div.f divz
  rw [valid_f k hk, Option.bind_some]
  split
  · rename_i h1
    rw [valid_f k hk, Option.bind_some]
    split
    · rename_i h2
      rw [vz_iff] at h1 h2
      have p := prod_i (x := a) (y := d) (by omega) (by omega) (by omega) (by omega)
      have q := prod_i (x := b) (y := c) (by omega) (by omega) (by omega) (by omega)
      rw [p.1, q.1, make_f p.2 q.2 k hk, Option.bind_some]
    · rfl
  · rfl
theorem rdiv_f (a b c d : Int) (k : Nat) (hk : Big k) : vinculumref02_Div.f k a b c d = some (divz a b c d) := by
  unfold vinculumref02_Div.f divz
  rw [rvalid_f k hk, Option.bind_some]
  split
  · rename_i h1
    rw [rvalid_f k hk, Option.bind_some]
    split
    · rename_i h2
      rw [vz_iff] at h1 h2
      have p := prod_i (x := a) (y := d) (by omega) (by omega) (by omega) (by omega)
      have q := prod_i (x := b) (y := c) (by omega) (by omega) (by omega) (by omega)
      rw [p.1, q.1, rmake_f p.2 q.2 k hk, Option.bind_some]
    · rfl
  · rfl
/-! powers -/
/-- a power of a fraction in lowest terms, where it fits -/
def fitz (a b : Int) (e : Nat) : Prop := a.natAbs ^ e ≤ 2147483647 ∧ b.natAbs ^ e ≤ 2147483647
instance (a b : Int) (e : Nat) : Decidable (fitz a b e) := inferInstanceAs (Decidable (_ ∧ _))
def upz (a b : Int) (e : Nat) : Int × Int × Int := if fitz a b e then (a ^ e, b ^ e, 0) else (0, 0, 2)
def powz (a b n : Int) : Int × Int × Int :=
  if vz a b = true then
    if n = 0 then (1, 1, 0)
    else if a = 0 then (if n < 0 then (0, 0, 10) else (0, b, 0))
    else if a = 1 ∧ b = 1 then (1, 1, 0)
    else if a = -1 ∧ b = 1 then (if Int.tmod n 2 = 0 then (1, 1, 0) else (a, b, 0))
    else if n < -31 ∨ 31 < n then (0, 0, 2)
    else if 0 < n then upz a b n.natAbs
    else upz (if a < 0 then -b else b) (a.natAbs : Int) n.natAbs
  else (0, 0, 1)
theorem natAbs_pow (a : Int) (e : Nat) : (a ^ e).natAbs = a.natAbs ^ e := Int.natAbs_pow a e
theorem pow_cop {a b : Int} (h : Nat.gcd a.natAbs b.natAbs = 1) (m n : Nat) : Nat.gcd (a.natAbs ^ m) (b.natAbs ^ n) = 1 :=
  Nat.Coprime.pow m n h
theorem mono_pow {x : Nat} (hx : 1 ≤ x) {m n : Nat} (h : m ≤ n) : x ^ m ≤ x ^ n := Nat.pow_le_pow_right hx h
theorem fit_mono {a b : Int} (ha : a ≠ 0) (hb : 1 ≤ b) {m n : Nat} (h : m ≤ n) (hf : fitz a b n) : fitz a b m :=
  ⟨Nat.le_trans (mono_pow (by omega) h) hf.1, Nat.le_trans (mono_pow (by omega) h) hf.2⟩
theorem vz_pow {a b : Int} (h : vz a b = true) (e : Nat) (hf : fitz a b e) : vz (a ^ e) (b ^ e) = true := by
  rw [vz_iff] at h ⊢
  have h1 : 0 < b ^ e := Int.pow_pos (by omega)
  have h2 := natAbs_pow a e
  have h3 := natAbs_pow b e
  have f1 := hf.1
  have f2 := hf.2
  rw [← h2] at f1
  rw [← h3] at f2
  refine ⟨by omega, by omega, by omega, by omega, ?_⟩
  rw [h2, h3]
  exact pow_cop h.2.2.2.2 e e
theorem quoz_one {neg : Bool} {a b : Nat} (h : Nat.gcd a b = 1) : quoz neg a b = if 2147483647 < a ∨ 2147483647 < b then (0, 0, 2) else (if neg = true then -(a : Int) else (a : Int), (b : Int), 0) := by
  unfold quoz
  rw [h, Nat.div_one, Nat.div_one]
/-- the product of two powers of one fraction -/
theorem mul_pow {a b : Int} (h : vz a b = true) (m n : Nat) (hm : fitz a b m) (hn : fitz a b n) : mulz (a ^ m) (b ^ m) (a ^ n) (b ^ n) = upz a b (m + n) := by
  unfold mulz
  rw [if_pos (vz_pow h m hm), if_pos (vz_pow h n hn), ← Int.pow_add, ← Int.pow_add]
  rw [vz_iff] at h
  have hb : 0 < b ^ (m + n) := Int.pow_pos (by omega)
  unfold mkz
  rw [if_neg (by omega), natAbs_pow, natAbs_pow, quoz_one (pow_cop h.2.2.2.2 _ _)]
  unfold upz
  have ea := natAbs_pow a (m + n)
  have eb := natAbs_pow b (m + n)
  by_cases hf : fitz a b (m + n)
  · have hf' := hf
    unfold fitz at hf'
    rw [if_pos hf, if_neg (by omega)]
    rw [← ea, ← eb]
    have : decide (b ^ (m + n) < 0) = false := decide_eq_false (by omega)
    rw [this]
    by_cases hs : a ^ (m + n) < 0
    · rw [decide_eq_true hs, if_pos (by decide)]
      congr 1
      · omega
      · congr 1; omega
    · rw [decide_eq_false hs, if_neg (by decide)]
      congr 1
      · omega
      · congr 1; omega
  · have hf' := hf
    unfold fitz at hf'
    rw [if_neg hf, if_pos (by omega)]
theorem fit_one {a b : Int} (h : vz a b = true) : fitz a b 1 := by
  rw [vz_iff] at h
  unfold fitz
  rw [Nat.pow_one, Nat.pow_one]
  omega
theorem fit_zero (a b : Int) : fitz a b 0 := by unfold fitz; simp
theorem rpow_l0 {a b : Int} (h : vz a b = true) (ha : a ≠ 0) (n : Nat) (hn : n ≤ 31) : ∀ (m i k : Nat), n = i + m → fitz a b i → Big k → vinculumref02_Pow.l0 (k + m) (n : Int) (i : Int) a b (a ^ i) (b ^ i) = some (upz a b n)
  | 0, i, k, hm, hf, hk => by
    obtain ⟨k, rfl⟩ := hk.pred
    have e : n = i := by omega
    subst e
    rw [Nat.add_zero, vinculumref02_Pow.l0, if_neg (by omega)]
    unfold upz
    rw [if_pos hf]
  | m + 1, i, k, hm, hf, hk => by
    have hb : 1 ≤ b := (vz_iff.1 h).1
    have hk2 : Big (k + m) := by unfold Big at hk ⊢; omega
    have hp := mul_pow h i 1 hf (fit_one h)
    rw [Int.pow_one a, Int.pow_one b] at hp
    rw [show k + (m + 1) = (k + m) + 1 from rfl, vinculumref02_Pow.l0, if_pos (by omega), rmul_f _ _ _ _ _ hk2, Option.bind_some, hp, w64 (x := (i : Int) + 1) (by omega) (by omega)]
    by_cases hf2 : fitz a b (i + 1)
    · have e : upz a b (i + 1) = (a ^ (i + 1), b ^ (i + 1), 0) := if_pos hf2
      rw [e]
      exact rpow_l0 h ha n hn m (i + 1) k (by omega) hf2 hk
    · have e : upz a b (i + 1) = (0, 0, 2) := if_neg hf2
      have e2 : upz a b n = (0, 0, 2) := if_neg (fun hc => hf2 (fit_mono ha hb (by omega) hc))
      rw [e, e2]
      rfl
theorem vz_inv {a b : Int} (h : vz a b = true) (ha : a ≠ 0) : vz (if a < 0 then -b else b) (a.natAbs : Int) = true := by
  rw [vz_iff] at h ⊢
  have e : (if a < 0 then -b else b).natAbs = b.natAbs := by split <;> omega
  refine ⟨by omega, by omega, by split <;> omega, by split <;> omega, ?_⟩
  rw [e, Nat.gcd_comm]
  have : ((a.natAbs : Int)).natAbs = a.natAbs := by omega
  rw [this]; exact h.2.2.2.2
theorem mk_inv {a b : Int} (h : vz a b = true) (ha : a ≠ 0) : mkz b a = (if a < 0 then -b else b, (a.natAbs : Int), 0) := by
  rw [vz_iff] at h
  unfold mkz
  rw [if_neg ha, quoz_one (by rw [Nat.gcd_comm]; exact h.2.2.2.2), if_neg (by omega)]
  have : decide (b < 0) = false := decide_eq_false (by omega)
  rw [this]
  by_cases hs : a < 0
  · rw [decide_eq_true hs, if_pos (by decide), if_pos hs]
    congr 1; omega
  · rw [decide_eq_false hs, if_neg (by decide), if_neg hs]
    congr 1; omega
theorem neg_pow (b : Int) : ∀ e : Nat, (-b) ^ e = if e % 2 = 0 then b ^ e else -(b ^ e)
  | 0 => by simp
  | e + 1 => by
    rw [Int.pow_succ, neg_pow b e, Int.pow_succ]
    by_cases h : e % 2 = 0
    · rw [if_pos h, if_neg (by omega), Int.mul_neg]
    · rw [if_neg h, if_pos (by omega), Int.neg_mul_neg]
theorem pow_sign {a : Int} (ha : a < 0) : ∀ e : Nat, (e % 2 = 0 → 0 < a ^ e) ∧ (e % 2 ≠ 0 → a ^ e < 0)
  | 0 => ⟨fun _ => by simp, fun h => absurd rfl h⟩
  | e + 1 => by
    obtain ⟨h1, h2⟩ := pow_sign ha e
    rw [Int.pow_succ]
    refine ⟨fun h => ?_, fun h => ?_⟩
    · exact Int.mul_pos_of_neg_of_neg (h2 (by omega)) ha
    · exact Int.mul_neg_of_pos_of_neg (h1 (by omega)) ha
/-- the inverse of a power is the power of the inverse -/
theorem mk_pow_inv {a b : Int} (h : vz a b = true) (ha : a ≠ 0) (e : Nat) (hf : fitz a b e) : mkz (b ^ e) (a ^ e) = upz (if a < 0 then -b else b) (a.natAbs : Int) e := by
  have hv := vz_pow h e hf
  have ha' : a ^ e ≠ 0 := by
    intro c
    have := natAbs_pow a e
    rw [c] at this
    have h2 : 0 < a.natAbs ^ e := Nat.pow_pos (by omega)
    simp at this
    omega
  rw [mk_inv hv ha']
  unfold upz
  have e1 : (if a < 0 then -b else b).natAbs = b.natAbs := by split <;> omega
  have e2 : ((a.natAbs : Int)).natAbs = a.natAbs := by omega
  rw [if_pos (show fitz (if a < 0 then -b else b) (a.natAbs : Int) e by unfold fitz; rw [e1, e2]; exact ⟨hf.2, hf.1⟩), natAbs_pow]
  congr 1
  · by_cases hs : a < 0
    · rw [if_pos hs, neg_pow]
      obtain ⟨p1, p2⟩ := pow_sign hs e
      by_cases he : e % 2 = 0
      · rw [if_pos he, if_neg (by have := p1 he; omega)]
      · rw [if_neg he, if_pos (p2 he)]
    · rw [if_neg hs, if_neg]
      have : 0 < a ^ e := Int.pow_pos (by omega)
      omega
theorem beq_and {a b x y : Int} : ((a == x) && (b == y)) = true ↔ a = x ∧ b = y := by simp
theorem rpow_pos {a b : Int} (h : vz a b = true) (ha : a ≠ 0) (h1 : ¬ (a = 1 ∧ b = 1)) (h2 : ¬ (a = -1 ∧ b = 1)) (n : Nat) (h0 : 1 ≤ n) (hn : n ≤ 31) (k : Nat) (hk : Big k) : vinculumref02_Pow.f (k + n + 4) a b (n : Int) = some (upz a b n) := by
  rw [show k + n + 4 = (k + n + 3) + 1 from rfl, vinculumref02_Pow.f, rvalid_f _ (by unfold Big at hk ⊢; omega), Option.bind_some, if_pos h, if_neg (by omega)]
  rw [show k + n + 3 = (k + n + 2) + 1 from rfl, vinculumref02_Pow.j0, if_neg (fun c => h1 (beq_and.1 c)), if_neg ha]
  rw [show k + n + 2 = (k + n + 1) + 1 from rfl, vinculumref02_Pow.j1, if_neg (by decide), if_neg ha, if_neg (fun c => h2 (beq_and.1 c)), if_neg (by omega)]
  rw [show k + n + 1 = (k + n) + 1 from rfl, vinculumref02_Pow.j2, if_neg (by rw [decide_eq_true_eq]; omega), if_neg (by omega)]
  have := rpow_l0 h ha n hn n 0 k (by omega) (fit_zero a b) hk
  rw [Int.pow_zero, Int.pow_zero] at this
  exact this
/-- the reference's Pow -/
theorem rpow_f {a b n : Int} (hn : i64 n) (k : Nat) (hk : Big k) : vinculumref02_Pow.f (k + 100) a b n = some (powz a b n) := by
  unfold powz
  have hb1 : ∀ j, Big (k + j) := fun j => by unfold Big at hk ⊢; omega
  rw [show k + 100 = (k + 99) + 1 from rfl, vinculumref02_Pow.f, rvalid_f _ (hb1 99), Option.bind_some]
  by_cases h : vz a b = true
  · rw [if_pos h, if_pos h]
    by_cases h0 : n = 0
    · rw [if_pos h0, if_pos h0, show k + 99 = (k + 98) + 1 from rfl, vinculumref02_Pow.j0, if_pos rfl]
    · rw [if_neg h0, if_neg h0, show k + 99 = (k + 98) + 1 from rfl, vinculumref02_Pow.j0]
      by_cases h11 : a = 1 ∧ b = 1
      · rw [if_pos (beq_and.2 h11), if_neg (by omega), if_pos h11]
      · rw [if_neg (fun c => h11 (beq_and.1 c))]
        by_cases ha : a = 0
        · rw [if_pos ha, if_pos ha, show k + 98 = (k + 97) + 1 from rfl, vinculumref02_Pow.j1]
          by_cases hs : n < 0
          · rw [if_pos (decide_eq_true hs), if_pos hs]
          · rw [if_neg (by rw [decide_eq_true_eq]; exact hs), if_neg hs, if_pos ha, ha]
        · rw [if_neg ha, if_neg ha, if_neg h11, show k + 98 = (k + 97) + 1 from rfl, vinculumref02_Pow.j1, if_neg (by decide), if_neg ha]
          by_cases hm : a = -1 ∧ b = 1
          · rw [if_pos (beq_and.2 hm), if_pos hm]
            split <;> rfl
          · rw [if_neg (fun c => hm (beq_and.1 c)), if_neg hm]
            by_cases hlo : n < -31
            · rw [if_pos hlo, if_pos (.inl hlo), show k + 97 = (k + 96) + 1 from rfl, vinculumref02_Pow.j2, if_pos rfl]
            · rw [if_neg hlo, show k + 97 = (k + 96) + 1 from rfl, vinculumref02_Pow.j2]
              by_cases hhi : n > 31
              · rw [if_pos (decide_eq_true hhi), if_pos (.inr hhi)]
              · rw [if_neg (show ¬ decide (n > 31) = true by rw [decide_eq_true_eq]; exact hhi), if_neg (show ¬ (n < -31 ∨ 31 < n) by omega)]
                by_cases hs : n < 0
                · have hv := vz_iff.1 h
                  rw [if_pos hs, if_neg (by omega), rmake_f (by unfold i64; omega) (by unfold i64; omega) _ (hb1 96), Option.bind_some, mk_inv h ha, w64 (x := -n) (by omega) (by omega)]
                  have e : -n = (n.natAbs : Int) := by omega
                  have hi := vz_inv h ha
                  have hc1 : ¬ ((if a < 0 then -b else b) = 1 ∧ (a.natAbs : Int) = 1) := by split <;> omega
                  have hc2 : ¬ ((if a < 0 then -b else b) = -1 ∧ (a.natAbs : Int) = 1) := by split <;> omega
                  have hc0 : (if a < 0 then -b else b) ≠ 0 := by split <;> omega
                  rw [e]
                  have := rpow_pos hi hc0 hc1 hc2 n.natAbs (by omega) (by omega) (k + (92 - n.natAbs)) (hb1 _)
                  rw [show k + (92 - n.natAbs) + n.natAbs + 4 = k + 96 by omega] at this
                  rw [this, Option.bind_some]
                · rw [if_neg hs, if_pos (by omega)]
                  obtain ⟨m, rfl⟩ : ∃ m : Nat, n = m := ⟨n.natAbs, by omega⟩
                  have := rpow_l0 h ha m (by omega) m 0 (k + (96 - m)) (by omega) (fit_zero a b) (hb1 _)
                  rw [Int.pow_zero, Int.pow_zero, show k + (96 - m) + m = k + 96 by omega] at this
                  rw [show ((m : Int)).natAbs = m from rfl]
                  exact this
  · rw [if_neg h, if_neg h]
end Go.Proofs.YtjnheoelcahkaaaDoor.Rat
