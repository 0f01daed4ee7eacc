/-
  The walk of UnitPowers.
-/
import Derived.Test.YtjnheoelcahkaaaDoorUnText
import Derived.Test.YtjnheoelcahkaaaDoorUnRefP
set_option linter.unusedVariables false
set_option linter.unusedSimpArgs false
namespace Go.Proofs.YtjnheoelcahkaaaDoor.Gv
open Go.RowKit Go.Proofs.YtjnheoelcahkaaaDoorW.PrintWords Go.Proofs.YtjnheoelcahkaaaDoorW.PrintLast Go.Proofs.YtjnheoelcahkaaaDoorW.PrintMore
/-- what Pow answers -/
def powD (d : Nat → Int) (n : Int) : (Nat → Int) × Int := combD (fun x _ => x * clampD n) d d
theorem combD_ok {f : Int → Int → Int} {a b : Nat → Int} (h : (combD f a b).2 = 0) : dimB a = true ∧ dimB b = true ∧ dimB (mixD f a b 7) = true ∧ combD f a b = (mixD f a b 7, 0) := by
  unfold combD at h ⊢
  by_cases h1 : dimB a = true ∧ dimB b = true
  · rw [if_pos h1] at h ⊢
    by_cases h2 : dimB (mixD f a b 7) = true
    · rw [if_pos h2]; exact ⟨h1.1, h1.2, h2, rfl⟩
    · rw [if_neg h2] at h; cases h
  · rw [if_neg h1] at h; cases h
theorem mixD_lt {f : Int → Int → Int} {a b : Nat → Int} {j : Nat} (h : j < 7) : mixD f a b 7 j = f (a j) (b j) := if_pos h
theorem okD_le' {d : Nat → Int} (h : dimB d = true) {j : Nat} (hj : j < 7) : -100 ≤ d j ∧ d j ≤ 100 := okD_le ((dimB_iff d).1 h j hj)
theorem clamp_cases (n : Int) : clampD n = n ∧ -101 ≤ n ∧ n ≤ 101 ∨ clampD n = 101 ∧ 101 < n ∨ clampD n = -101 ∧ n < -101 := by unfold clampD; omega
/-- a valid power that is not the zero of its place bears its own exponent -/
theorem pow_place {x n : Int} (h : -100 ≤ x * clampD n) (h' : x * clampD n ≤ 100) : x = 0 ∨ clampD n = n := by
  rcases clamp_cases n with h1 | h1 | h1
  · exact .inr h1.1
  · rw [h1.1] at h h'; left; omega
  · rw [h1.1] at h h'; left; omega
theorem powers (d : Nat → Int) (m n : Int) (h1 : (powD d m).2 = 0) (h2 : (powD d n).2 = 0) (h3 : (powD d (m + n)).2 = 0) :
    (combD (· + ·) (powD d m).1 (powD d n).1).2 = 0 ∧ eqD (combD (· + ·) (powD d m).1 (powD d n).1).1 (powD d (m + n)).1 = true := by
  unfold powD at *
  obtain ⟨v, _, a1, a2⟩ := combD_ok h1
  obtain ⟨_, _, b1, b2⟩ := combD_ok h2
  obtain ⟨_, _, c1, c2⟩ := combD_ok h3
  rw [a2, b2, c2]
  have key : ∀ j, j < 7 → mixD (· + ·) (mixD (fun x _ => x * clampD m) d d 7) (mixD (fun x _ => x * clampD n) d d 7) 7 j = mixD (fun x _ => x * clampD (m + n)) d d 7 j := by
    intro j hj
    rw [mixD_lt hj, mixD_lt hj, mixD_lt hj, mixD_lt hj]
    have ea := okD_le' a1 hj
    have eb := okD_le' b1 hj
    have ec := okD_le' c1 hj
    rw [mixD_lt hj] at ea eb ec
    rcases pow_place ea.1 ea.2 with h | ha
    · rw [h]; simp
    · rcases pow_place eb.1 eb.2 with h | hb
      · rw [h]; simp
      · rcases pow_place ec.1 ec.2 with h | hc
        · rw [h]; simp
        · show d j * clampD m + d j * clampD n = d j * clampD (m + n)
          rw [ha, hb, hc, Int.mul_add]
  have hok : dimB (mixD (· + ·) (mixD (fun x _ => x * clampD m) d d 7) (mixD (fun x _ => x * clampD n) d d 7) 7) = true := by
    rw [dimB_iff]
    intro j hj
    rw [key j hj]
    exact (dimB_iff _).1 c1 j hj
  have e : combD (· + ·) (mixD (fun x _ => x * clampD m) d d 7) (mixD (fun x _ => x * clampD n) d d 7) = (mixD (· + ·) (mixD (fun x _ => x * clampD m) d d 7) (mixD (fun x _ => x * clampD n) d d 7) 7, 0) := by
    unfold combD
    rw [if_pos ⟨a1, b1⟩, if_pos hok]
  rw [e]
  exact ⟨rfl, (eqD_iff _ _).2 key⟩
set_option maxHeartbeats 4000000 in
set_option maxRecDepth 1000000 in
theorem UnitPowers.calls (d : Nat → Int) (m n : Int) (w : World) (hG : Gw w) (hm1 : -128 ≤ m) (hm2 : m ≤ 127) (hn1 : -128 ≤ n) (hn2 : n ≤ 127) :
    Calls Tryd.prog 3 #[.agg (agg7 d), .int .i8 m, .int .i8 n] w fun e w' => e = .returned (.bool true) ∧ Below w.heap.size w w' := by
  have ca := fun W (hW : Gw W) => vinculumlaw53_awake.any W hW
  have c1 := fun W => unit_Pow.any d m W
  have c2 := fun W => unit_Pow.any d n W
  have c3 := fun W => unit_Pow.any d (m + n) W
  have c4 := fun W => unit_Mul.any (powD d m).1 (powD d n).1 W
  have P := powers d m n
  change ∀ W, Calls _ _ _ W fun e w' => e = .returned (.tuple #[.agg (agg7 (powD d m).1), .int .i64 (powD d m).2]) ∧ _ at c1
  change ∀ W, Calls _ _ _ W fun e w' => e = .returned (.tuple #[.agg (agg7 (powD d n).1), .int .i64 (powD d n).2]) ∧ _ at c2
  change ∀ W, Calls _ _ _ W fun e w' => e = .returned (.tuple #[.agg (agg7 (powD d (m + n)).1), .int .i64 (powD d (m + n)).2]) ∧ _ at c3
  generalize (powD d m).1 = a at *
  generalize (powD d m).2 = ea at *
  generalize (powD d n).1 = b at *
  generalize (powD d n).2 = eb at *
  generalize (powD d (m + n)).1 = c at *
  generalize (powD d (m + n)).2 = ec at *
  have CA := Aside0.mk ca
  have HP := Aside0.mk P
  have GA := Aside0.mk (Gw.below hG ((Below.refl w.heap.size w).alloc (Nat.le_refl _) (.cells (agg7 d) 23)))
  clear ca hG P
  go_enter Tryd.func3, Tryd.ntmps3
  go_wp2_with fail
  refine (CA.out _ GA.out).mono ?_
  rintro e w1 ⟨rfl, hb1⟩
  have D1 := Aside0.mk (blk_below (show (w.alloc (.cells (agg7 d) 23)).heap[w.heap.size]? = some (.cells (agg7 d) 23 (0, 0)) from blk_new _ _) hb1)
  have B1 := Aside0.mk (box_below hb1)
  clear hb1
  obtain ⟨D_0, D_1, D_2, D_3, D_4, D_5, D_6⟩ := cells7 D1.out
  have lD := blk_lt D1.out
  have nD := Nat.ne_of_lt lD
  have mD := Ne.symm nD
  go_wp2_with fail
  refine (c1 _).mono ?_
  rintro e w2 ⟨rfl, hb2⟩
  clear D_0 D_1 D_2 D_3 D_4 D_5 D_6 lD nD mD
  have D2 := Aside0.mk (blk_below D1.out hb2)
  have B2 := Aside0.mk (keepB hb2 B1.out)
  clear hb2 D1 B1
  obtain ⟨D_0, D_1, D_2, D_3, D_4, D_5, D_6⟩ := cells7 D2.out
  have lD := blk_lt D2.out
  have nD := Nat.ne_of_lt lD
  have mD := Ne.symm nD
  go_wp2_with fail
  refine (c2 _).mono ?_
  rintro e w3 ⟨rfl, hb3⟩
  clear D_0 D_1 D_2 D_3 D_4 D_5 D_6 lD nD mD
  have D3 := Aside0.mk (blk_below (blk_alloc D2.out _) hb3)
  have P3 := Aside0.mk (blk_below (blk_new w2 (.cells (agg7 a) 23)) hb3)
  have B3 := Aside0.mk (keepB (box_below hb3) B2.out)
  clear hb3 D2 B2
  obtain ⟨D_0, D_1, D_2, D_3, D_4, D_5, D_6⟩ := cells7 D3.out
  have lD := blk_lt D3.out
  have nD := Nat.ne_of_lt lD
  have mD := Ne.symm nD
  go_wp2_with fail
  refine (c3 _).mono ?_
  rintro e w4 ⟨rfl, hb4⟩
  clear D_0 D_1 D_2 D_3 D_4 D_5 D_6 lD nD mD
  have D4 := Aside0.mk (blk_below (blk_alloc D3.out _) hb4)
  have P4 := Aside0.mk (blk_below (blk_alloc P3.out _) hb4)
  have Q4 := Aside0.mk (blk_below (blk_new w3 (.cells (agg7 b) 23)) hb4)
  have B4 := Aside0.mk (keepB (box_below hb4) B3.out)
  clear hb4 D3 P3 B3
  clear c1 c2 c3
  by_cases he : ea = 0
  · subst he
    by_cases hf : eb = 0
    · subst hf
      by_cases hg : ec = 0
      · subst hg
        have hp := HP.out rfl rfl rfl
        have ke : ((0 : Int) != 0) = false := by decide
        generalize (combD (fun x y : Int => x + y) a b).1 = q at c4 hp
        obtain ⟨hp1, hp2⟩ := hp
        rw [hp1] at c4
        have heq := fun W => eq7 q c W
        rw [hp2] at heq
        clear hp1 hp2 HP
        have HE := Aside0.mk heq
        clear heq ke
        obtain ⟨P_0, P_1, P_2, P_3, P_4, P_5, P_6⟩ := cells7 P4.out
        have lP := blk_lt P4.out
        have nP := Nat.ne_of_lt lP
        have mP := Ne.symm nP
        obtain ⟨Q_0, Q_1, Q_2, Q_3, Q_4, Q_5, Q_6⟩ := cells7 Q4.out
        have lQ := blk_lt Q4.out
        have nQ := Nat.ne_of_lt lQ
        have mQ := Ne.symm nQ
        go_wp2_with fail
        refine (c4 _).mono ?_
        rintro e w5 ⟨rfl, hb5⟩
        clear P_0 P_1 P_2 P_3 P_4 P_5 P_6 lP nP mP Q_0 Q_1 Q_2 Q_3 Q_4 Q_5 Q_6 lQ nQ mQ
        have D5 := Aside0.mk (blk_below (blk_alloc D4.out _) hb5)
        have P5 := Aside0.mk (blk_below (blk_alloc P4.out _) hb5)
        have Q5 := Aside0.mk (blk_below (blk_alloc Q4.out _) hb5)
        have C5 := Aside0.mk (blk_below (blk_new w4 (.cells (agg7 c) 23)) hb5)
        have B5 := Aside0.mk (keepB (box_below hb5) B4.out)
        clear hb5 D4 P4 Q4 B4
        clear c4
        have heq := HE.out
        obtain ⟨C_0, C_1, C_2, C_3, C_4, C_5, C_6⟩ := cells7 C5.out
        have lC := blk_lt C5.out
        have nC := Nat.ne_of_lt lC
        have mC := Ne.symm nC
        go_wp2
        go_ret
        exact ⟨rfl, B5.out.alloc B5.out.size _⟩
      · have k3 : (ec != 0) = true := by simpa using hg
        clear hg HP c4
        go_wp2
        go_ret
        exact ⟨rfl, B4.out.alloc B4.out.size _⟩
    · have k2 : (eb != 0) = true := by simpa using hf
      clear hf HP c4
      go_wp2
      go_ret
      exact ⟨rfl, B4.out.alloc B4.out.size _⟩
  · have k1 : (ea != 0) = true := by simpa using he
    clear he HP c4
    go_wp2
    go_ret
    exact ⟨rfl, B4.out.alloc B4.out.size _⟩
end Go.Proofs.YtjnheoelcahkaaaDoor.Gv
