/-
  The walk of UnitGroup.
-/
import Derived.Test.YtjnheoelcahkaaaDoorUnLaw1
set_option linter.unusedVariables false
set_option linter.unusedSimpArgs false
namespace Go.Proofs.YtjnheoelcahkaaaDoor.Gv
open Go.RowKit Go.Proofs.YtjnheoelcahkaaaDoorW.PrintWords Go.Proofs.YtjnheoelcahkaaaDoorW.PrintLast Go.Proofs.YtjnheoelcahkaaaDoorW.PrintMore
theorem eqD_of {p q : Nat → Int} (h : ∀ j, j < 7 → p j = q j) : eqD p q = true := (eqD_iff p q).2 h
theorem dimB_of {p : Nat → Int} (h : ∀ j, j < 7 → -100 ≤ p j ∧ p j ≤ 100) : dimB p = true := (dimB_iff p).2 fun j hj => by have := h j hj; simp [okD]; omega
theorem dimB_congr {p q : Nat → Int} (h : ∀ j, j < 7 → p j = q j) : dimB p = dimB q := by
  rw [Bool.eq_iff_iff, dimB_iff, dimB_iff]
  exact ⟨fun g j hj => by rw [← h j hj]; exact g j hj, fun g j hj => by rw [h j hj]; exact g j hj⟩
theorem combD_congr {f : Int → Int → Int} {a b a' b' : Nat → Int} (ha : dimB a = dimB a') (hb : dimB b = dimB b') {f' : Int → Int → Int} (h : ∀ j, j < 7 → f (a j) (b j) = f' (a' j) (b' j)) :
    (combD f a b).2 = (combD f' a' b').2 ∧ eqD (combD f a b).1 (combD f' a' b').1 = true := by
  have hm : ∀ j, j < 7 → mixD f a b 7 j = mixD f' a' b' 7 j := fun j hj => by rw [mixD_lt hj, mixD_lt hj]; exact h j hj
  have hd := dimB_congr hm
  unfold combD
  rw [ha, hb, hd]
  split
  · split
    · exact ⟨rfl, eqD_of hm⟩
    · exact ⟨rfl, eqD_refl _⟩
  · exact ⟨rfl, eqD_refl _⟩
theorem group1 (a b : Nat → Int) : (combD (· + ·) b a).2 = (combD (· + ·) a b).2 ∧ eqD (combD (· + ·) a b).1 (combD (· + ·) b a).1 = true := by
  unfold combD
  have hm : ∀ j, j < 7 → mixD (fun x y : Int => x + y) a b 7 j = mixD (fun x y : Int => x + y) b a 7 j := fun j hj => by rw [mixD_lt hj, mixD_lt hj]; exact Int.add_comm _ _
  have hd := dimB_congr hm
  rw [hd]
  by_cases h : dimB a = true ∧ dimB b = true
  · rw [if_pos h, if_pos h.symm]
    split
    · exact ⟨rfl, eqD_of hm⟩
    · exact ⟨rfl, eqD_refl _⟩
  · rw [if_neg h, if_neg (fun g => h g.symm)]
    exact ⟨rfl, eqD_refl _⟩
theorem group2 (a b : Nat → Int) (h : (combD (· + ·) a b).2 = 0) : (combD (· - ·) (combD (· + ·) a b).1 b).2 = 0 ∧ eqD (combD (· - ·) (combD (· + ·) a b).1 b).1 a = true := by
  obtain ⟨va, vb, vc, e⟩ := combD_ok h
  rw [e]
  have hm : ∀ j, j < 7 → mixD (fun x y : Int => x - y) (mixD (fun x y : Int => x + y) a b 7) b 7 j = a j := fun j hj => by
    rw [mixD_lt hj, mixD_lt hj]
    show a j + b j - b j = a j
    omega
  have hd := dimB_congr hm
  unfold combD
  rw [if_pos ⟨vc, vb⟩, if_pos (hd.trans va)]
  exact ⟨rfl, eqD_of hm⟩
theorem group3 (a b c : Nat → Int) (h : (combD (· + ·) a b).2 = 0) (h' : (combD (· + ·) b c).2 = 0) :
    (combD (· + ·) a (combD (· + ·) b c).1).2 = (combD (· + ·) (combD (· + ·) a b).1 c).2 ∧ eqD (combD (· + ·) (combD (· + ·) a b).1 c).1 (combD (· + ·) a (combD (· + ·) b c).1).1 = true := by
  obtain ⟨va, vb, vab, e⟩ := combD_ok h
  obtain ⟨_, vc, vbc, e'⟩ := combD_ok h'
  rw [e, e']
  have := combD_congr (f := fun x y : Int => x + y) (f' := fun x y : Int => x + y) (a := mixD (fun x y : Int => x + y) a b 7) (b := c) (a' := a) (b' := mixD (fun x y : Int => x + y) b c 7) (vab.trans va.symm) (vc.trans vbc.symm) (fun j hj => by
    rw [mixD_lt hj, mixD_lt hj]; exact Int.add_assoc _ _ _)
  exact ⟨this.1.symm, this.2⟩
theorem group4 (a : Nat → Int) (h : (combD (· + ·) a a).2 = 0) : (rootD (combD (· + ·) a a).1).2 = 0 ∧ eqD (rootD (combD (· + ·) a a).1).1 a = true := by
  obtain ⟨va, _, vc, e⟩ := combD_ok h
  rw [e]
  have hev : evenD (mixD (fun x y : Int => x + y) a a 7) = true := (evenD_iff _).2 fun j hj => by
    rw [mixD_lt hj]
    show ((a j + a j).tmod 2 == 0) = true
    rw [beq_iff_eq, show a j + a j = a j * 2 by omega, Int.mul_tmod_left]
  unfold rootD
  rw [if_pos vc, if_pos hev]
  refine ⟨rfl, eqD_of fun j hj => ?_⟩
  show halfD (mixD (fun x y : Int => x + y) a a 7) 7 j = a j
  unfold halfD
  rw [if_pos hj, mixD_lt hj]
  show (a j + a j).tdiv 2 = a j
  rw [show a j + a j = a j * 2 by omega, Int.mul_tdiv_cancel _ (by decide)]
set_option maxHeartbeats 8000000 in
set_option maxRecDepth 1000000 in
theorem UnitGroup.calls (a b c : Nat → Int) (w : World) (hG : Gw w) :
    Calls Tryd.prog 4 #[.agg (agg7 a), .agg (agg7 b), .agg (agg7 c)] w fun e w' => e = .returned (.bool true) ∧ Below w.heap.size w w' := by
  have ca := fun W (hW : Gw W) => vinculumlaw53_awake.any W hW
  have g1 := group1 a b
  have g2 := group2 a b
  have g3 := group3 a b c
  have g4 := group4 a
  have c1 := fun W => unit_Mul.any a b W
  have c2 := fun W => unit_Mul.any b a W
  have c3 := fun W => unit_Div.any (combD (· + ·) a b).1 b W
  have c4 := fun W => unit_Mul.any b c W
  have c5 := fun W => unit_Mul.any (combD (· + ·) a b).1 c W
  have c6 := fun W => unit_Mul.any a (combD (· + ·) b c).1 W
  have c7 := fun W => unit_Mul.any a a W
  have c8 := fun W => unit_Root.any (combD (· + ·) a a).1 W
  generalize (rootD (combD (fun x y : Int => x + y) a a).1).1 = r8 at *
  generalize (rootD (combD (fun x y : Int => x + y) a a).1).2 = e8 at *
  generalize (combD (fun x y : Int => x + y) a a).1 = r7 at *
  generalize (combD (fun x y : Int => x + y) a a).2 = e7 at *
  generalize (combD (fun x y : Int => x + y) a (combD (fun x y : Int => x + y) b c).1).1 = r6 at *
  generalize (combD (fun x y : Int => x + y) a (combD (fun x y : Int => x + y) b c).1).2 = e6 at *
  generalize (combD (fun x y : Int => x + y) (combD (fun x y : Int => x + y) a b).1 c).1 = r5 at *
  generalize (combD (fun x y : Int => x + y) (combD (fun x y : Int => x + y) a b).1 c).2 = e5 at *
  generalize (combD (fun x y : Int => x + y) b c).1 = r4 at *
  generalize (combD (fun x y : Int => x + y) b c).2 = e4 at *
  generalize (combD (fun x y : Int => x - y) (combD (fun x y : Int => x + y) a b).1 b).1 = r3 at *
  generalize (combD (fun x y : Int => x - y) (combD (fun x y : Int => x + y) a b).1 b).2 = e3 at *
  generalize (combD (fun x y : Int => x + y) b a).1 = r2 at *
  generalize (combD (fun x y : Int => x + y) b a).2 = e2 at *
  generalize (combD (fun x y : Int => x + y) a b).1 = r1 at *
  generalize (combD (fun x y : Int => x + y) a b).2 = e1 at *
  obtain ⟨g1, g1'⟩ := g1
  subst g1
  have q1 := fun W => eq7 r1 r2 W
  rw [g1'] at q1
  have EQ1 := Aside0.mk q1
  have G2 := Aside0.mk g2
  have G3 := Aside0.mk g3
  have G4 := Aside0.mk g4
  clear g1' q1 g2 g3 g4
  have CA := Aside0.mk ca
  have GA := Aside0.mk (Gw.below hG ((((Below.refl w.heap.size w).alloc (Nat.le_refl _) (.cells (agg7 a) 23)).alloc (by simp) (.cells (agg7 b) 23)).alloc (by simp; omega) (.cells (agg7 c) 23)))
  clear ca hG
  go_enter Tryd.func4, Tryd.ntmps4
  go_wp2_with fail
  refine (CA.out _ GA.out).mono ?_
  rintro e w1 ⟨rfl, hb1⟩
  have D1 := Aside0.mk (blk_below (show (((w.alloc (.cells (agg7 a) 23)).alloc (.cells (agg7 b) 23)).alloc (.cells (agg7 c) 23)).heap[w.heap.size]? = some (.cells (agg7 a) 23 (0, 0)) from blk_alloc (blk_alloc (blk_new _ _) _) _) hb1)
  have E1 := Aside0.mk (blk_below (show (((w.alloc (.cells (agg7 a) 23)).alloc (.cells (agg7 b) 23)).alloc (.cells (agg7 c) 23)).heap[(w.heap.size + 1)]? = some (.cells (agg7 b) 23 (0, 0)) from blk_alloc ((by have h_ := blk_new (w.alloc (.cells (agg7 a) 23)) (.cells (agg7 b) 23); rw [show (w.alloc (.cells (agg7 a) 23)).heap.size = w.heap.size + 1 by simp] at h_; exact h_)) _) hb1)
  have F1 := Aside0.mk (blk_below (show (((w.alloc (.cells (agg7 a) 23)).alloc (.cells (agg7 b) 23)).alloc (.cells (agg7 c) 23)).heap[(w.heap.size + 2)]? = some (.cells (agg7 c) 23 (0, 0)) from (by have h_ := blk_new ((w.alloc (.cells (agg7 a) 23)).alloc (.cells (agg7 b) 23)) (.cells (agg7 c) 23); rw [show ((w.alloc (.cells (agg7 a) 23)).alloc (.cells (agg7 b) 23)).heap.size = w.heap.size + 2 by simp] at h_; exact h_)) hb1)
  have B1 := Aside0.mk (box_below (box_below (box_below hb1)))
  clear hb1
  obtain ⟨D_0, D_1, D_2, D_3, D_4, D_5, D_6⟩ := cells7 D1.out
  have lD := blk_lt D1.out
  have nD := Nat.ne_of_lt lD
  have mD := Ne.symm nD
  obtain ⟨E_0, E_1, E_2, E_3, E_4, E_5, E_6⟩ := cells7 E1.out
  have lE := blk_lt E1.out
  have nE := Nat.ne_of_lt lE
  have mE := Ne.symm nE
  go_wp2_with fail
  refine (c1 _).mono ?_
  rintro e w2 ⟨rfl, hb2⟩
  clear D_0 D_1 D_2 D_3 D_4 D_5 D_6 lD nD mD E_0 E_1 E_2 E_3 E_4 E_5 E_6 lE nE mE
  have D2 := Aside0.mk (blk_below D1.out hb2)
  have E2 := Aside0.mk (blk_below E1.out hb2)
  have F2 := Aside0.mk (blk_below F1.out hb2)
  have B2 := Aside0.mk (keepB hb2 B1.out)
  clear hb2 D1 E1 F1 B1
  obtain ⟨D_0, D_1, D_2, D_3, D_4, D_5, D_6⟩ := cells7 D2.out
  have lD := blk_lt D2.out
  have nD := Nat.ne_of_lt lD
  have mD := Ne.symm nD
  obtain ⟨E_0, E_1, E_2, E_3, E_4, E_5, E_6⟩ := cells7 E2.out
  have lE := blk_lt E2.out
  have nE := Nat.ne_of_lt lE
  have mE := Ne.symm nE
  go_wp2_with fail
  refine (c2 _).mono ?_
  rintro e w3 ⟨rfl, hb3⟩
  clear D_0 D_1 D_2 D_3 D_4 D_5 D_6 lD nD mD E_0 E_1 E_2 E_3 E_4 E_5 E_6 lE nE mE
  have D3 := Aside0.mk (blk_below (blk_alloc D2.out _) hb3)
  have E3 := Aside0.mk (blk_below (blk_alloc E2.out _) hb3)
  have F3 := Aside0.mk (blk_below (blk_alloc F2.out _) hb3)
  have P3 := Aside0.mk (blk_below (blk_new w2 (.cells (agg7 r1) 23)) hb3)
  have B3 := Aside0.mk (keepB (box_below hb3) B2.out)
  clear hb3 D2 E2 F2 B2
  clear c1 c2 CA GA
  by_cases h1 : e2 = 0
  · obtain ⟨x3, y3⟩ := G2.out h1
    have G3' := Aside0.mk (G3.out h1)
    subst h1
    subst x3
    have q3 := fun W => eq7 r3 a W
    rw [y3] at q3
    have EQ3 := Aside0.mk q3
    clear y3 q3 G2 G3
    have q1 := EQ1.out
    obtain ⟨P_0, P_1, P_2, P_3, P_4, P_5, P_6⟩ := cells7 P3.out
    have lP := blk_lt P3.out
    have nP := Nat.ne_of_lt lP
    have mP := Ne.symm nP
    obtain ⟨E_0, E_1, E_2, E_3, E_4, E_5, E_6⟩ := cells7 E3.out
    have lE := blk_lt E3.out
    have nE := Nat.ne_of_lt lE
    have mE := Ne.symm nE
    go_wp2_with fail
    refine (c3 _).mono ?_
    rintro e w4 ⟨rfl, hb4⟩
    clear P_0 P_1 P_2 P_3 P_4 P_5 P_6 lP nP mP E_0 E_1 E_2 E_3 E_4 E_5 E_6 lE nE mE
    have D4 := Aside0.mk (blk_below (blk_alloc D3.out _) hb4)
    have E4 := Aside0.mk (blk_below (blk_alloc E3.out _) hb4)
    have F4 := Aside0.mk (blk_below (blk_alloc F3.out _) hb4)
    have P4 := Aside0.mk (blk_below (blk_alloc P3.out _) hb4)
    have Q4 := Aside0.mk (blk_below (blk_new w3 (.cells (agg7 r2) 23)) hb4)
    have B4 := Aside0.mk (keepB (box_below hb4) B3.out)
    clear hb4 D3 E3 F3 P3 B3
    clear c3 q1 EQ1
    have q3 := EQ3.out
    obtain ⟨D_0, D_1, D_2, D_3, D_4, D_5, D_6⟩ := cells7 D4.out
    have lD := blk_lt D4.out
    have nD := Nat.ne_of_lt lD
    have mD := Ne.symm nD
    obtain ⟨E_0, E_1, E_2, E_3, E_4, E_5, E_6⟩ := cells7 E4.out
    have lE := blk_lt E4.out
    have nE := Nat.ne_of_lt lE
    have mE := Ne.symm nE
    obtain ⟨F_0, F_1, F_2, F_3, F_4, F_5, F_6⟩ := cells7 F4.out
    have lF := blk_lt F4.out
    have nF := Nat.ne_of_lt lF
    have mF := Ne.symm nF
    go_wp2_with fail
    refine (c4 _).mono ?_
    rintro e w5 ⟨rfl, hb5⟩
    clear D_0 D_1 D_2 D_3 D_4 D_5 D_6 lD nD mD E_0 E_1 E_2 E_3 E_4 E_5 E_6 lE nE mE F_0 F_1 F_2 F_3 F_4 F_5 F_6 lF nF mF
    have D5 := Aside0.mk (blk_below (blk_alloc D4.out _) hb5)
    have E5 := Aside0.mk (blk_below (blk_alloc E4.out _) hb5)
    have F5 := Aside0.mk (blk_below (blk_alloc F4.out _) hb5)
    have P5 := Aside0.mk (blk_below (blk_alloc P4.out _) hb5)
    have Q5 := Aside0.mk (blk_below (blk_alloc Q4.out _) hb5)
    have R5 := Aside0.mk (blk_below (blk_new w4 (.cells (agg7 r3) 23)) hb5)
    have B5 := Aside0.mk (keepB (box_below hb5) B4.out)
    clear hb5 D4 E4 F4 P4 Q4 B4
    clear c4 q3 EQ3
    obtain ⟨P_0, P_1, P_2, P_3, P_4, P_5, P_6⟩ := cells7 P5.out
    have lP := blk_lt P5.out
    have nP := Nat.ne_of_lt lP
    have mP := Ne.symm nP
    obtain ⟨F_0, F_1, F_2, F_3, F_4, F_5, F_6⟩ := cells7 F5.out
    have lF := blk_lt F5.out
    have nF := Nat.ne_of_lt lF
    have mF := Ne.symm nF
    go_wp2_with fail
    refine (c5 _).mono ?_
    rintro e w6 ⟨rfl, hb6⟩
    clear P_0 P_1 P_2 P_3 P_4 P_5 P_6 lP nP mP F_0 F_1 F_2 F_3 F_4 F_5 F_6 lF nF mF
    have D6 := Aside0.mk (blk_below (blk_alloc D5.out _) hb6)
    have E6 := Aside0.mk (blk_below (blk_alloc E5.out _) hb6)
    have F6 := Aside0.mk (blk_below (blk_alloc F5.out _) hb6)
    have P6 := Aside0.mk (blk_below (blk_alloc P5.out _) hb6)
    have Q6 := Aside0.mk (blk_below (blk_alloc Q5.out _) hb6)
    have R6 := Aside0.mk (blk_below (blk_alloc R5.out _) hb6)
    have T6 := Aside0.mk (blk_below (blk_new w5 (.cells (agg7 r4) 23)) hb6)
    have B6 := Aside0.mk (keepB (box_below hb6) B5.out)
    clear hb6 D5 E5 F5 P5 Q5 R5 B5
    clear c5
    obtain ⟨D_0, D_1, D_2, D_3, D_4, D_5, D_6⟩ := cells7 D6.out
    have lD := blk_lt D6.out
    have nD := Nat.ne_of_lt lD
    have mD := Ne.symm nD
    obtain ⟨T_0, T_1, T_2, T_3, T_4, T_5, T_6⟩ := cells7 T6.out
    have lT := blk_lt T6.out
    have nT := Nat.ne_of_lt lT
    have mT := Ne.symm nT
    by_cases h4 : e4 = 0
    · obtain ⟨x6, y6⟩ := G3'.out h4
      subst h4
      subst x6
      have q6 := fun W => eq7 r5 r6 W
      rw [y6] at q6
      have EQ6 := Aside0.mk q6
      clear y6 q6 G3'
      go_wp2_with fail
      refine (c6 _).mono ?_
      rintro e w7 ⟨rfl, hb7⟩
      clear D_0 D_1 D_2 D_3 D_4 D_5 D_6 lD nD mD T_0 T_1 T_2 T_3 T_4 T_5 T_6 lT nT mT
      have D7 := Aside0.mk (blk_below (blk_alloc D6.out _) hb7)
      have E7 := Aside0.mk (blk_below (blk_alloc E6.out _) hb7)
      have F7 := Aside0.mk (blk_below (blk_alloc F6.out _) hb7)
      have P7 := Aside0.mk (blk_below (blk_alloc P6.out _) hb7)
      have Q7 := Aside0.mk (blk_below (blk_alloc Q6.out _) hb7)
      have R7 := Aside0.mk (blk_below (blk_alloc R6.out _) hb7)
      have T7 := Aside0.mk (blk_below (blk_alloc T6.out _) hb7)
      have X7 := Aside0.mk (blk_below (blk_new w6 (.cells (agg7 r5) 23)) hb7)
      have B7 := Aside0.mk (keepB (box_below hb7) B6.out)
      clear hb7 D6 E6 F6 P6 Q6 R6 T6 B6
      clear c6
      have q6 := EQ6.out
      obtain ⟨X_0, X_1, X_2, X_3, X_4, X_5, X_6⟩ := cells7 X7.out
      have lX := blk_lt X7.out
      have nX := Nat.ne_of_lt lX
      have mX := Ne.symm nX
      obtain ⟨D_0, D_1, D_2, D_3, D_4, D_5, D_6⟩ := cells7 D7.out
      have lD := blk_lt D7.out
      have nD := Nat.ne_of_lt lD
      have mD := Ne.symm nD
      go_wp2_with fail
      refine (c7 _).mono ?_
      rintro e w8 ⟨rfl, hb8⟩
      clear X_0 X_1 X_2 X_3 X_4 X_5 X_6 lX nX mX D_0 D_1 D_2 D_3 D_4 D_5 D_6 lD nD mD
      have D8 := Aside0.mk (blk_below (blk_alloc D7.out _) hb8)
      have E8 := Aside0.mk (blk_below (blk_alloc E7.out _) hb8)
      have F8 := Aside0.mk (blk_below (blk_alloc F7.out _) hb8)
      have P8 := Aside0.mk (blk_below (blk_alloc P7.out _) hb8)
      have Q8 := Aside0.mk (blk_below (blk_alloc Q7.out _) hb8)
      have R8 := Aside0.mk (blk_below (blk_alloc R7.out _) hb8)
      have T8 := Aside0.mk (blk_below (blk_alloc T7.out _) hb8)
      have X8 := Aside0.mk (blk_below (blk_alloc X7.out _) hb8)
      have Y8 := Aside0.mk (blk_below (blk_new w7 (.cells (agg7 r6) 23)) hb8)
      have B8 := Aside0.mk (keepB (box_below hb8) B7.out)
      clear hb8 D7 E7 F7 P7 Q7 R7 T7 X7 B7
      clear c7
      by_cases h7 : e7 = 0
      · obtain ⟨x8, y8⟩ := G4.out h7
        subst h7
        subst x8
        have q8 := fun W => eq7 r8 a W
        rw [y8] at q8
        have EQ8 := Aside0.mk q8
        clear y8 q8
        go_wp2_with fail
        refine (c8 _).mono ?_
        rintro e w9 ⟨rfl, hb9⟩
        have D9 := Aside0.mk (blk_below (blk_alloc D8.out _) hb9)
        have E9 := Aside0.mk (blk_below (blk_alloc E8.out _) hb9)
        have F9 := Aside0.mk (blk_below (blk_alloc F8.out _) hb9)
        have P9 := Aside0.mk (blk_below (blk_alloc P8.out _) hb9)
        have Q9 := Aside0.mk (blk_below (blk_alloc Q8.out _) hb9)
        have R9 := Aside0.mk (blk_below (blk_alloc R8.out _) hb9)
        have T9 := Aside0.mk (blk_below (blk_alloc T8.out _) hb9)
        have X9 := Aside0.mk (blk_below (blk_alloc X8.out _) hb9)
        have Y9 := Aside0.mk (blk_below (blk_alloc Y8.out _) hb9)
        have S9 := Aside0.mk (blk_below (blk_new w8 (.cells (agg7 r7) 23)) hb9)
        have B9 := Aside0.mk (keepB (box_below hb9) B8.out)
        clear hb9 D8 E8 F8 P8 Q8 R8 T8 X8 Y8 B8
        clear c8
        have q8 := EQ8.out
        obtain ⟨D_0, D_1, D_2, D_3, D_4, D_5, D_6⟩ := cells7 D9.out
        have lD := blk_lt D9.out
        have nD := Nat.ne_of_lt lD
        have mD := Ne.symm nD
        go_wp2
        go_ret
        exact ⟨rfl, B9.out.alloc B9.out.size _⟩
      · have k7 : (e7 == 0) = false := beq_eq_false_iff_ne.2 h7
        clear h7 c8 G4
        go_wp2
        go_ret
        exact ⟨rfl, B8.out.alloc B8.out.size _⟩
    · have k4 : (e4 == 0) = false := beq_eq_false_iff_ne.2 h4
      clear h4 G3'
      go_wp2_with fail
      refine (c6 _).mono ?_
      rintro e w7 ⟨rfl, hb7⟩
      clear D_0 D_1 D_2 D_3 D_4 D_5 D_6 lD nD mD T_0 T_1 T_2 T_3 T_4 T_5 T_6 lT nT mT
      have D7 := Aside0.mk (blk_below (blk_alloc D6.out _) hb7)
      have E7 := Aside0.mk (blk_below (blk_alloc E6.out _) hb7)
      have F7 := Aside0.mk (blk_below (blk_alloc F6.out _) hb7)
      have P7 := Aside0.mk (blk_below (blk_alloc P6.out _) hb7)
      have Q7 := Aside0.mk (blk_below (blk_alloc Q6.out _) hb7)
      have R7 := Aside0.mk (blk_below (blk_alloc R6.out _) hb7)
      have T7 := Aside0.mk (blk_below (blk_alloc T6.out _) hb7)
      have X7 := Aside0.mk (blk_below (blk_new w6 (.cells (agg7 r5) 23)) hb7)
      have B7 := Aside0.mk (keepB (box_below hb7) B6.out)
      clear hb7 D6 E6 F6 P6 Q6 R6 T6 B6
      clear c6
      obtain ⟨D_0, D_1, D_2, D_3, D_4, D_5, D_6⟩ := cells7 D7.out
      have lD := blk_lt D7.out
      have nD := Nat.ne_of_lt lD
      have mD := Ne.symm nD
      go_wp2_with fail
      refine (c7 _).mono ?_
      rintro e w8 ⟨rfl, hb8⟩
      clear D_0 D_1 D_2 D_3 D_4 D_5 D_6 lD nD mD
      have D8 := Aside0.mk (blk_below (blk_alloc D7.out _) hb8)
      have E8 := Aside0.mk (blk_below (blk_alloc E7.out _) hb8)
      have F8 := Aside0.mk (blk_below (blk_alloc F7.out _) hb8)
      have P8 := Aside0.mk (blk_below (blk_alloc P7.out _) hb8)
      have Q8 := Aside0.mk (blk_below (blk_alloc Q7.out _) hb8)
      have R8 := Aside0.mk (blk_below (blk_alloc R7.out _) hb8)
      have T8 := Aside0.mk (blk_below (blk_alloc T7.out _) hb8)
      have X8 := Aside0.mk (blk_below (blk_alloc X7.out _) hb8)
      have Y8 := Aside0.mk (blk_below (blk_new w7 (.cells (agg7 r6) 23)) hb8)
      have B8 := Aside0.mk (keepB (box_below hb8) B7.out)
      clear hb8 D7 E7 F7 P7 Q7 R7 T7 X7 B7
      clear c7
      by_cases h7 : e7 = 0
      · obtain ⟨x8, y8⟩ := G4.out h7
        subst h7
        subst x8
        have q8 := fun W => eq7 r8 a W
        rw [y8] at q8
        have EQ8 := Aside0.mk q8
        clear y8 q8
        go_wp2_with fail
        refine (c8 _).mono ?_
        rintro e w9 ⟨rfl, hb9⟩
        have D9 := Aside0.mk (blk_below (blk_alloc D8.out _) hb9)
        have E9 := Aside0.mk (blk_below (blk_alloc E8.out _) hb9)
        have F9 := Aside0.mk (blk_below (blk_alloc F8.out _) hb9)
        have P9 := Aside0.mk (blk_below (blk_alloc P8.out _) hb9)
        have Q9 := Aside0.mk (blk_below (blk_alloc Q8.out _) hb9)
        have R9 := Aside0.mk (blk_below (blk_alloc R8.out _) hb9)
        have T9 := Aside0.mk (blk_below (blk_alloc T8.out _) hb9)
        have X9 := Aside0.mk (blk_below (blk_alloc X8.out _) hb9)
        have Y9 := Aside0.mk (blk_below (blk_alloc Y8.out _) hb9)
        have S9 := Aside0.mk (blk_below (blk_new w8 (.cells (agg7 r7) 23)) hb9)
        have B9 := Aside0.mk (keepB (box_below hb9) B8.out)
        clear hb9 D8 E8 F8 P8 Q8 R8 T8 X8 Y8 B8
        clear c8
        have q8 := EQ8.out
        obtain ⟨D_0, D_1, D_2, D_3, D_4, D_5, D_6⟩ := cells7 D9.out
        have lD := blk_lt D9.out
        have nD := Nat.ne_of_lt lD
        have mD := Ne.symm nD
        go_wp2
        go_ret
        exact ⟨rfl, B9.out.alloc B9.out.size _⟩
      · have k7 : (e7 == 0) = false := beq_eq_false_iff_ne.2 h7
        clear h7 c8 G4
        go_wp2
        go_ret
        exact ⟨rfl, B8.out.alloc B8.out.size _⟩
  · have k1 : (e2 == 0) = false := beq_eq_false_iff_ne.2 h1
    clear h1 G2 G3 c3 c4 c5 c6
    have q1 := EQ1.out
    obtain ⟨P_0, P_1, P_2, P_3, P_4, P_5, P_6⟩ := cells7 P3.out
    have lP := blk_lt P3.out
    have nP := Nat.ne_of_lt lP
    have mP := Ne.symm nP
    obtain ⟨D_0, D_1, D_2, D_3, D_4, D_5, D_6⟩ := cells7 D3.out
    have lD := blk_lt D3.out
    have nD := Nat.ne_of_lt lD
    have mD := Ne.symm nD
    go_wp2_with fail
    refine (c7 _).mono ?_
    rintro e w4 ⟨rfl, hb4⟩
    clear P_0 P_1 P_2 P_3 P_4 P_5 P_6 lP nP mP D_0 D_1 D_2 D_3 D_4 D_5 D_6 lD nD mD
    have D4 := Aside0.mk (blk_below (blk_alloc D3.out _) hb4)
    have E4 := Aside0.mk (blk_below (blk_alloc E3.out _) hb4)
    have F4 := Aside0.mk (blk_below (blk_alloc F3.out _) hb4)
    have P4 := Aside0.mk (blk_below (blk_alloc P3.out _) hb4)
    have Q4 := Aside0.mk (blk_below (blk_new w3 (.cells (agg7 r2) 23)) hb4)
    have B4 := Aside0.mk (keepB (box_below hb4) B3.out)
    clear hb4 D3 E3 F3 P3 B3
    clear c7
    by_cases h7 : e7 = 0
    · obtain ⟨x8, y8⟩ := G4.out h7
      subst h7
      subst x8
      have q8 := fun W => eq7 r8 a W
      rw [y8] at q8
      have EQ8 := Aside0.mk q8
      clear y8 q8
      go_wp2_with fail
      refine (c8 _).mono ?_
      rintro e w5 ⟨rfl, hb5⟩
      have D5 := Aside0.mk (blk_below (blk_alloc D4.out _) hb5)
      have E5 := Aside0.mk (blk_below (blk_alloc E4.out _) hb5)
      have F5 := Aside0.mk (blk_below (blk_alloc F4.out _) hb5)
      have P5 := Aside0.mk (blk_below (blk_alloc P4.out _) hb5)
      have Q5 := Aside0.mk (blk_below (blk_alloc Q4.out _) hb5)
      have S5 := Aside0.mk (blk_below (blk_new w4 (.cells (agg7 r7) 23)) hb5)
      have B5 := Aside0.mk (keepB (box_below hb5) B4.out)
      clear hb5 D4 E4 F4 P4 Q4 B4
      clear c8
      have q8 := EQ8.out
      obtain ⟨D_0, D_1, D_2, D_3, D_4, D_5, D_6⟩ := cells7 D5.out
      have lD := blk_lt D5.out
      have nD := Nat.ne_of_lt lD
      have mD := Ne.symm nD
      go_wp2
      go_ret
      exact ⟨rfl, B5.out.alloc B5.out.size _⟩
    · have k7 : (e7 == 0) = false := beq_eq_false_iff_ne.2 h7
      clear h7 c8 G4
      go_wp2
      go_ret
      exact ⟨rfl, B4.out.alloc B4.out.size _⟩
end Go.Proofs.YtjnheoelcahkaaaDoor.Gv
