/-
  The walk of UnitArithmetic.
-/
import Derived.Test.YtjnheoelcahkaaaDoorUnLaw1
set_option linter.unusedVariables false
set_option linter.unusedSimpArgs false
namespace Go.Proofs.YtjnheoelcahkaaaDoor.Gv
open Go.RowKit Go.Proofs.YtjnheoelcahkaaaDoorW.PrintWords Go.Proofs.YtjnheoelcahkaaaDoorW.PrintLast Go.Proofs.YtjnheoelcahkaaaDoorW.PrintMore
set_option maxHeartbeats 4000000 in
set_option maxRecDepth 1000000 in
theorem UnitArithmetic.calls (a b : Nat → Int) (n : Int) (w : World) (hG : Gw w) :
    Calls Tryd.prog 5 #[.agg (agg7 a), .agg (agg7 b), .int .i64 n] w fun e w' => e = .returned (.bool true) ∧ Below w.heap.size w w' := by
  have ca := fun W (hW : Gw W) => vinculumlaw53_awake.any W hW
  have c1 := fun W => unit_Mul.any a b W
  have c2 := fun W => vinculumref53_Mul.any a b W
  have c3 := fun W => unit_Div.any a b W
  have c4 := fun W => vinculumref53_Div.any a b W
  have c5 := fun W => unit_Pow.any a n W
  have c6 := fun W => vinculumref53_Pow.any a n W
  have c7 := fun W => unit_Root.any a W
  have c8 := fun W => vinculumref53_Root.any a W
  generalize (combD (fun x y : Int => x + y) a b).1 = p1 at *
  generalize (combD (fun x y : Int => x + y) a b).2 = e1 at *
  generalize (combD (fun x y : Int => x - y) a b).1 = p2 at *
  generalize (combD (fun x y : Int => x - y) a b).2 = e2 at *
  generalize (combD (fun x y : Int => x * clampD n) a a).1 = p3 at *
  generalize (combD (fun x y : Int => x * clampD n) a a).2 = e3 at *
  generalize (rootD a).1 = p4 at *
  generalize (rootD a).2 = e4 at *
  have CA := Aside0.mk ca
  have GA := Aside0.mk (Gw.below hG (((Below.refl w.heap.size w).alloc (Nat.le_refl _) (.cells (agg7 a) 23)).alloc (by simp) (.cells (agg7 b) 23)))
  have q1 := fun W => eq7 p1 p1 W
  have q2 := fun W => eq7 p2 p2 W
  have q3 := fun W => eq7 p3 p3 W
  have q4 := fun W => eq7 p4 p4 W
  rw [eqD_refl] at q1 q2 q3 q4
  have EQ1 := Aside0.mk q1
  have EQ2 := Aside0.mk q2
  have EQ3 := Aside0.mk q3
  have EQ4 := Aside0.mk q4
  clear ca hG q1 q2 q3 q4
  go_enter Tryd.func5, Tryd.ntmps5
  go_wp2_with fail
  refine (CA.out _ GA.out).mono ?_
  rintro e w1 ⟨rfl, hb1⟩
  have D1 := Aside0.mk (blk_below (show ((w.alloc (.cells (agg7 a) 23)).alloc (.cells (agg7 b) 23)).heap[w.heap.size]? = some (.cells (agg7 a) 23 (0, 0)) from blk_alloc (blk_new _ _) _) hb1)
  have E1 := Aside0.mk (blk_below (show ((w.alloc (.cells (agg7 a) 23)).alloc (.cells (agg7 b) 23)).heap[(w.heap.size + 1)]? = some (.cells (agg7 b) 23 (0, 0)) from (by have h_ := blk_new (w.alloc (.cells (agg7 a) 23)) (.cells (agg7 b) 23); rw [show (w.alloc (.cells (agg7 a) 23)).heap.size = w.heap.size + 1 by simp] at h_; exact h_)) hb1)
  have B1 := Aside0.mk (box_below (box_below hb1))
  clear hb1
  obtain ⟨D_0, D_1, D_2, D_3, D_4, D_5, D_6⟩ := cells7 D1.out
  have lD := blk_lt D1.out
  have nD := Nat.ne_of_lt lD
  have mD := Ne.symm nD
  obtain ⟨E_0, E_1, E_2, E_3, E_4, E_5, E_6⟩ := cells7 E1.out
  have lE := blk_lt E1.out
  have nE := Nat.ne_of_lt lE
  have mE := Ne.symm nE
  go_wp2_with fail
  refine (c1 _).mono ?_
  rintro e w2 ⟨rfl, hb2⟩
  clear D_0 D_1 D_2 D_3 D_4 D_5 D_6 lD nD mD E_0 E_1 E_2 E_3 E_4 E_5 E_6 lE nE mE
  have D2 := Aside0.mk (blk_below D1.out hb2)
  have E2 := Aside0.mk (blk_below E1.out hb2)
  have B2 := Aside0.mk (keepB hb2 B1.out)
  clear hb2 D1 E1 B1
  obtain ⟨D_0, D_1, D_2, D_3, D_4, D_5, D_6⟩ := cells7 D2.out
  have lD := blk_lt D2.out
  have nD := Nat.ne_of_lt lD
  have mD := Ne.symm nD
  obtain ⟨E_0, E_1, E_2, E_3, E_4, E_5, E_6⟩ := cells7 E2.out
  have lE := blk_lt E2.out
  have nE := Nat.ne_of_lt lE
  have mE := Ne.symm nE
  go_wp2_with fail
  refine (c2 _).mono ?_
  rintro e w3 ⟨rfl, hb3⟩
  clear D_0 D_1 D_2 D_3 D_4 D_5 D_6 lD nD mD E_0 E_1 E_2 E_3 E_4 E_5 E_6 lE nE mE
  have D3 := Aside0.mk (blk_below (blk_alloc D2.out _) hb3)
  have E3 := Aside0.mk (blk_below (blk_alloc E2.out _) hb3)
  have P3 := Aside0.mk (blk_below (blk_new w2 (.cells (agg7 p1) 23)) hb3)
  have B3 := Aside0.mk (keepB (box_below hb3) B2.out)
  clear hb3 D2 E2 B2
  obtain ⟨D_0, D_1, D_2, D_3, D_4, D_5, D_6⟩ := cells7 D3.out
  have lD := blk_lt D3.out
  have nD := Nat.ne_of_lt lD
  have mD := Ne.symm nD
  obtain ⟨E_0, E_1, E_2, E_3, E_4, E_5, E_6⟩ := cells7 E3.out
  have lE := blk_lt E3.out
  have nE := Nat.ne_of_lt lE
  have mE := Ne.symm nE
  go_wp2_with fail
  refine (c3 _).mono ?_
  rintro e w4 ⟨rfl, hb4⟩
  clear D_0 D_1 D_2 D_3 D_4 D_5 D_6 lD nD mD E_0 E_1 E_2 E_3 E_4 E_5 E_6 lE nE mE
  have D4 := Aside0.mk (blk_below (blk_alloc D3.out _) hb4)
  have E4 := Aside0.mk (blk_below (blk_alloc E3.out _) hb4)
  have P4 := Aside0.mk (blk_below (blk_alloc P3.out _) hb4)
  have Q4 := Aside0.mk (blk_below (blk_new w3 (.cells (agg7 p1) 23)) hb4)
  have B4 := Aside0.mk (keepB (box_below hb4) B3.out)
  clear hb4 D3 E3 P3 B3
  obtain ⟨D_0, D_1, D_2, D_3, D_4, D_5, D_6⟩ := cells7 D4.out
  have lD := blk_lt D4.out
  have nD := Nat.ne_of_lt lD
  have mD := Ne.symm nD
  obtain ⟨E_0, E_1, E_2, E_3, E_4, E_5, E_6⟩ := cells7 E4.out
  have lE := blk_lt E4.out
  have nE := Nat.ne_of_lt lE
  have mE := Ne.symm nE
  go_wp2_with fail
  refine (c4 _).mono ?_
  rintro e w5 ⟨rfl, hb5⟩
  clear D_0 D_1 D_2 D_3 D_4 D_5 D_6 lD nD mD E_0 E_1 E_2 E_3 E_4 E_5 E_6 lE nE mE
  have D5 := Aside0.mk (blk_below (blk_alloc D4.out _) hb5)
  have E5 := Aside0.mk (blk_below (blk_alloc E4.out _) hb5)
  have P5 := Aside0.mk (blk_below (blk_alloc P4.out _) hb5)
  have Q5 := Aside0.mk (blk_below (blk_alloc Q4.out _) hb5)
  have R5 := Aside0.mk (blk_below (blk_new w4 (.cells (agg7 p2) 23)) hb5)
  have B5 := Aside0.mk (keepB (box_below hb5) B4.out)
  clear hb5 D4 E4 P4 Q4 B4
  obtain ⟨D_0, D_1, D_2, D_3, D_4, D_5, D_6⟩ := cells7 D5.out
  have lD := blk_lt D5.out
  have nD := Nat.ne_of_lt lD
  have mD := Ne.symm nD
  go_wp2_with fail
  refine (c5 _).mono ?_
  rintro e w6 ⟨rfl, hb6⟩
  clear D_0 D_1 D_2 D_3 D_4 D_5 D_6 lD nD mD
  have D6 := Aside0.mk (blk_below (blk_alloc D5.out _) hb6)
  have E6 := Aside0.mk (blk_below (blk_alloc E5.out _) hb6)
  have P6 := Aside0.mk (blk_below (blk_alloc P5.out _) hb6)
  have Q6 := Aside0.mk (blk_below (blk_alloc Q5.out _) hb6)
  have R6 := Aside0.mk (blk_below (blk_alloc R5.out _) hb6)
  have S6 := Aside0.mk (blk_below (blk_new w5 (.cells (agg7 p2) 23)) hb6)
  have B6 := Aside0.mk (keepB (box_below hb6) B5.out)
  clear hb6 D5 E5 P5 Q5 R5 B5
  obtain ⟨D_0, D_1, D_2, D_3, D_4, D_5, D_6⟩ := cells7 D6.out
  have lD := blk_lt D6.out
  have nD := Nat.ne_of_lt lD
  have mD := Ne.symm nD
  go_wp2_with fail
  refine (c6 _).mono ?_
  rintro e w7 ⟨rfl, hb7⟩
  clear D_0 D_1 D_2 D_3 D_4 D_5 D_6 lD nD mD
  have D7 := Aside0.mk (blk_below (blk_alloc D6.out _) hb7)
  have E7 := Aside0.mk (blk_below (blk_alloc E6.out _) hb7)
  have P7 := Aside0.mk (blk_below (blk_alloc P6.out _) hb7)
  have Q7 := Aside0.mk (blk_below (blk_alloc Q6.out _) hb7)
  have R7 := Aside0.mk (blk_below (blk_alloc R6.out _) hb7)
  have S7 := Aside0.mk (blk_below (blk_alloc S6.out _) hb7)
  have T7 := Aside0.mk (blk_below (blk_new w6 (.cells (agg7 p3) 23)) hb7)
  have B7 := Aside0.mk (keepB (box_below hb7) B6.out)
  clear hb7 D6 E6 P6 Q6 R6 S6 B6
  obtain ⟨D_0, D_1, D_2, D_3, D_4, D_5, D_6⟩ := cells7 D7.out
  have lD := blk_lt D7.out
  have nD := Nat.ne_of_lt lD
  have mD := Ne.symm nD
  go_wp2_with fail
  refine (c7 _).mono ?_
  rintro e w8 ⟨rfl, hb8⟩
  clear D_0 D_1 D_2 D_3 D_4 D_5 D_6 lD nD mD
  have D8 := Aside0.mk (blk_below (blk_alloc D7.out _) hb8)
  have E8 := Aside0.mk (blk_below (blk_alloc E7.out _) hb8)
  have P8 := Aside0.mk (blk_below (blk_alloc P7.out _) hb8)
  have Q8 := Aside0.mk (blk_below (blk_alloc Q7.out _) hb8)
  have R8 := Aside0.mk (blk_below (blk_alloc R7.out _) hb8)
  have S8 := Aside0.mk (blk_below (blk_alloc S7.out _) hb8)
  have T8 := Aside0.mk (blk_below (blk_alloc T7.out _) hb8)
  have U8 := Aside0.mk (blk_below (blk_new w7 (.cells (agg7 p3) 23)) hb8)
  have B8 := Aside0.mk (keepB (box_below hb8) B7.out)
  clear hb8 D7 E7 P7 Q7 R7 S7 T7 B7
  obtain ⟨D_0, D_1, D_2, D_3, D_4, D_5, D_6⟩ := cells7 D8.out
  have lD := blk_lt D8.out
  have nD := Nat.ne_of_lt lD
  have mD := Ne.symm nD
  go_wp2_with fail
  refine (c8 _).mono ?_
  rintro e w9 ⟨rfl, hb9⟩
  clear D_0 D_1 D_2 D_3 D_4 D_5 D_6 lD nD mD
  have D9 := Aside0.mk (blk_below (blk_alloc D8.out _) hb9)
  have E9 := Aside0.mk (blk_below (blk_alloc E8.out _) hb9)
  have P9 := Aside0.mk (blk_below (blk_alloc P8.out _) hb9)
  have Q9 := Aside0.mk (blk_below (blk_alloc Q8.out _) hb9)
  have R9 := Aside0.mk (blk_below (blk_alloc R8.out _) hb9)
  have S9 := Aside0.mk (blk_below (blk_alloc S8.out _) hb9)
  have T9 := Aside0.mk (blk_below (blk_alloc T8.out _) hb9)
  have U9 := Aside0.mk (blk_below (blk_alloc U8.out _) hb9)
  have V9 := Aside0.mk (blk_below (blk_new w8 (.cells (agg7 p4) 23)) hb9)
  have B9 := Aside0.mk (keepB (box_below hb9) B8.out)
  clear hb9 D8 E8 P8 Q8 R8 S8 T8 U8 B8
  clear c1 c2 c3 c4 c5 c6 c7 c8 CA GA
  obtain ⟨P_0, P_1, P_2, P_3, P_4, P_5, P_6⟩ := cells7 P9.out
  have lP := blk_lt P9.out
  have nP := Nat.ne_of_lt lP
  have mP := Ne.symm nP
  obtain ⟨Q_0, Q_1, Q_2, Q_3, Q_4, Q_5, Q_6⟩ := cells7 Q9.out
  have lQ := blk_lt Q9.out
  have nQ := Nat.ne_of_lt lQ
  have mQ := Ne.symm nQ
  obtain ⟨R_0, R_1, R_2, R_3, R_4, R_5, R_6⟩ := cells7 R9.out
  have lR := blk_lt R9.out
  have nR := Nat.ne_of_lt lR
  have mR := Ne.symm nR
  obtain ⟨S_0, S_1, S_2, S_3, S_4, S_5, S_6⟩ := cells7 S9.out
  have lS := blk_lt S9.out
  have nS := Nat.ne_of_lt lS
  have mS := Ne.symm nS
  obtain ⟨T_0, T_1, T_2, T_3, T_4, T_5, T_6⟩ := cells7 T9.out
  have lT := blk_lt T9.out
  have nT := Nat.ne_of_lt lT
  have mT := Ne.symm nT
  obtain ⟨U_0, U_1, U_2, U_3, U_4, U_5, U_6⟩ := cells7 U9.out
  have lU := blk_lt U9.out
  have nU := Nat.ne_of_lt lU
  have mU := Ne.symm nU
  obtain ⟨V_0, V_1, V_2, V_3, V_4, V_5, V_6⟩ := cells7 V9.out
  have lV := blk_lt V9.out
  have nV := Nat.ne_of_lt lV
  have mV := Ne.symm nV
  have q1 := EQ1.out
  have q2 := EQ2.out
  have q3 := EQ3.out
  have q4 := EQ4.out
  go_wp2
  go_ret
  exact ⟨rfl, B9.out.alloc B9.out.size _⟩
end Go.Proofs.YtjnheoelcahkaaaDoor.Gv
