/-
  The walk of UnitText.
-/
import Derived.Test.YtjnheoelcahkaaaDoorUnRText
set_option linter.unusedVariables false
set_option linter.unusedSimpArgs false
namespace Go.Proofs.YtjnheoelcahkaaaDoor.Gv
open Go.RowKit Go.Proofs.YtjnheoelcahkaaaDoorW.PrintWords Go.Proofs.YtjnheoelcahkaaaDoorW.PrintLast Go.Proofs.YtjnheoelcahkaaaDoorW.PrintMore
set_option maxHeartbeats 4000000 in
set_option maxRecDepth 1000000 in
theorem UnitText.yes (d : Nat → Int) (w : World) (hG : Ge w) (hd : dimB d = true) :
    Calls Tryd.prog 9 #[.agg (agg7 d)] w fun e w' => e = .returned (.bool true) ∧ Below w.heap.size w w' := by
  have ca := fun W (hW : Gw W) => vinculumlaw53_awake.any W hW
  have c1 := fun W hW => unit_Text.full d W hW
  have c2 := fun W hW => unit_Parse.any (textD d) W hW (by have := textD_size d; omega)
  have c3 := fun W => vinculumref53_Valid.is d _ hd W
  have c4 := fun W => vinculumref53_Text.good d hd W
  have c5 := fun W => unit_Valid.is d _ hd W
  obtain ⟨p1, p2⟩ := parse_text d hd
  generalize (parseD (textD d) (partsS 32 (textD d))).1 = q at *
  generalize (parseD (textD d) (partsS 32 (textD d))).2 = e at *
  subst p1
  have heq := fun W => eq7 q d W
  rw [p2] at heq
  have EQ := Aside0.mk heq
  generalize textD d = s at *
  have CA := Aside0.mk ca
  have HG := Aside0.mk hG
  have GA := Aside0.mk (Ge.below hG ((Below.refl w.heap.size w).alloc (Nat.le_refl _) (.cells (agg7 d) 23)))
  clear ca hG p2 heq hd
  go_enter Tryd.func9, Tryd.ntmps9
  go_wp2_with fail
  refine (CA.out _ GA.out.g).mono ?_
  rintro e w1 ⟨rfl, hb1⟩
  have D1 := Aside0.mk (blk_below (show (w.alloc (.cells (agg7 d) 23)).heap[w.heap.size]? = some (.cells (agg7 d) 23 (0, 0)) from blk_new _ _) hb1)
  have B1 := Aside0.mk (box_below hb1)
  clear hb1
  obtain ⟨D_0, D_1, D_2, D_3, D_4, D_5, D_6⟩ := cells7 D1.out
  have lD := blk_lt D1.out
  have nD := Nat.ne_of_lt lD
  have mD := Ne.symm nD
  go_wp2_with fail
  refine (c1 _ (Gw.below HG.out.g B1.out)).mono ?_
  rintro e w2 ⟨rfl, hb2⟩
  clear D_0 D_1 D_2 D_3 D_4 D_5 D_6 lD nD mD
  have D2 := Aside0.mk (blk_below D1.out hb2)
  have B2 := Aside0.mk (keepB hb2 B1.out)
  clear hb2 D1 B1
  go_wp2_with fail
  refine (c2 _ (Ge.below HG.out B2.out)).mono ?_
  rintro e w3 ⟨rfl, hb3⟩
  have D3 := Aside0.mk (blk_below D2.out hb3)
  have B3 := Aside0.mk (keepB hb3 B2.out)
  clear hb3 D2 B2
  obtain ⟨D_0, D_1, D_2, D_3, D_4, D_5, D_6⟩ := cells7 D3.out
  have lD := blk_lt D3.out
  have nD := Nat.ne_of_lt lD
  have mD := Ne.symm nD
  go_wp2_with fail
  refine (c3 _).mono ?_
  rintro e w4 ⟨rfl, hb4⟩
  clear D_0 D_1 D_2 D_3 D_4 D_5 D_6 lD nD mD
  have D4 := Aside0.mk (blk_below (blk_alloc D3.out _) hb4)
  have Q4 := Aside0.mk (blk_below (blk_new w3 (.cells (agg7 q) 23)) hb4)
  have B4 := Aside0.mk (keepB (box_below hb4) B3.out)
  clear hb4 D3 B3
  obtain ⟨D_0, D_1, D_2, D_3, D_4, D_5, D_6⟩ := cells7 D4.out
  have lD := blk_lt D4.out
  have nD := Nat.ne_of_lt lD
  have mD := Ne.symm nD
  go_wp2_with fail
  refine (c4 _).mono ?_
  rintro e w5 ⟨rfl, hb5⟩
  clear D_0 D_1 D_2 D_3 D_4 D_5 D_6 lD nD mD
  have D5 := Aside0.mk (blk_below D4.out hb5)
  have Q5 := Aside0.mk (blk_below Q4.out hb5)
  have B5 := Aside0.mk (keepB hb5 B4.out)
  clear hb5 D4 Q4 B4
  obtain ⟨D_0, D_1, D_2, D_3, D_4, D_5, D_6⟩ := cells7 D5.out
  have lD := blk_lt D5.out
  have nD := Nat.ne_of_lt lD
  have mD := Ne.symm nD
  go_wp2_with fail
  refine (c5 _).mono ?_
  rintro e w6 ⟨rfl, hb6⟩
  clear D_0 D_1 D_2 D_3 D_4 D_5 D_6 lD nD mD
  have D6 := Aside0.mk (blk_below D5.out hb6)
  have Q6 := Aside0.mk (blk_below Q5.out hb6)
  have B6 := Aside0.mk (keepB hb6 B5.out)
  clear hb6 D5 Q5 B5
  have heq := EQ.out
  obtain ⟨Q_0, Q_1, Q_2, Q_3, Q_4, Q_5, Q_6⟩ := cells7 Q6.out
  have lQ := blk_lt Q6.out
  have nQ := Nat.ne_of_lt lQ
  have mQ := Ne.symm nQ
  obtain ⟨D_0, D_1, D_2, D_3, D_4, D_5, D_6⟩ := cells7 D6.out
  have lD := blk_lt D6.out
  have nD := Nat.ne_of_lt lD
  have mD := Ne.symm nD
  clear c1 c2 c3 c4 c5
  go_wp2
  go_ret
  exact ⟨rfl, B6.out⟩
set_option maxHeartbeats 4000000 in
set_option maxRecDepth 1000000 in
theorem UnitText.no (d : Nat → Int) (w : World) (hG : Ge w) (hd : dimB d = false) :
    Calls Tryd.prog 9 #[.agg (agg7 d)] w fun e w' => e = .returned (.bool true) ∧ Below w.heap.size w w' := by
  have ca := fun W (hW : Gw W) => vinculumlaw53_awake.any W hW
  have c1 := fun W => unit_Text.no d W hd
  have c2 := fun W hW => unit_Parse.any ⟨#[]⟩ W hW (by decide)
  rw [parse_empty] at c2
  have c3 := fun W => vinculumref53_Valid.is d _ hd W
  have c5 := fun W => unit_Valid.is d _ hd W
  have CA := Aside0.mk ca
  have HG := Aside0.mk hG
  have GA := Aside0.mk (Ge.below hG ((Below.refl w.heap.size w).alloc (Nat.le_refl _) (.cells (agg7 d) 23)))
  clear ca hG hd
  go_enter Tryd.func9, Tryd.ntmps9
  go_wp2_with fail
  refine (CA.out _ GA.out.g).mono ?_
  rintro e w1 ⟨rfl, hb1⟩
  have D1 := Aside0.mk (blk_below (show (w.alloc (.cells (agg7 d) 23)).heap[w.heap.size]? = some (.cells (agg7 d) 23 (0, 0)) from blk_new _ _) hb1)
  have B1 := Aside0.mk (box_below hb1)
  clear hb1
  obtain ⟨D_0, D_1, D_2, D_3, D_4, D_5, D_6⟩ := cells7 D1.out
  have lD := blk_lt D1.out
  have nD := Nat.ne_of_lt lD
  have mD := Ne.symm nD
  go_wp2_with fail
  refine (c1 _).mono ?_
  rintro e w2 ⟨rfl, hb2⟩
  clear D_0 D_1 D_2 D_3 D_4 D_5 D_6 lD nD mD
  have D2 := Aside0.mk (blk_below D1.out hb2)
  have B2 := Aside0.mk (keepB hb2 B1.out)
  clear hb2 D1 B1
  go_wp2_with fail
  refine (c2 _ (Ge.below HG.out B2.out)).mono ?_
  rintro e w3 ⟨rfl, hb3⟩
  have D3 := Aside0.mk (blk_below D2.out hb3)
  have B3 := Aside0.mk (keepB hb3 B2.out)
  clear hb3 D2 B2
  obtain ⟨D_0, D_1, D_2, D_3, D_4, D_5, D_6⟩ := cells7 D3.out
  have lD := blk_lt D3.out
  have nD := Nat.ne_of_lt lD
  have mD := Ne.symm nD
  go_wp2_with fail
  refine (c3 _).mono ?_
  rintro e w4 ⟨rfl, hb4⟩
  clear D_0 D_1 D_2 D_3 D_4 D_5 D_6 lD nD mD
  have D4 := Aside0.mk (blk_below (blk_alloc D3.out _) hb4)
  have Q4 := Aside0.mk (blk_below (blk_new w3 (.cells (agg7 zeroD) 23)) hb4)
  have B4 := Aside0.mk (keepB (box_below hb4) B3.out)
  clear hb4 D3 B3
  obtain ⟨D_0, D_1, D_2, D_3, D_4, D_5, D_6⟩ := cells7 D4.out
  have lD := blk_lt D4.out
  have nD := Nat.ne_of_lt lD
  have mD := Ne.symm nD
  go_wp2_with fail
  refine (c5 _).mono ?_
  rintro e w5 ⟨rfl, hb5⟩
  clear D_0 D_1 D_2 D_3 D_4 D_5 D_6 lD nD mD
  have D5 := Aside0.mk (blk_below D4.out hb5)
  have Q5 := Aside0.mk (blk_below Q4.out hb5)
  have B5 := Aside0.mk (keepB hb5 B4.out)
  clear hb5 D4 Q4 B4
  clear c1 c2 c3 c5
  go_wp2
  go_ret
  exact ⟨rfl, B5.out⟩
theorem UnitText.calls (d : Nat → Int) (w : World) (hG : Ge w) :
    Calls Tryd.prog 9 #[.agg (agg7 d)] w fun e w' => e = .returned (.bool true) ∧ Below w.heap.size w w' := by
  cases hd : dimB d with
  | true => exact UnitText.yes d w hG hd
  | false => exact UnitText.no d w hG hd
end Go.Proofs.YtjnheoelcahkaaaDoor.Gv
