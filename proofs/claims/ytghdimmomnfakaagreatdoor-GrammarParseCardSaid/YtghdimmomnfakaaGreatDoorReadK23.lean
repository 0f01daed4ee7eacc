/-
  grammar.read: a line of kind 2.
-/
import Derived.Test.YtghdimmomnfakaaGreatDoorReadBase
set_option linter.unusedVariables false
set_option linter.unusedSimpArgs false
namespace Go.Proofs.YtghdimmomnfakaaGreatDoor.Gv
open Go.RowKit Go.Proofs.YtghdimmomnfakaaGreatDoorW.PrintWords Go.Proofs.YtghdimmomnfakaaGreatDoorW.PrintLast Go.Proofs.YtghdimmomnfakaaGreatDoorW.PrintMore
open Go.Proofs.YtghdimmomnfakaaGreatDoor.X (S31 k31 rd_T31 at_T31 z31)
open Go.Proofs.YtghdimmomnfakaaGreatDoor.Pure (prR lineB impl_proper line_f)
set_option maxHeartbeats 8000000 in
set_option maxRecDepth 1000000 in
theorem read_k2 (s : ByteArray) (w : World) (hG : Ge w) (hs : s.size ≤ 1000000) (hL0 : 0 < (partsS 32 s).length) (hk : kindIdx (nthS (partsS 32 s) 0) = 2) :
    Calls Tryz.prog 11 #[.string s] w fun e w' => e = .returned (.tuple #[.agg (rule6 (readX 2 (partsS 32 s))), .bool (prR (readX 2 (partsS 32 s)) && decide (lineB (readX 2 (partsS 32 s)) = s))]) ∧ Below w.heap.size w w' := by
  have HG := Aside0.mk hG
  have SPLIT := Aside0.mk (split_parts s 32 (w.alloc (.cells (rule6 z31) 31)) (Gw.below hG.g ((Below.refl _ _).alloc (Nat.le_refl _) _)) (by omega))
  have hlen := partsS_len 32 s
  have HLE := Aside0.mk (partsS_le 32 s)
  generalize partsS 32 s = L at *
  clear hG
  go_enter Tryz.func11, Tryz.ntmps11
  go_wp2_with fail
  refine SPLIT.out.mono ?_
  rintro e w1 ⟨rfl, hP, hw1⟩
  have Z1 := Aside0.mk (box_block hw1)
  have P1 := Aside0.mk (show Strs w1 (w.heap.size + 1) L 9 by have h := hP; simpa using h)
  have B1 := Aside0.mk (box_below hw1)
  have hl1 : w.heap.size + 1 < w1.heap.size := blk_lt P1.out
  clear hP hw1 SPLIT
  go_wp2_with fail
  refine (shapes_any _).mono ?_
  rintro e w2 ⟨rfl, hw2⟩
  have Z2 := Aside0.mk (blk_below (blk_alloc Z1.out _) hw2)
  have P2 := Aside0.mk ((show Strs (w1.alloc (.cells #[.slice (some ⟨w.heap.size + 1, 0, none⟩) L.length L.length] 55)) (w.heap.size + 1) L 9 from blk_alloc P1.out _).below hw2)
  have R2 := Aside0.mk (box_block hw2)
  have B2 := Aside0.mk (keepB (box_below hw2) B1.out)
  have hl2 : w1.heap.size < w2.heap.size := blk_lt R2.out
  clear hw2 Z1 P1 B1
  have hrv : restV (w.heap.size + 1) L.length 0 = .slice (some ⟨w.heap.size + 1, 0, none⟩) L.length L.length := by
    unfold restV; rw [if_pos hL0, Nat.sub_zero]
  have RD2 := Aside0.mk (show RdS (w2.alloc (.cells shapesC 58)) w1.heap.size (w.heap.size + 1) L 0 from ⟨by rw [hrv]; exact blk_alloc R2.out _, blk_alloc P2.out _⟩)
  clear hrv
  have WORD := Aside0.mk (word_any w1.heap.size (w.heap.size + 1) L 0 _ RD2.out (by omega) (by omega))
  go_wp2_with fail
  refine WORD.out.mono ?_
  rintro e w3 ⟨rfl, h3, hr3⟩
  have K3 := Aside0.mk (h3.blk (by omega) (blk_new w2 (.cells shapesC 58)))
  have Z3 := Aside0.mk (h3.blk (by omega) (blk_alloc Z2.out (.cells shapesC 58)))
  have RD3 := Aside0.mk hr3
  have B3 := Aside0.mk (h3.below (by omega) (B2.out.alloc B2.out.size _))
  have hl3 : w2.heap.size < w3.heap.size := blk_lt K3.out
  clear h3 hr3 Z2 P2 R2 B2 RD2 WORD
  have IDX := Aside0.mk (indexShape w2.heap.size w3.heap.size (nthS L 0) (w3.alloc (.cells #[.string (nthS L 0)] 9)) (blk_alloc K3.out _) (blk_new _ _))
  have idx := IDX.out
  rw [hk] at idx
  clear hk
  go_wp2_with fail
  refine idx.mono ?_
  rintro e w4 ⟨rfl, hw4⟩
  have K4 := Aside0.mk (blk_below (blk_alloc K3.out _) hw4)
  have Z4 := Aside0.mk (blk_below (blk_alloc Z3.out _) hw4)
  have RD4 := Aside0.mk (RdS.below (show RdS (w3.alloc (.cells #[.string (nthS L 0)] 9)) w1.heap.size (w.heap.size + 1) L 1 from ⟨blk_alloc RD3.out.r _, blk_alloc RD3.out.l _⟩) hw4)
  have B4 := Aside0.mk (keepB (box_below hw4) B3.out)
  have hl4 : w2.heap.size < w4.heap.size := blk_lt K4.out
  clear hw4 idx IDX K3 Z3 RD3 B3 hl3
  have S5 := Aside0.mk (show Six (w4.alloc (.cells (rule6 (⟨3, ⟨#[]⟩, ⟨#[]⟩, 0, 0, 0⟩ : S31)) 31)) w.heap.size (w.heap.size + 1) w1.heap.size w2.heap.size w4.heap.size L 1 (⟨3, ⟨#[]⟩, ⟨#[]⟩, 0, 0, 0⟩ : S31) from ⟨blk_alloc Z4.out _, ⟨blk_alloc RD4.out.r _, blk_alloc RD4.out.l _⟩, blk_alloc K4.out _, blk_new _ _, by omega, by omega, by omega, by omega⟩)
  have B5 := Aside0.mk (B4.out.alloc B4.out.size (.cells (rule6 (⟨3, ⟨#[]⟩, ⟨#[]⟩, 0, 0, 0⟩ : S31)) 31))
  have hbr : w.heap.size ≤ w1.heap.size := by omega
  have hbx : w.heap.size ≤ w4.heap.size := by omega
  have q0 : w4.cell? ⟨w2.heap.size, 8, none⟩ = some (.string (kindW 2)) := (blk_cell K4.out 8).trans rfl
  have q1 : w4.cell? ⟨w2.heap.size, 9, none⟩ = some (.bool true) := (blk_cell K4.out 9).trans rfl
  have q2 : w4.cell? ⟨w2.heap.size, 10, none⟩ = some (.bool true) := (blk_cell K4.out 10).trans rfl
  have q3 : w4.cell? ⟨w2.heap.size, 11, none⟩ = some (.bool false) := (blk_cell K4.out 11).trans rfl
  have n4 : ¬ w2.heap.size = w4.heap.size := Nat.ne_of_lt hl4
  have n4' := Ne.symm n4
  have WD := Aside0.mk (word_any w1.heap.size (w.heap.size + 1) L 1 _ S5.out.rd (by omega) (by omega))
  go_wp2_with fail
  refine WD.out.mono ?_
  rintro e v6 ⟨rfl, h, hr⟩
  have S6 := Aside0.mk (S5.out.step h.toB hr)
  have B6 := Aside0.mk (h.below hbr B5.out)
  clear h hr WD
  clear q0 q1 q2 q3 n4 n4'
  obtain ⟨x0, x1, x2, x3, x4, x5⟩ := cells6 S6.out.x
  have g0 := blk_frozen S6.out.x 0
  have g1 := blk_frozen S6.out.x 1
  have g2 := blk_frozen S6.out.x 2
  have g3 := blk_frozen S6.out.x 3
  have g4 := blk_frozen S6.out.x 4
  have g5 := blk_frozen S6.out.x 5
  have q1 : v6.cell? ⟨w2.heap.size, 9, none⟩ = some (.bool true) := (blk_cell S6.out.k 9).trans rfl
  have q2 : v6.cell? ⟨w2.heap.size, 10, none⟩ = some (.bool true) := (blk_cell S6.out.k 10).trans rfl
  have q3 : v6.cell? ⟨w2.heap.size, 11, none⟩ = some (.bool false) := (blk_cell S6.out.k 11).trans rfl
  have T := Aside0.mk (S6.out.set (y := (⟨3, nthS L 1, ⟨#[]⟩, 0, 0, 0⟩ : S31)) 1 (.string (nthS L 1)) rfl)
  have TB := Aside0.mk (below_setx (i := 1) (v := .string (nthS L 1)) B6.out hbx)
  have WD := Aside0.mk (word_any w1.heap.size (w.heap.size + 1) L 2 _ T.out.rd (by omega) (by omega))
  go_wp2_with fail
  refine WD.out.mono ?_
  rintro e v7 ⟨rfl, h, hr⟩
  have S7 := Aside0.mk (T.out.step h.toB hr)
  have B7 := Aside0.mk (h.below hbr TB.out)
  clear h hr WD
  clear x0 x1 x2 x3 x4 x5 g0 g1 g2 g3 g4 g5 q1 q2 q3
  clear T TB
  have NB := Aside0.mk (number_any w1.heap.size (w.heap.size + 1) L 3 _ w HG.out B7.out hbr S7.out.rd (by omega) (by omega) (by have := HLE.out 3; omega))
  go_wp2_with fail
  refine NB.out.mono ?_
  rintro e v8 ⟨rfl, h, hr⟩
  have S8 := Aside0.mk (S7.out.step h hr)
  have B8 := Aside0.mk (h.below hbr B7.out (B7.out).size)
  clear h hr NB
  obtain ⟨x0, x1, x2, x3, x4, x5⟩ := cells6 S8.out.x
  have g0 := blk_frozen S8.out.x 0
  have g1 := blk_frozen S8.out.x 1
  have g2 := blk_frozen S8.out.x 2
  have g3 := blk_frozen S8.out.x 3
  have g4 := blk_frozen S8.out.x 4
  have g5 := blk_frozen S8.out.x 5
  have q1 : v8.cell? ⟨w2.heap.size, 9, none⟩ = some (.bool true) := (blk_cell S8.out.k 9).trans rfl
  have q2 : v8.cell? ⟨w2.heap.size, 10, none⟩ = some (.bool true) := (blk_cell S8.out.k 10).trans rfl
  have q3 : v8.cell? ⟨w2.heap.size, 11, none⟩ = some (.bool false) := (blk_cell S8.out.k 11).trans rfl
  have T := Aside0.mk ((S8.out.set (y := (⟨3, nthS L 1, nthS L 2, 0, 0, 0⟩ : S31)) 2 (.string (nthS L 2)) rfl).set (y := (⟨3, nthS L 1, nthS L 2, numG (nthS L 3), 0, 0⟩ : S31)) 3 (.int .i64 (numG (nthS L 3))) rfl)
  have TB := Aside0.mk (below_setx (i := 3) (v := .int .i64 (numG (nthS L 3))) (below_setx (i := 2) (v := .string (nthS L 2)) B8.out hbx) hbx)
  have NB := Aside0.mk (number_any w1.heap.size (w.heap.size + 1) L 4 _ w HG.out TB.out hbr T.out.rd (by omega) (by omega) (by have := HLE.out 4; omega))
  go_wp2_with fail
  refine NB.out.mono ?_
  rintro e v9 ⟨rfl, h, hr⟩
  have S9 := Aside0.mk (T.out.step h hr)
  have B9 := Aside0.mk (h.below hbr TB.out (TB.out).size)
  clear h hr NB
  clear x0 x1 x2 x3 x4 x5 g0 g1 g2 g3 g4 g5 q1 q2 q3
  clear T TB
  obtain ⟨x0, x1, x2, x3, x4, x5⟩ := cells6 S9.out.x
  have g0 := blk_frozen S9.out.x 0
  have g1 := blk_frozen S9.out.x 1
  have g2 := blk_frozen S9.out.x 2
  have g3 := blk_frozen S9.out.x 3
  have g4 := blk_frozen S9.out.x 4
  have g5 := blk_frozen S9.out.x 5
  have q1 : v9.cell? ⟨w2.heap.size, 9, none⟩ = some (.bool true) := (blk_cell S9.out.k 9).trans rfl
  have q2 : v9.cell? ⟨w2.heap.size, 10, none⟩ = some (.bool true) := (blk_cell S9.out.k 10).trans rfl
  have q3 : v9.cell? ⟨w2.heap.size, 11, none⟩ = some (.bool false) := (blk_cell S9.out.k 11).trans rfl
  have T := Aside0.mk (S9.out.set (y := (⟨3, nthS L 1, nthS L 2, numG (nthS L 3), numG (nthS L 4), 0⟩ : S31)) 4 (.int .i64 (numG (nthS L 4))) rfl)
  have TB := Aside0.mk (below_setx (i := 4) (v := .int .i64 (numG (nthS L 4))) B9.out hbx)
  have hs1 : (readX 2 L).f1.size ≤ 1000000 := Nat.le_trans (HLE.out 1) hs
  have hs2 : (readX 2 L).f2.size ≤ 1000000 := Nat.le_trans (HLE.out 2) hs
  go_wp2
  generalize hWd : (v9.setCell ⟨w4.heap.size, 4, none⟩ (.int .i64 (numG (nthS L 4)))) = wd
  have TD := Aside0.mk (hWd ▸ T.out : Six wd w.heap.size (w.heap.size + 1) w1.heap.size w2.heap.size w4.heap.size L 5 (readX 2 L))
  have BD := Aside0.mk (hWd ▸ TB.out : Below w.heap.size w wd)
  clear T TB hWd
  clear x0 x1 x2 x3 x4 x5 g0 g1 g2 g3 g4 g5 q1 q2 q3
  have PR := Aside0.mk (fun W hW => proper_any (readX 2 L) W hW hs1)
  have LN := Aside0.mk (fun W hW h => line_any (readX 2 L) W hW hs1 hs2 h)
  generalize hx : readX 2 L = x at *
  have HX := Aside0.mk hx
  clear hx
  obtain ⟨x0, x1, x2, x3, x4, x5⟩ := cells6 TD.out.x
  obtain ⟨z0, z1, z2, z3, z4, z5⟩ := cells6 TD.out.z
  have f0 := blk_frozen (TD.out.z) 0
  have f1 := blk_frozen (TD.out.z) 1
  have f2 := blk_frozen (TD.out.z) 2
  have f3 := blk_frozen (TD.out.z) 3
  have f4 := blk_frozen (TD.out.z) 4
  have f5 := blk_frozen (TD.out.z) 5
  have FIN := Aside0.mk (fun (b c : Bool) (hb : prR x = b) (hc : b = true → decide (lineB x = s) = c) (hc' : b = false → c = false) => (show (prR x && decide (lineB x = s)) = c by rw [hb]; cases b with | false => rw [hc' rfl]; rfl | true => rw [hc rfl]; rfl))
  cases hp : prR x with
  | false =>
    have hbool := FIN.out false false hp (fun h => by cases h) (fun _ => rfl)
    have pr := fun W hW => PR.out W hW
    rw [hp] at pr
    have PR2 := Aside0.mk pr
    have HB := Aside0.mk hbool
    clear pr hbool hp
    first | go_region_with (go_at_call 21; refine (PR2.out _ (Gw.below HG.out.g (below_drew BD.out))).mono ?_; rintro e w5 ⟨rfl, hb⟩; have y0 := keepC hb x0; have y1 := keepC hb x1; have y2 := keepC hb x2; have y3 := keepC hb x3; have y4 := keepC hb x4; have y5 := keepC hb x5; have u0 := keepC hb z0; have u1 := keepC hb z1; have u2 := keepC hb z2; have u3 := keepC hb z3; have u4 := keepC hb z4; have u5 := keepC hb z5; have ZB := Aside0.mk (blk_below (blk_drew TD.out.z) hb); have BB := Aside0.mk (keepB hb (below_drew BD.out)); have r0 := blk_frozen ZB.out 0; have r1 := blk_frozen ZB.out 1; have r2 := blk_frozen ZB.out 2; have r3 := blk_frozen ZB.out 3; have r4 := blk_frozen ZB.out 4; have r5 := blk_frozen ZB.out 5; clear hb) | fail
    all_goals go_wp2
    all_goals exact bodyPost_ret (results_ct (p := 2) (u := 3) rfl _ _ w.heap.size 31 (rule6 x) (0, 0) _ rfl (store6 ZB.out x) Tryz.underlying31 rfl (by kernel_rfl)) rfl ⟨by rw [HX.out, HB.out]; rfl, below6 BB.out (Nat.le_refl _) x⟩
  | true =>
    have pr := fun W hW => PR.out W hW
    rw [hp] at pr
    have PR2 := Aside0.mk pr
    have LN2 := Aside0.mk (fun W hW => LN.out W hW hp)
    have HB := Aside0.mk (FIN.out true (decide (lineB x = s)) hp (fun _ => rfl) (fun h => by cases h))
    have hq : ((lineB x).toList == s.toList) = decide (lineB x = s) := by
      rw [Bool.eq_iff_iff, beq_iff_eq, decide_eq_true_eq, ByteArray.toList_eq, ByteArray.toList_eq]
      exact ⟨fun h => ByteArray.ext (Array.ext' h), fun h => by rw [h]⟩
    have HQ := Aside0.mk hq
    clear pr hp hq
    generalize hlx : lineB x = lx at *
    have HLX := Aside0.mk hlx
    clear hlx
    go_region_with (first | (go_at_call 21; refine (PR2.out _ (Gw.below HG.out.g (below_drew BD.out))).mono ?_; rintro e w5 ⟨rfl, hb⟩; have y0 := keepC hb x0; have y1 := keepC hb x1; have y2 := keepC hb x2; have y3 := keepC hb x3; have y4 := keepC hb x4; have y5 := keepC hb x5; have u0 := keepC hb z0; have u1 := keepC hb z1; have u2 := keepC hb z2; have u3 := keepC hb z3; have u4 := keepC hb z4; have u5 := keepC hb z5; have ZB := Aside0.mk (blk_below (blk_drew TD.out.z) hb); have BB := Aside0.mk (keepB hb (below_drew BD.out)); have r0 := blk_frozen ZB.out 0; have r1 := blk_frozen ZB.out 1; have r2 := blk_frozen ZB.out 2; have r3 := blk_frozen ZB.out 3; have r4 := blk_frozen ZB.out 4; have r5 := blk_frozen ZB.out 5; clear hb) | (go_at_call 19; refine (LN2.out _ (Gw.below HG.out.g BB.out)).mono ?_; rintro e w6 ⟨rfl, hb⟩; have y0' := keepC hb y0; have y1' := keepC hb y1; have y2' := keepC hb y2; have y3' := keepC hb y3; have y4' := keepC hb y4; have y5' := keepC hb y5; have u0' := keepC hb u0; have u1' := keepC hb u1; have u2' := keepC hb u2; have u3' := keepC hb u3; have u4' := keepC hb u4; have u5' := keepC hb u5; have ZC := Aside0.mk (blk_below ZB.out hb); have BC := Aside0.mk (keepB hb BB.out); have t0 := blk_frozen ZC.out 0; have t1 := blk_frozen ZC.out 1; have t2 := blk_frozen ZC.out 2; have t3 := blk_frozen ZC.out 3; have t4 := blk_frozen ZC.out 4; have t5 := blk_frozen ZC.out 5; clear hb))
    all_goals go_wp2
    all_goals exact bodyPost_ret (results_ct (p := 2) (u := 3) rfl _ _ w.heap.size 31 (rule6 x) (0, 0) _ rfl (store6 ZC.out x) Tryz.underlying31 rfl (by kernel_rfl)) rfl ⟨by rw [HX.out, HLX.out, HB.out, ← HQ.out]; rfl, below6 BC.out (Nat.le_refl _) x⟩
end Go.Proofs.YtghdimmomnfakaaGreatDoor.Gv

set_option linter.unusedVariables false
set_option linter.unusedSimpArgs false
namespace Go.Proofs.YtghdimmomnfakaaGreatDoor.Gv
open Go.RowKit Go.Proofs.YtghdimmomnfakaaGreatDoorW.PrintWords Go.Proofs.YtghdimmomnfakaaGreatDoorW.PrintLast Go.Proofs.YtghdimmomnfakaaGreatDoorW.PrintMore
open Go.Proofs.YtghdimmomnfakaaGreatDoor.X (S31 k31 rd_T31 at_T31 z31)
open Go.Proofs.YtghdimmomnfakaaGreatDoor.Pure (prR lineB impl_proper line_f)
set_option maxHeartbeats 8000000 in
set_option maxRecDepth 1000000 in
theorem read_k3 (s : ByteArray) (w : World) (hG : Ge w) (hs : s.size ≤ 1000000) (hL0 : 0 < (partsS 32 s).length) (hk : kindIdx (nthS (partsS 32 s) 0) = 3) :
    Calls Tryz.prog 11 #[.string s] w fun e w' => e = .returned (.tuple #[.agg (rule6 (readX 3 (partsS 32 s))), .bool (prR (readX 3 (partsS 32 s)) && decide (lineB (readX 3 (partsS 32 s)) = s))]) ∧ Below w.heap.size w w' := by
  have HG := Aside0.mk hG
  have SPLIT := Aside0.mk (split_parts s 32 (w.alloc (.cells (rule6 z31) 31)) (Gw.below hG.g ((Below.refl _ _).alloc (Nat.le_refl _) _)) (by omega))
  have hlen := partsS_len 32 s
  have HLE := Aside0.mk (partsS_le 32 s)
  generalize partsS 32 s = L at *
  clear hG
  go_enter Tryz.func11, Tryz.ntmps11
  go_wp2_with fail
  refine SPLIT.out.mono ?_
  rintro e w1 ⟨rfl, hP, hw1⟩
  have Z1 := Aside0.mk (box_block hw1)
  have P1 := Aside0.mk (show Strs w1 (w.heap.size + 1) L 9 by have h := hP; simpa using h)
  have B1 := Aside0.mk (box_below hw1)
  have hl1 : w.heap.size + 1 < w1.heap.size := blk_lt P1.out
  clear hP hw1 SPLIT
  go_wp2_with fail
  refine (shapes_any _).mono ?_
  rintro e w2 ⟨rfl, hw2⟩
  have Z2 := Aside0.mk (blk_below (blk_alloc Z1.out _) hw2)
  have P2 := Aside0.mk ((show Strs (w1.alloc (.cells #[.slice (some ⟨w.heap.size + 1, 0, none⟩) L.length L.length] 55)) (w.heap.size + 1) L 9 from blk_alloc P1.out _).below hw2)
  have R2 := Aside0.mk (box_block hw2)
  have B2 := Aside0.mk (keepB (box_below hw2) B1.out)
  have hl2 : w1.heap.size < w2.heap.size := blk_lt R2.out
  clear hw2 Z1 P1 B1
  have hrv : restV (w.heap.size + 1) L.length 0 = .slice (some ⟨w.heap.size + 1, 0, none⟩) L.length L.length := by
    unfold restV; rw [if_pos hL0, Nat.sub_zero]
  have RD2 := Aside0.mk (show RdS (w2.alloc (.cells shapesC 58)) w1.heap.size (w.heap.size + 1) L 0 from ⟨by rw [hrv]; exact blk_alloc R2.out _, blk_alloc P2.out _⟩)
  clear hrv
  have WORD := Aside0.mk (word_any w1.heap.size (w.heap.size + 1) L 0 _ RD2.out (by omega) (by omega))
  go_wp2_with fail
  refine WORD.out.mono ?_
  rintro e w3 ⟨rfl, h3, hr3⟩
  have K3 := Aside0.mk (h3.blk (by omega) (blk_new w2 (.cells shapesC 58)))
  have Z3 := Aside0.mk (h3.blk (by omega) (blk_alloc Z2.out (.cells shapesC 58)))
  have RD3 := Aside0.mk hr3
  have B3 := Aside0.mk (h3.below (by omega) (B2.out.alloc B2.out.size _))
  have hl3 : w2.heap.size < w3.heap.size := blk_lt K3.out
  clear h3 hr3 Z2 P2 R2 B2 RD2 WORD
  have IDX := Aside0.mk (indexShape w2.heap.size w3.heap.size (nthS L 0) (w3.alloc (.cells #[.string (nthS L 0)] 9)) (blk_alloc K3.out _) (blk_new _ _))
  have idx := IDX.out
  rw [hk] at idx
  clear hk
  go_wp2_with fail
  refine idx.mono ?_
  rintro e w4 ⟨rfl, hw4⟩
  have K4 := Aside0.mk (blk_below (blk_alloc K3.out _) hw4)
  have Z4 := Aside0.mk (blk_below (blk_alloc Z3.out _) hw4)
  have RD4 := Aside0.mk (RdS.below (show RdS (w3.alloc (.cells #[.string (nthS L 0)] 9)) w1.heap.size (w.heap.size + 1) L 1 from ⟨blk_alloc RD3.out.r _, blk_alloc RD3.out.l _⟩) hw4)
  have B4 := Aside0.mk (keepB (box_below hw4) B3.out)
  have hl4 : w2.heap.size < w4.heap.size := blk_lt K4.out
  clear hw4 idx IDX K3 Z3 RD3 B3 hl3
  have S5 := Aside0.mk (show Six (w4.alloc (.cells (rule6 (⟨4, ⟨#[]⟩, ⟨#[]⟩, 0, 0, 0⟩ : S31)) 31)) w.heap.size (w.heap.size + 1) w1.heap.size w2.heap.size w4.heap.size L 1 (⟨4, ⟨#[]⟩, ⟨#[]⟩, 0, 0, 0⟩ : S31) from ⟨blk_alloc Z4.out _, ⟨blk_alloc RD4.out.r _, blk_alloc RD4.out.l _⟩, blk_alloc K4.out _, blk_new _ _, by omega, by omega, by omega, by omega⟩)
  have B5 := Aside0.mk (B4.out.alloc B4.out.size (.cells (rule6 (⟨4, ⟨#[]⟩, ⟨#[]⟩, 0, 0, 0⟩ : S31)) 31))
  have hbr : w.heap.size ≤ w1.heap.size := by omega
  have hbx : w.heap.size ≤ w4.heap.size := by omega
  have q0 : w4.cell? ⟨w2.heap.size, 12, none⟩ = some (.string (kindW 3)) := (blk_cell K4.out 12).trans rfl
  have q1 : w4.cell? ⟨w2.heap.size, 13, none⟩ = some (.bool false) := (blk_cell K4.out 13).trans rfl
  have q2 : w4.cell? ⟨w2.heap.size, 14, none⟩ = some (.bool true) := (blk_cell K4.out 14).trans rfl
  have q3 : w4.cell? ⟨w2.heap.size, 15, none⟩ = some (.bool true) := (blk_cell K4.out 15).trans rfl
  have n4 : ¬ w2.heap.size = w4.heap.size := Nat.ne_of_lt hl4
  have n4' := Ne.symm n4
  have WD := Aside0.mk (word_any w1.heap.size (w.heap.size + 1) L 1 _ S5.out.rd (by omega) (by omega))
  go_wp2_with fail
  refine WD.out.mono ?_
  rintro e v6 ⟨rfl, h, hr⟩
  have S6 := Aside0.mk (S5.out.step h.toB hr)
  have B6 := Aside0.mk (h.below hbr B5.out)
  clear h hr WD
  clear q0 q1 q2 q3 n4 n4'
  have NB := Aside0.mk (number_any w1.heap.size (w.heap.size + 1) L 2 _ w HG.out B6.out hbr S6.out.rd (by omega) (by omega) (by have := HLE.out 2; omega))
  go_wp2_with fail
  refine NB.out.mono ?_
  rintro e v7 ⟨rfl, h, hr⟩
  have S7 := Aside0.mk (S6.out.step h hr)
  have B7 := Aside0.mk (h.below hbr B6.out (B6.out).size)
  clear h hr NB
  obtain ⟨x0, x1, x2, x3, x4, x5⟩ := cells6 S7.out.x
  have g0 := blk_frozen S7.out.x 0
  have g1 := blk_frozen S7.out.x 1
  have g2 := blk_frozen S7.out.x 2
  have g3 := blk_frozen S7.out.x 3
  have g4 := blk_frozen S7.out.x 4
  have g5 := blk_frozen S7.out.x 5
  have q1 : v7.cell? ⟨w2.heap.size, 13, none⟩ = some (.bool false) := (blk_cell S7.out.k 13).trans rfl
  have q2 : v7.cell? ⟨w2.heap.size, 14, none⟩ = some (.bool true) := (blk_cell S7.out.k 14).trans rfl
  have q3 : v7.cell? ⟨w2.heap.size, 15, none⟩ = some (.bool true) := (blk_cell S7.out.k 15).trans rfl
  have T := Aside0.mk ((S7.out.set (y := (⟨4, ⟨#[]⟩, nthS L 1, 0, 0, 0⟩ : S31)) 2 (.string (nthS L 1)) rfl).set (y := (⟨4, ⟨#[]⟩, nthS L 1, numG (nthS L 2), 0, 0⟩ : S31)) 3 (.int .i64 (numG (nthS L 2))) rfl)
  have TB := Aside0.mk (below_setx (i := 3) (v := .int .i64 (numG (nthS L 2))) (below_setx (i := 2) (v := .string (nthS L 1)) B7.out hbx) hbx)
  have NB := Aside0.mk (number_any w1.heap.size (w.heap.size + 1) L 3 _ w HG.out TB.out hbr T.out.rd (by omega) (by omega) (by have := HLE.out 3; omega))
  go_wp2_with fail
  refine NB.out.mono ?_
  rintro e v8 ⟨rfl, h, hr⟩
  have S8 := Aside0.mk (T.out.step h hr)
  have B8 := Aside0.mk (h.below hbr TB.out (TB.out).size)
  clear h hr NB
  clear x0 x1 x2 x3 x4 x5 g0 g1 g2 g3 g4 g5 q1 q2 q3
  clear T TB
  obtain ⟨x0, x1, x2, x3, x4, x5⟩ := cells6 S8.out.x
  have g0 := blk_frozen S8.out.x 0
  have g1 := blk_frozen S8.out.x 1
  have g2 := blk_frozen S8.out.x 2
  have g3 := blk_frozen S8.out.x 3
  have g4 := blk_frozen S8.out.x 4
  have g5 := blk_frozen S8.out.x 5
  have q1 : v8.cell? ⟨w2.heap.size, 13, none⟩ = some (.bool false) := (blk_cell S8.out.k 13).trans rfl
  have q2 : v8.cell? ⟨w2.heap.size, 14, none⟩ = some (.bool true) := (blk_cell S8.out.k 14).trans rfl
  have q3 : v8.cell? ⟨w2.heap.size, 15, none⟩ = some (.bool true) := (blk_cell S8.out.k 15).trans rfl
  have T := Aside0.mk (S8.out.set (y := (⟨4, ⟨#[]⟩, nthS L 1, numG (nthS L 2), numG (nthS L 3), 0⟩ : S31)) 4 (.int .i64 (numG (nthS L 3))) rfl)
  have TB := Aside0.mk (below_setx (i := 4) (v := .int .i64 (numG (nthS L 3))) B8.out hbx)
  have NB := Aside0.mk (number_any w1.heap.size (w.heap.size + 1) L 4 _ w HG.out TB.out hbr T.out.rd (by omega) (by omega) (by have := HLE.out 4; omega))
  go_wp2_with fail
  refine NB.out.mono ?_
  rintro e v9 ⟨rfl, h, hr⟩
  have S9 := Aside0.mk (T.out.step h hr)
  have B9 := Aside0.mk (h.below hbr TB.out (TB.out).size)
  clear h hr NB
  clear x0 x1 x2 x3 x4 x5 g0 g1 g2 g3 g4 g5 q1 q2 q3
  clear T TB
  obtain ⟨x0, x1, x2, x3, x4, x5⟩ := cells6 S9.out.x
  have g0 := blk_frozen S9.out.x 0
  have g1 := blk_frozen S9.out.x 1
  have g2 := blk_frozen S9.out.x 2
  have g3 := blk_frozen S9.out.x 3
  have g4 := blk_frozen S9.out.x 4
  have g5 := blk_frozen S9.out.x 5
  have q1 : v9.cell? ⟨w2.heap.size, 13, none⟩ = some (.bool false) := (blk_cell S9.out.k 13).trans rfl
  have q2 : v9.cell? ⟨w2.heap.size, 14, none⟩ = some (.bool true) := (blk_cell S9.out.k 14).trans rfl
  have q3 : v9.cell? ⟨w2.heap.size, 15, none⟩ = some (.bool true) := (blk_cell S9.out.k 15).trans rfl
  have T := Aside0.mk (S9.out.set (y := (⟨4, ⟨#[]⟩, nthS L 1, numG (nthS L 2), numG (nthS L 3), numG (nthS L 4)⟩ : S31)) 5 (.int .i64 (numG (nthS L 4))) rfl)
  have TB := Aside0.mk (below_setx (i := 5) (v := .int .i64 (numG (nthS L 4))) B9.out hbx)
  have hs1 : (readX 3 L).f1.size ≤ 1000000 := (show (⟨#[]⟩ : ByteArray).size ≤ 1000000 by decide)
  have hs2 : (readX 3 L).f2.size ≤ 1000000 := Nat.le_trans (HLE.out 1) hs
  go_wp2
  generalize hWd : (v9.setCell ⟨w4.heap.size, 5, none⟩ (.int .i64 (numG (nthS L 4)))) = wd
  have TD := Aside0.mk (hWd ▸ T.out : Six wd w.heap.size (w.heap.size + 1) w1.heap.size w2.heap.size w4.heap.size L 5 (readX 3 L))
  have BD := Aside0.mk (hWd ▸ TB.out : Below w.heap.size w wd)
  clear T TB hWd
  clear x0 x1 x2 x3 x4 x5 g0 g1 g2 g3 g4 g5 q1 q2 q3
  have PR := Aside0.mk (fun W hW => proper_any (readX 3 L) W hW hs1)
  have LN := Aside0.mk (fun W hW h => line_any (readX 3 L) W hW hs1 hs2 h)
  generalize hx : readX 3 L = x at *
  have HX := Aside0.mk hx
  clear hx
  obtain ⟨x0, x1, x2, x3, x4, x5⟩ := cells6 TD.out.x
  obtain ⟨z0, z1, z2, z3, z4, z5⟩ := cells6 TD.out.z
  have f0 := blk_frozen (TD.out.z) 0
  have f1 := blk_frozen (TD.out.z) 1
  have f2 := blk_frozen (TD.out.z) 2
  have f3 := blk_frozen (TD.out.z) 3
  have f4 := blk_frozen (TD.out.z) 4
  have f5 := blk_frozen (TD.out.z) 5
  have FIN := Aside0.mk (fun (b c : Bool) (hb : prR x = b) (hc : b = true → decide (lineB x = s) = c) (hc' : b = false → c = false) => (show (prR x && decide (lineB x = s)) = c by rw [hb]; cases b with | false => rw [hc' rfl]; rfl | true => rw [hc rfl]; rfl))
  cases hp : prR x with
  | false =>
    have hbool := FIN.out false false hp (fun h => by cases h) (fun _ => rfl)
    have pr := fun W hW => PR.out W hW
    rw [hp] at pr
    have PR2 := Aside0.mk pr
    have HB := Aside0.mk hbool
    clear pr hbool hp
    first | go_region_with (go_at_call 21; refine (PR2.out _ (Gw.below HG.out.g (below_drew BD.out))).mono ?_; rintro e w5 ⟨rfl, hb⟩; have y0 := keepC hb x0; have y1 := keepC hb x1; have y2 := keepC hb x2; have y3 := keepC hb x3; have y4 := keepC hb x4; have y5 := keepC hb x5; have u0 := keepC hb z0; have u1 := keepC hb z1; have u2 := keepC hb z2; have u3 := keepC hb z3; have u4 := keepC hb z4; have u5 := keepC hb z5; have ZB := Aside0.mk (blk_below (blk_drew TD.out.z) hb); have BB := Aside0.mk (keepB hb (below_drew BD.out)); have r0 := blk_frozen ZB.out 0; have r1 := blk_frozen ZB.out 1; have r2 := blk_frozen ZB.out 2; have r3 := blk_frozen ZB.out 3; have r4 := blk_frozen ZB.out 4; have r5 := blk_frozen ZB.out 5; clear hb) | fail
    all_goals go_wp2
    all_goals exact bodyPost_ret (results_ct (p := 2) (u := 3) rfl _ _ w.heap.size 31 (rule6 x) (0, 0) _ rfl (store6 ZB.out x) Tryz.underlying31 rfl (by kernel_rfl)) rfl ⟨by rw [HX.out, HB.out]; rfl, below6 BB.out (Nat.le_refl _) x⟩
  | true =>
    have pr := fun W hW => PR.out W hW
    rw [hp] at pr
    have PR2 := Aside0.mk pr
    have LN2 := Aside0.mk (fun W hW => LN.out W hW hp)
    have HB := Aside0.mk (FIN.out true (decide (lineB x = s)) hp (fun _ => rfl) (fun h => by cases h))
    have hq : ((lineB x).toList == s.toList) = decide (lineB x = s) := by
      rw [Bool.eq_iff_iff, beq_iff_eq, decide_eq_true_eq, ByteArray.toList_eq, ByteArray.toList_eq]
      exact ⟨fun h => ByteArray.ext (Array.ext' h), fun h => by rw [h]⟩
    have HQ := Aside0.mk hq
    clear pr hp hq
    generalize hlx : lineB x = lx at *
    have HLX := Aside0.mk hlx
    clear hlx
    go_region_with (first | (go_at_call 21; refine (PR2.out _ (Gw.below HG.out.g (below_drew BD.out))).mono ?_; rintro e w5 ⟨rfl, hb⟩; have y0 := keepC hb x0; have y1 := keepC hb x1; have y2 := keepC hb x2; have y3 := keepC hb x3; have y4 := keepC hb x4; have y5 := keepC hb x5; have u0 := keepC hb z0; have u1 := keepC hb z1; have u2 := keepC hb z2; have u3 := keepC hb z3; have u4 := keepC hb z4; have u5 := keepC hb z5; have ZB := Aside0.mk (blk_below (blk_drew TD.out.z) hb); have BB := Aside0.mk (keepB hb (below_drew BD.out)); have r0 := blk_frozen ZB.out 0; have r1 := blk_frozen ZB.out 1; have r2 := blk_frozen ZB.out 2; have r3 := blk_frozen ZB.out 3; have r4 := blk_frozen ZB.out 4; have r5 := blk_frozen ZB.out 5; clear hb) | (go_at_call 19; refine (LN2.out _ (Gw.below HG.out.g BB.out)).mono ?_; rintro e w6 ⟨rfl, hb⟩; have y0' := keepC hb y0; have y1' := keepC hb y1; have y2' := keepC hb y2; have y3' := keepC hb y3; have y4' := keepC hb y4; have y5' := keepC hb y5; have u0' := keepC hb u0; have u1' := keepC hb u1; have u2' := keepC hb u2; have u3' := keepC hb u3; have u4' := keepC hb u4; have u5' := keepC hb u5; have ZC := Aside0.mk (blk_below ZB.out hb); have BC := Aside0.mk (keepB hb BB.out); have t0 := blk_frozen ZC.out 0; have t1 := blk_frozen ZC.out 1; have t2 := blk_frozen ZC.out 2; have t3 := blk_frozen ZC.out 3; have t4 := blk_frozen ZC.out 4; have t5 := blk_frozen ZC.out 5; clear hb))
    all_goals go_wp2
    all_goals exact bodyPost_ret (results_ct (p := 2) (u := 3) rfl _ _ w.heap.size 31 (rule6 x) (0, 0) _ rfl (store6 ZC.out x) Tryz.underlying31 rfl (by kernel_rfl)) rfl ⟨by rw [HX.out, HLX.out, HB.out, ← HQ.out]; rfl, below6 BC.out (Nat.le_refl _) x⟩
end Go.Proofs.YtghdimmomnfakaaGreatDoor.Gv
