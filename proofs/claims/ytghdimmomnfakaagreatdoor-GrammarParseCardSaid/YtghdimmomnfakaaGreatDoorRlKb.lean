/-
  vinculumref49.ReadLine: a line of kind 2.
-/
import Derived.Test.YtghdimmomnfakaaGreatDoorRefBase
import Derived.StillTailTactics
set_option linter.unusedVariables false
set_option linter.unusedSimpArgs false
namespace Go.Proofs.YtghdimmomnfakaaGreatDoor.Gv
open Go.RowKit Go.Proofs.YtghdimmomnfakaaGreatDoorW.PrintWords Go.Proofs.YtghdimmomnfakaaGreatDoorW.PrintLast Go.Proofs.YtghdimmomnfakaaGreatDoorW.PrintMore
open Go.Proofs.YtghdimmomnfakaaGreatDoor.X (S31 k31 rd_T31 at_T31 z31)
open Go.Proofs.YtghdimmomnfakaaGreatDoor.Pure
set_option maxHeartbeats 8000000 in
set_option maxRecDepth 1000000 in
theorem rl_k2 (s : ByteArray) (w : World) (hs : s.size ≤ 1000000) (hL0 : 0 < (partsS 32 s).length) (hw : nthS (partsS 32 s) 0 = wordK 2) (hl : (partsS 32 s).length = 5) :
    Calls Tryz.prog 16 #[.string s] w fun e w' => e = .returned (.tuple #[.agg (rule6 (refRL s).1), .bool (refRL s).2]) ∧ Below w.heap.size w w' := by
  have SPLIT := Aside0.mk (fun W => ref_split s 32 (by omega) W)
  have hlen := partsS_len 32 s
  have HLE := Aside0.mk (partsS_le 32 s)
  have FIN := Aside0.mk (show refRL s = (refW (partsS 32 s), prR (refW (partsS 32 s)) && decide (lineB (refW (partsS 32 s)) = s)) from rfl)
  generalize refRL s = R at *
  generalize partsS 32 s = L at *
  go_enter Tryz.func16, Tryz.ntmps16
  go_wp2_with fail
  refine (SPLIT.out _).mono ?_
  rintro e w1 ⟨v, rfl, hO, hw1⟩
  have Z1 := Aside0.mk (box_block hw1)
  have B1 := Aside0.mk (box_below hw1)
  go_upto_region 3 with fail
  generalize hW : w1.alloc (.cells #[.int .i64 0, .string ⟨#[]⟩, .string ⟨#[]⟩, .int .i64 0, .int .i64 0, .int .i64 0] 31) = w2
  have Z2 := Aside0.mk (show w2.heap[w.heap.size]? = some (.cells (rule6 z31) 31 (0, 0)) by rw [← hW]; exact blk_alloc Z1.out _)
  have X2 := Aside0.mk (show w2.heap[w1.heap.size]? = some (.cells (rule6 z31) 31 (0, 0)) by rw [← hW]; exact blk_new _ _)
  have B2 := Aside0.mk (show Below w.heap.size w w2 by rw [← hW]; exact B1.out.alloc B1.out.size _)
  have O2 := Aside0.mk (show OwnS w2 (w.heap.size + 1) v L by
    have h := OwnS.below hO (show Below w1.heap.size w1 w2 by rw [← hW]; exact (Below.refl _ _).alloc (Nat.le_refl _) _)
    simpa using h)
  have hlt : w.heap.size < w1.heap.size := blk_lt Z1.out
  generalize w1.heap.size = g5 at *
  clear hO hw1 Z1 B1 hW w1
  obtain ⟨A, c, ev⟩ := Kd.R_slice O2.out
  subst ev
  obtain ⟨ad, eA, y0⟩ := O2.out.cell (k := 0) (by omega)
  cases eA
  replace y0 : w2.cell? ad = some (.string (nthS L 0)) := y0
  have y1 : w2.cell? ⟨ad.block, ad.off + 1, none⟩ = some (.string (nthS L 1)) := by obtain ⟨ad', e', y'⟩ := O2.out.cell (k := 1) (by omega); cases e'; exact y'
  have y2 : w2.cell? ⟨ad.block, ad.off + 2, none⟩ = some (.string (nthS L 2)) := by obtain ⟨ad', e', y'⟩ := O2.out.cell (k := 2) (by omega); cases e'; exact y'
  have y3 : w2.cell? ⟨ad.block, ad.off + 3, none⟩ = some (.string (nthS L 3)) := by obtain ⟨ad', e', y'⟩ := O2.out.cell (k := 3) (by omega); cases e'; exact y'
  have y4 : w2.cell? ⟨ad.block, ad.off + 4, none⟩ = some (.string (nthS L 4)) := by obtain ⟨ad', e', y'⟩ := O2.out.cell (k := 4) (by omega); cases e'; exact y'
  have q0 : ((nthS L 0).toList == [105, 110, 102, 105, 120]) = false := by rw [hw]; decide +kernel
  have q1 : ((nthS L 0).toList == [112, 114, 101, 102, 105, 120]) = false := by rw [hw]; decide +kernel
  have q2 : ((nthS L 0).toList == [112, 111, 115, 116, 102, 105, 120]) = true := by rw [hw]; decide +kernel
  have HX := Aside0.mk (show refW L = (⟨3, nthS L 1, nthS L 2, numR (nthS L 3), numR (nthS L 4), 0⟩ : S31) by unfold refW; rw [if_neg (fun h => absurd (hw.symm.trans h.1) (by decide +kernel))]; rw [if_neg (fun h => absurd (hw.symm.trans h.1) (by decide +kernel))]; exact if_pos ⟨hw, hl⟩)
  have hs1 : (refW L).f1.size ≤ 1000000 := by rw [HX.out]; exact Nat.le_trans (HLE.out 1) hs
  have hs2 : (refW L).f2.size ≤ 1000000 := by rw [HX.out]; exact Nat.le_trans (HLE.out 2) hs
  rw [hl]
  clear hw hl hlen HLE SPLIT
  generalize refW L = x at *
  generalize nthS L 0 = l0 at *
  generalize nthS L 1 = l1 at *
  generalize nthS L 2 = l2 at *
  generalize nthS L 3 = l3 at *
  generalize nthS L 4 = l4 at *
  generalize hn3 : numR l3 = n3 at *
  generalize hn4 : numR l4 = n4 at *
  have HN3 := Aside0.mk (fun W => hn3 ▸ number_same l3 W : ∀ W, Calls Tryz.prog 32 #[.string l3] W fun e w' => e = .returned (.int .i64 n3) ∧ w' = W)
  clear hn3
  have HN4 := Aside0.mk (fun W => hn4 ▸ number_same l4 W : ∀ W, Calls Tryz.prog 32 #[.string l4] W fun e w' => e = .returned (.int .i64 n4) ∧ w' = W)
  clear hn4
  go_wp2
  go_still_tail 14, (by kernel_rfl)
  still_call ((HN3.out _).mono (fun e w'' h => ⟨h.1, h.2⟩))
  repeat still_step
  still_call ((HN4.out _).mono (fun e w'' h => ⟨h.1, h.2⟩))
  repeat still_step
  try refine wpStill_nil ?_
  change wpList _ _ _ _ _ w2.drew
  generalize hW3 : w2.drew = w3
  have Z3 := Aside0.mk (show w3.heap[w.heap.size]? = some (.cells (rule6 z31) 31 (0, 0)) by rw [← hW3]; exact blk_drew Z2.out)
  have X3 := Aside0.mk (show w3.heap[g5]? = some (.cells (rule6 z31) 31 (0, 0)) by rw [← hW3]; exact blk_drew X2.out)
  have B3 := Aside0.mk (show Below w.heap.size w w3 by rw [← hW3]; exact below_drew B2.out)
  clear hW3 O2 Z2 X2 B2 y0 y1 y2 y3 y4
  go_wp2_with fail
  refine (Go.Proofs.YtghdimmomnfakaaGreatDoor.X.vinculumref49_rule.calls _ _ _ _ _ _ _ _ _ _ _ _ _ rfl).mono ?_
  rintro e w4 ⟨rfl, hb⟩
  have Z4 := Aside0.mk (blk_below Z3.out hb)
  have X4 := Aside0.mk (blk_below X3.out hb)
  have B4 := Aside0.mk (keepB hb B3.out)
  clear hb Z3 X3 B3 HN3 HN4
  obtain ⟨x0, x1, x2, x3, x4, x5⟩ := cells6 X4.out
  have f0 := blk_frozen X4.out 0
  have f1 := blk_frozen X4.out 1
  have f2 := blk_frozen X4.out 2
  have f3 := blk_frozen X4.out 3
  have f4 := blk_frozen X4.out 4
  have f5 := blk_frozen X4.out 5
  go_wp2
  clear x0 x1 x2 x3 x4 x5 f0 f1 f2 f3 f4 f5
  have TD0 := Aside0.mk (store6 X4.out (⟨3, l1, l2, n3, n4, 0⟩ : S31))
  have BD0 := Aside0.mk (below6 B4.out (show w.heap.size ≤ g5 by omega) (⟨3, l1, l2, n3, n4, 0⟩ : S31))
  have ZD0 := Aside0.mk (far6 Z4.out (show w.heap.size ≠ g5 by omega) (⟨3, l1, l2, n3, n4, 0⟩ : S31))
  simp only [] at TD0 BD0 ZD0
  generalize hWd : World.setCell _ _ _ = wd at TD0 BD0 ZD0 ⊢
  have TD := Aside0.mk (show Rule6 wd g5 x by rw [HX.out]; exact TD0.out)
  have ZD := Aside0.mk ZD0.out
  have BD := Aside0.mk BD0.out
  clear hWd TD0 BD0 ZD0 HX X4 Z4 B4
  have FN := Aside0.mk FIN.out
  clear FIN
  have PR := Aside0.mk (fun W => ref_prop x W hs1 hs2)
  have LN := Aside0.mk (fun W h => ref_line x W h hs1 hs2)
  obtain ⟨x0, x1, x2, x3, x4, x5⟩ := cells6 TD.out
  obtain ⟨z0, z1, z2, z3, z4, z5⟩ := cells6 ZD.out
  have f0 := blk_frozen (ZD.out) 0
  have f1 := blk_frozen (ZD.out) 1
  have f2 := blk_frozen (ZD.out) 2
  have f3 := blk_frozen (ZD.out) 3
  have f4 := blk_frozen (ZD.out) 4
  have f5 := blk_frozen (ZD.out) 5
  have FIN := Aside0.mk (fun (b c : Bool) (hb : prR x = b) (hc : b = true → decide (lineB x = s) = c) (hc' : b = false → c = false) => (show (prR x && decide (lineB x = s)) = c by rw [hb]; cases b with | false => rw [hc' rfl]; rfl | true => rw [hc rfl]; rfl))
  cases hp : prR x with
  | false =>
    have hbool := FIN.out false false hp (fun h => by cases h) (fun _ => rfl)
    have pr := fun W => PR.out W
    rw [hp] at pr
    have PR2 := Aside0.mk pr
    have HB := Aside0.mk hbool
    clear pr hbool hp
    first | go_region_with (go_at_call 33; refine (PR2.out _).mono ?_; rintro e w5 ⟨rfl, hb⟩; have y0 := keepC hb x0; have y1 := keepC hb x1; have y2 := keepC hb x2; have y3 := keepC hb x3; have y4 := keepC hb x4; have y5 := keepC hb x5; have u0 := keepC hb z0; have u1 := keepC hb z1; have u2 := keepC hb z2; have u3 := keepC hb z3; have u4 := keepC hb z4; have u5 := keepC hb z5; have ZB := Aside0.mk (blk_below (blk_drew ZD.out) hb); have BB := Aside0.mk (keepB hb (below_drew BD.out)); have r0 := blk_frozen ZB.out 0; have r1 := blk_frozen ZB.out 1; have r2 := blk_frozen ZB.out 2; have r3 := blk_frozen ZB.out 3; have r4 := blk_frozen ZB.out 4; have r5 := blk_frozen ZB.out 5; clear hb) | fail
    all_goals go_wp2
    all_goals exact bodyPost_ret (results_ct (p := 2) (u := 3) rfl _ _ w.heap.size 31 (rule6 x) (0, 0) _ rfl (store6 ZB.out x) Tryz.underlying31 rfl (by kernel_rfl)) rfl ⟨by rw [FN.out, HB.out]; rfl, below6 BB.out (Nat.le_refl _) x⟩
  | true =>
    have pr := fun W => PR.out W
    rw [hp] at pr
    have PR2 := Aside0.mk pr
    have LN2 := Aside0.mk (fun W => LN.out W hp)
    have HB := Aside0.mk (FIN.out true (decide (lineB x = s)) hp (fun _ => rfl) (fun h => by cases h))
    have hq : ((lineB x).toList == s.toList) = decide (lineB x = s) := by
      rw [Bool.eq_iff_iff, beq_iff_eq, decide_eq_true_eq, ByteArray.toList_eq, ByteArray.toList_eq]
      exact ⟨fun h => ByteArray.ext (Array.ext' h), fun h => by rw [h]⟩
    have HQ := Aside0.mk hq
    clear pr hp hq
    generalize hlx : lineB x = lx at *
    have HLX := Aside0.mk hlx
    clear hlx
    go_region_with (first | (go_at_call 33; refine (PR2.out _).mono ?_; rintro e w5 ⟨rfl, hb⟩; have y0 := keepC hb x0; have y1 := keepC hb x1; have y2 := keepC hb x2; have y3 := keepC hb x3; have y4 := keepC hb x4; have y5 := keepC hb x5; have u0 := keepC hb z0; have u1 := keepC hb z1; have u2 := keepC hb z2; have u3 := keepC hb z3; have u4 := keepC hb z4; have u5 := keepC hb z5; have ZB := Aside0.mk (blk_below (blk_drew ZD.out) hb); have BB := Aside0.mk (keepB hb (below_drew BD.out)); have r0 := blk_frozen ZB.out 0; have r1 := blk_frozen ZB.out 1; have r2 := blk_frozen ZB.out 2; have r3 := blk_frozen ZB.out 3; have r4 := blk_frozen ZB.out 4; have r5 := blk_frozen ZB.out 5; clear hb) | (go_at_call 34; refine (LN2.out _).mono ?_; rintro e w6 ⟨rfl, hb⟩; have y0' := keepC hb y0; have y1' := keepC hb y1; have y2' := keepC hb y2; have y3' := keepC hb y3; have y4' := keepC hb y4; have y5' := keepC hb y5; have u0' := keepC hb u0; have u1' := keepC hb u1; have u2' := keepC hb u2; have u3' := keepC hb u3; have u4' := keepC hb u4; have u5' := keepC hb u5; have ZC := Aside0.mk (blk_below ZB.out hb); have BC := Aside0.mk (keepB hb BB.out); have t0 := blk_frozen ZC.out 0; have t1 := blk_frozen ZC.out 1; have t2 := blk_frozen ZC.out 2; have t3 := blk_frozen ZC.out 3; have t4 := blk_frozen ZC.out 4; have t5 := blk_frozen ZC.out 5; clear hb))
    all_goals go_wp2
    all_goals exact bodyPost_ret (results_ct (p := 2) (u := 3) rfl _ _ w.heap.size 31 (rule6 x) (0, 0) _ rfl (store6 ZC.out x) Tryz.underlying31 rfl (by kernel_rfl)) rfl ⟨by rw [FN.out, HB.out, ← HQ.out]; rfl, below6 BC.out (Nat.le_refl _) x⟩
end Go.Proofs.YtghdimmomnfakaaGreatDoor.Gv

set_option linter.unusedVariables false
set_option linter.unusedSimpArgs false
namespace Go.Proofs.YtghdimmomnfakaaGreatDoor.Gv
open Go.RowKit Go.Proofs.YtghdimmomnfakaaGreatDoorW.PrintWords Go.Proofs.YtghdimmomnfakaaGreatDoorW.PrintLast Go.Proofs.YtghdimmomnfakaaGreatDoorW.PrintMore
open Go.Proofs.YtghdimmomnfakaaGreatDoor.X (S31 k31 rd_T31 at_T31 z31)
open Go.Proofs.YtghdimmomnfakaaGreatDoor.Pure
set_option maxHeartbeats 8000000 in
set_option maxRecDepth 1000000 in
theorem rl_k3 (s : ByteArray) (w : World) (hs : s.size ≤ 1000000) (hL0 : 0 < (partsS 32 s).length) (hw : nthS (partsS 32 s) 0 = wordK 3) (hl : (partsS 32 s).length = 5) :
    Calls Tryz.prog 16 #[.string s] w fun e w' => e = .returned (.tuple #[.agg (rule6 (refRL s).1), .bool (refRL s).2]) ∧ Below w.heap.size w w' := by
  have SPLIT := Aside0.mk (fun W => ref_split s 32 (by omega) W)
  have hlen := partsS_len 32 s
  have HLE := Aside0.mk (partsS_le 32 s)
  have FIN := Aside0.mk (show refRL s = (refW (partsS 32 s), prR (refW (partsS 32 s)) && decide (lineB (refW (partsS 32 s)) = s)) from rfl)
  generalize refRL s = R at *
  generalize partsS 32 s = L at *
  go_enter Tryz.func16, Tryz.ntmps16
  go_wp2_with fail
  refine (SPLIT.out _).mono ?_
  rintro e w1 ⟨v, rfl, hO, hw1⟩
  have Z1 := Aside0.mk (box_block hw1)
  have B1 := Aside0.mk (box_below hw1)
  go_upto_region 3 with fail
  generalize hW : w1.alloc (.cells #[.int .i64 0, .string ⟨#[]⟩, .string ⟨#[]⟩, .int .i64 0, .int .i64 0, .int .i64 0] 31) = w2
  have Z2 := Aside0.mk (show w2.heap[w.heap.size]? = some (.cells (rule6 z31) 31 (0, 0)) by rw [← hW]; exact blk_alloc Z1.out _)
  have X2 := Aside0.mk (show w2.heap[w1.heap.size]? = some (.cells (rule6 z31) 31 (0, 0)) by rw [← hW]; exact blk_new _ _)
  have B2 := Aside0.mk (show Below w.heap.size w w2 by rw [← hW]; exact B1.out.alloc B1.out.size _)
  have O2 := Aside0.mk (show OwnS w2 (w.heap.size + 1) v L by
    have h := OwnS.below hO (show Below w1.heap.size w1 w2 by rw [← hW]; exact (Below.refl _ _).alloc (Nat.le_refl _) _)
    simpa using h)
  have hlt : w.heap.size < w1.heap.size := blk_lt Z1.out
  generalize w1.heap.size = g5 at *
  clear hO hw1 Z1 B1 hW w1
  obtain ⟨A, c, ev⟩ := Kd.R_slice O2.out
  subst ev
  obtain ⟨ad, eA, y0⟩ := O2.out.cell (k := 0) (by omega)
  cases eA
  replace y0 : w2.cell? ad = some (.string (nthS L 0)) := y0
  have y1 : w2.cell? ⟨ad.block, ad.off + 1, none⟩ = some (.string (nthS L 1)) := by obtain ⟨ad', e', y'⟩ := O2.out.cell (k := 1) (by omega); cases e'; exact y'
  have y2 : w2.cell? ⟨ad.block, ad.off + 2, none⟩ = some (.string (nthS L 2)) := by obtain ⟨ad', e', y'⟩ := O2.out.cell (k := 2) (by omega); cases e'; exact y'
  have y3 : w2.cell? ⟨ad.block, ad.off + 3, none⟩ = some (.string (nthS L 3)) := by obtain ⟨ad', e', y'⟩ := O2.out.cell (k := 3) (by omega); cases e'; exact y'
  have y4 : w2.cell? ⟨ad.block, ad.off + 4, none⟩ = some (.string (nthS L 4)) := by obtain ⟨ad', e', y'⟩ := O2.out.cell (k := 4) (by omega); cases e'; exact y'
  have q0 : ((nthS L 0).toList == [105, 110, 102, 105, 120]) = false := by rw [hw]; decide +kernel
  have q1 : ((nthS L 0).toList == [112, 114, 101, 102, 105, 120]) = false := by rw [hw]; decide +kernel
  have q2 : ((nthS L 0).toList == [112, 111, 115, 116, 102, 105, 120]) = false := by rw [hw]; decide +kernel
  have q3 : ((nthS L 0).toList == [106, 117, 120, 116, 97, 112, 111, 115, 101]) = true := by rw [hw]; decide +kernel
  have HX := Aside0.mk (show refW L = (⟨4, ⟨#[]⟩, nthS L 1, numR (nthS L 2), numR (nthS L 3), numR (nthS L 4)⟩ : S31) by unfold refW; rw [if_neg (fun h => absurd (hw.symm.trans h.1) (by decide +kernel))]; rw [if_neg (fun h => absurd (hw.symm.trans h.1) (by decide +kernel))]; rw [if_neg (fun h => absurd (hw.symm.trans h.1) (by decide +kernel))]; exact if_pos ⟨hw, hl⟩)
  have hs1 : (refW L).f1.size ≤ 1000000 := by rw [HX.out]; exact Nat.zero_le _
  have hs2 : (refW L).f2.size ≤ 1000000 := by rw [HX.out]; exact Nat.le_trans (HLE.out 1) hs
  rw [hl]
  clear hw hl hlen HLE SPLIT
  generalize refW L = x at *
  generalize nthS L 0 = l0 at *
  generalize nthS L 1 = l1 at *
  generalize nthS L 2 = l2 at *
  generalize nthS L 3 = l3 at *
  generalize nthS L 4 = l4 at *
  generalize hn2 : numR l2 = n2 at *
  generalize hn3 : numR l3 = n3 at *
  generalize hn4 : numR l4 = n4 at *
  have HN2 := Aside0.mk (fun W => hn2 ▸ number_same l2 W : ∀ W, Calls Tryz.prog 32 #[.string l2] W fun e w' => e = .returned (.int .i64 n2) ∧ w' = W)
  clear hn2
  have HN3 := Aside0.mk (fun W => hn3 ▸ number_same l3 W : ∀ W, Calls Tryz.prog 32 #[.string l3] W fun e w' => e = .returned (.int .i64 n3) ∧ w' = W)
  clear hn3
  have HN4 := Aside0.mk (fun W => hn4 ▸ number_same l4 W : ∀ W, Calls Tryz.prog 32 #[.string l4] W fun e w' => e = .returned (.int .i64 n4) ∧ w' = W)
  clear hn4
  go_wp2
  go_still_tail 15, (by kernel_rfl)
  still_call ((HN2.out _).mono (fun e w'' h => ⟨h.1, h.2⟩))
  repeat still_step
  still_call ((HN3.out _).mono (fun e w'' h => ⟨h.1, h.2⟩))
  repeat still_step
  still_call ((HN4.out _).mono (fun e w'' h => ⟨h.1, h.2⟩))
  repeat still_step
  try refine wpStill_nil ?_
  change wpList _ _ _ _ _ w2.drew
  generalize hW3 : w2.drew = w3
  have Z3 := Aside0.mk (show w3.heap[w.heap.size]? = some (.cells (rule6 z31) 31 (0, 0)) by rw [← hW3]; exact blk_drew Z2.out)
  have X3 := Aside0.mk (show w3.heap[g5]? = some (.cells (rule6 z31) 31 (0, 0)) by rw [← hW3]; exact blk_drew X2.out)
  have B3 := Aside0.mk (show Below w.heap.size w w3 by rw [← hW3]; exact below_drew B2.out)
  clear hW3 O2 Z2 X2 B2 y0 y1 y2 y3 y4
  go_wp2_with fail
  refine (Go.Proofs.YtghdimmomnfakaaGreatDoor.X.vinculumref49_rule.calls _ _ _ _ _ _ _ _ _ _ _ _ _ rfl).mono ?_
  rintro e w4 ⟨rfl, hb⟩
  have Z4 := Aside0.mk (blk_below Z3.out hb)
  have X4 := Aside0.mk (blk_below X3.out hb)
  have B4 := Aside0.mk (keepB hb B3.out)
  clear hb Z3 X3 B3 HN2 HN3 HN4
  obtain ⟨x0, x1, x2, x3, x4, x5⟩ := cells6 X4.out
  have f0 := blk_frozen X4.out 0
  have f1 := blk_frozen X4.out 1
  have f2 := blk_frozen X4.out 2
  have f3 := blk_frozen X4.out 3
  have f4 := blk_frozen X4.out 4
  have f5 := blk_frozen X4.out 5
  go_wp2
  clear x0 x1 x2 x3 x4 x5 f0 f1 f2 f3 f4 f5
  have TD0 := Aside0.mk (store6 X4.out (⟨4, ⟨#[]⟩, l1, n2, n3, n4⟩ : S31))
  have BD0 := Aside0.mk (below6 B4.out (show w.heap.size ≤ g5 by omega) (⟨4, ⟨#[]⟩, l1, n2, n3, n4⟩ : S31))
  have ZD0 := Aside0.mk (far6 Z4.out (show w.heap.size ≠ g5 by omega) (⟨4, ⟨#[]⟩, l1, n2, n3, n4⟩ : S31))
  simp only [] at TD0 BD0 ZD0
  generalize hWd : World.setCell _ _ _ = wd at TD0 BD0 ZD0 ⊢
  have TD := Aside0.mk (show Rule6 wd g5 x by rw [HX.out]; exact TD0.out)
  have ZD := Aside0.mk ZD0.out
  have BD := Aside0.mk BD0.out
  clear hWd TD0 BD0 ZD0 HX X4 Z4 B4
  have FN := Aside0.mk FIN.out
  clear FIN
  have PR := Aside0.mk (fun W => ref_prop x W hs1 hs2)
  have LN := Aside0.mk (fun W h => ref_line x W h hs1 hs2)
  obtain ⟨x0, x1, x2, x3, x4, x5⟩ := cells6 TD.out
  obtain ⟨z0, z1, z2, z3, z4, z5⟩ := cells6 ZD.out
  have f0 := blk_frozen (ZD.out) 0
  have f1 := blk_frozen (ZD.out) 1
  have f2 := blk_frozen (ZD.out) 2
  have f3 := blk_frozen (ZD.out) 3
  have f4 := blk_frozen (ZD.out) 4
  have f5 := blk_frozen (ZD.out) 5
  have FIN := Aside0.mk (fun (b c : Bool) (hb : prR x = b) (hc : b = true → decide (lineB x = s) = c) (hc' : b = false → c = false) => (show (prR x && decide (lineB x = s)) = c by rw [hb]; cases b with | false => rw [hc' rfl]; rfl | true => rw [hc rfl]; rfl))
  cases hp : prR x with
  | false =>
    have hbool := FIN.out false false hp (fun h => by cases h) (fun _ => rfl)
    have pr := fun W => PR.out W
    rw [hp] at pr
    have PR2 := Aside0.mk pr
    have HB := Aside0.mk hbool
    clear pr hbool hp
    first | go_region_with (go_at_call 33; refine (PR2.out _).mono ?_; rintro e w5 ⟨rfl, hb⟩; have y0 := keepC hb x0; have y1 := keepC hb x1; have y2 := keepC hb x2; have y3 := keepC hb x3; have y4 := keepC hb x4; have y5 := keepC hb x5; have u0 := keepC hb z0; have u1 := keepC hb z1; have u2 := keepC hb z2; have u3 := keepC hb z3; have u4 := keepC hb z4; have u5 := keepC hb z5; have ZB := Aside0.mk (blk_below (blk_drew ZD.out) hb); have BB := Aside0.mk (keepB hb (below_drew BD.out)); have r0 := blk_frozen ZB.out 0; have r1 := blk_frozen ZB.out 1; have r2 := blk_frozen ZB.out 2; have r3 := blk_frozen ZB.out 3; have r4 := blk_frozen ZB.out 4; have r5 := blk_frozen ZB.out 5; clear hb) | fail
    all_goals go_wp2
    all_goals exact bodyPost_ret (results_ct (p := 2) (u := 3) rfl _ _ w.heap.size 31 (rule6 x) (0, 0) _ rfl (store6 ZB.out x) Tryz.underlying31 rfl (by kernel_rfl)) rfl ⟨by rw [FN.out, HB.out]; rfl, below6 BB.out (Nat.le_refl _) x⟩
  | true =>
    have pr := fun W => PR.out W
    rw [hp] at pr
    have PR2 := Aside0.mk pr
    have LN2 := Aside0.mk (fun W => LN.out W hp)
    have HB := Aside0.mk (FIN.out true (decide (lineB x = s)) hp (fun _ => rfl) (fun h => by cases h))
    have hq : ((lineB x).toList == s.toList) = decide (lineB x = s) := by
      rw [Bool.eq_iff_iff, beq_iff_eq, decide_eq_true_eq, ByteArray.toList_eq, ByteArray.toList_eq]
      exact ⟨fun h => ByteArray.ext (Array.ext' h), fun h => by rw [h]⟩
    have HQ := Aside0.mk hq
    clear pr hp hq
    generalize hlx : lineB x = lx at *
    have HLX := Aside0.mk hlx
    clear hlx
    go_region_with (first | (go_at_call 33; refine (PR2.out _).mono ?_; rintro e w5 ⟨rfl, hb⟩; have y0 := keepC hb x0; have y1 := keepC hb x1; have y2 := keepC hb x2; have y3 := keepC hb x3; have y4 := keepC hb x4; have y5 := keepC hb x5; have u0 := keepC hb z0; have u1 := keepC hb z1; have u2 := keepC hb z2; have u3 := keepC hb z3; have u4 := keepC hb z4; have u5 := keepC hb z5; have ZB := Aside0.mk (blk_below (blk_drew ZD.out) hb); have BB := Aside0.mk (keepB hb (below_drew BD.out)); have r0 := blk_frozen ZB.out 0; have r1 := blk_frozen ZB.out 1; have r2 := blk_frozen ZB.out 2; have r3 := blk_frozen ZB.out 3; have r4 := blk_frozen ZB.out 4; have r5 := blk_frozen ZB.out 5; clear hb) | (go_at_call 34; refine (LN2.out _).mono ?_; rintro e w6 ⟨rfl, hb⟩; have y0' := keepC hb y0; have y1' := keepC hb y1; have y2' := keepC hb y2; have y3' := keepC hb y3; have y4' := keepC hb y4; have y5' := keepC hb y5; have u0' := keepC hb u0; have u1' := keepC hb u1; have u2' := keepC hb u2; have u3' := keepC hb u3; have u4' := keepC hb u4; have u5' := keepC hb u5; have ZC := Aside0.mk (blk_below ZB.out hb); have BC := Aside0.mk (keepB hb BB.out); have t0 := blk_frozen ZC.out 0; have t1 := blk_frozen ZC.out 1; have t2 := blk_frozen ZC.out 2; have t3 := blk_frozen ZC.out 3; have t4 := blk_frozen ZC.out 4; have t5 := blk_frozen ZC.out 5; clear hb))
    all_goals go_wp2
    all_goals exact bodyPost_ret (results_ct (p := 2) (u := 3) rfl _ _ w.heap.size 31 (rule6 x) (0, 0) _ rfl (store6 ZC.out x) Tryz.underlying31 rfl (by kernel_rfl)) rfl ⟨by rw [FN.out, HB.out, ← HQ.out]; rfl, below6 BC.out (Nat.le_refl _) x⟩
end Go.Proofs.YtghdimmomnfakaaGreatDoor.Gv
