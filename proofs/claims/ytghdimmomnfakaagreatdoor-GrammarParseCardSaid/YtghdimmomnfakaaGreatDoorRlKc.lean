/-
  vinculumref49.ReadLine: a line of kind 4.
-/
import Derived.Test.YtghdimmomnfakaaGreatDoorRefBase
import Derived.StillTailTactics
set_option linter.unusedVariables false
set_option linter.unusedSimpArgs false
namespace Go.Proofs.YtghdimmomnfakaaGreatDoor.Gv
open Go.RowKit Go.Proofs.YtghdimmomnfakaaGreatDoorW.PrintWords Go.Proofs.YtghdimmomnfakaaGreatDoorW.PrintLast Go.Proofs.YtghdimmomnfakaaGreatDoorW.PrintMore
open Go.Proofs.YtghdimmomnfakaaGreatDoor.X (S31 k31 rd_T31 at_T31 z31)
open Go.Proofs.YtghdimmomnfakaaGreatDoor.Pure
set_option maxHeartbeats 8000000 in
set_option maxRecDepth 1000000 in
theorem rl_k4 (s : ByteArray) (w : World) (hs : s.size ≤ 1000000) (hL0 : 0 < (partsS 32 s).length) (hw : nthS (partsS 32 s) 0 = wordK 0) (hl : ¬ (partsS 32 s).length = 6) :
    Calls Tryz.prog 16 #[.string s] w fun e w' => e = .returned (.tuple #[.agg (rule6 (refRL s).1), .bool (refRL s).2]) ∧ Below w.heap.size w w' := by
  have SPLIT := Aside0.mk (fun W => ref_split s 32 (by omega) W)
  have hlen := partsS_len 32 s
  have HLE := Aside0.mk (partsS_le 32 s)
  have FIN := Aside0.mk (show refRL s = (refW (partsS 32 s), prR (refW (partsS 32 s)) && decide (lineB (refW (partsS 32 s)) = s)) from rfl)
  generalize refRL s = R at *
  generalize partsS 32 s = L at *
  go_enter Tryz.func16, Tryz.ntmps16
  go_wp2_with fail
  refine (SPLIT.out _).mono ?_
  rintro e w1 ⟨v, rfl, hO, hw1⟩
  have Z1 := Aside0.mk (box_block hw1)
  have B1 := Aside0.mk (box_below hw1)
  go_upto_region 3 with fail
  generalize hW : w1.alloc (.cells #[.int .i64 0, .string ⟨#[]⟩, .string ⟨#[]⟩, .int .i64 0, .int .i64 0, .int .i64 0] 31) = w2
  have Z2 := Aside0.mk (show w2.heap[w.heap.size]? = some (.cells (rule6 z31) 31 (0, 0)) by rw [← hW]; exact blk_alloc Z1.out _)
  have X2 := Aside0.mk (show w2.heap[w1.heap.size]? = some (.cells (rule6 z31) 31 (0, 0)) by rw [← hW]; exact blk_new _ _)
  have B2 := Aside0.mk (show Below w.heap.size w w2 by rw [← hW]; exact B1.out.alloc B1.out.size _)
  have O2 := Aside0.mk (show OwnS w2 (w.heap.size + 1) v L by
    have h := OwnS.below hO (show Below w1.heap.size w1 w2 by rw [← hW]; exact (Below.refl _ _).alloc (Nat.le_refl _) _)
    simpa using h)
  have hlt : w.heap.size < w1.heap.size := blk_lt Z1.out
  generalize w1.heap.size = g5 at *
  clear hO hw1 Z1 B1 hW w1
  obtain ⟨A, c, ev⟩ := Kd.R_slice O2.out
  subst ev
  obtain ⟨ad, eA, y0⟩ := O2.out.cell (k := 0) (by omega)
  cases eA
  replace y0 : w2.cell? ad = some (.string (nthS L 0)) := y0
  have q0 : ((nthS L 0).toList == [105, 110, 102, 105, 120]) = true := by rw [hw]; decide +kernel
  have r0 : ((L.length : Int) == 6) = false := beq_eq_false_iff_ne.2 (by omega)
  have q1 : ((nthS L 0).toList == [112, 114, 101, 102, 105, 120]) = false := by rw [hw]; decide +kernel
  have q2 : ((nthS L 0).toList == [112, 111, 115, 116, 102, 105, 120]) = false := by rw [hw]; decide +kernel
  have q3 : ((nthS L 0).toList == [106, 117, 120, 116, 97, 112, 111, 115, 101]) = false := by rw [hw]; decide +kernel
  have HX := Aside0.mk (show refW L = z31 by unfold refW; rw [if_neg (fun h => hl h.2)]; rw [if_neg (fun h => absurd (hw.symm.trans h.1) (by decide +kernel))]; rw [if_neg (fun h => absurd (hw.symm.trans h.1) (by decide +kernel))]; exact if_neg (fun h => absurd (hw.symm.trans h.1) (by decide +kernel)))
  have hs1 : (refW L).f1.size ≤ 1000000 := by rw [HX.out]; exact Nat.zero_le _
  have hs2 : (refW L).f2.size ≤ 1000000 := by rw [HX.out]; exact Nat.zero_le _
  clear hw hlen HLE SPLIT hl
  have hl0 : (0 : Int) < (L.length : Int) := by omega
  generalize refW L = x at *
  generalize nthS L 0 = l0 at *
  generalize L.length = n at *
  have TD := Aside0.mk (show Rule6 w2 g5 x by rw [HX.out]; exact X2.out)
  have ZD := Aside0.mk Z2.out
  have BD := Aside0.mk B2.out
  have FN := Aside0.mk FIN.out
  clear FIN HX X2 Z2 B2
  go_wp2
  have PR := Aside0.mk (fun W => ref_prop x W hs1 hs2)
  have LN := Aside0.mk (fun W h => ref_line x W h hs1 hs2)
  obtain ⟨x0, x1, x2, x3, x4, x5⟩ := cells6 TD.out
  obtain ⟨z0, z1, z2, z3, z4, z5⟩ := cells6 ZD.out
  have f0 := blk_frozen (ZD.out) 0
  have f1 := blk_frozen (ZD.out) 1
  have f2 := blk_frozen (ZD.out) 2
  have f3 := blk_frozen (ZD.out) 3
  have f4 := blk_frozen (ZD.out) 4
  have f5 := blk_frozen (ZD.out) 5
  have FIN := Aside0.mk (fun (b c : Bool) (hb : prR x = b) (hc : b = true → decide (lineB x = s) = c) (hc' : b = false → c = false) => (show (prR x && decide (lineB x = s)) = c by rw [hb]; cases b with | false => rw [hc' rfl]; rfl | true => rw [hc rfl]; rfl))
  cases hp : prR x with
  | false =>
    have hbool := FIN.out false false hp (fun h => by cases h) (fun _ => rfl)
    have pr := fun W => PR.out W
    rw [hp] at pr
    have PR2 := Aside0.mk pr
    have HB := Aside0.mk hbool
    clear pr hbool hp
    first | go_region_with (go_at_call 33; refine (PR2.out _).mono ?_; rintro e w5 ⟨rfl, hb⟩; have y0 := keepC hb x0; have y1 := keepC hb x1; have y2 := keepC hb x2; have y3 := keepC hb x3; have y4 := keepC hb x4; have y5 := keepC hb x5; have u0 := keepC hb z0; have u1 := keepC hb z1; have u2 := keepC hb z2; have u3 := keepC hb z3; have u4 := keepC hb z4; have u5 := keepC hb z5; have ZB := Aside0.mk (blk_below (blk_drew ZD.out) hb); have BB := Aside0.mk (keepB hb (below_drew BD.out)); have r0 := blk_frozen ZB.out 0; have r1 := blk_frozen ZB.out 1; have r2 := blk_frozen ZB.out 2; have r3 := blk_frozen ZB.out 3; have r4 := blk_frozen ZB.out 4; have r5 := blk_frozen ZB.out 5; clear hb) | fail
    all_goals go_wp2
    all_goals exact bodyPost_ret (results_ct (p := 2) (u := 3) rfl _ _ w.heap.size 31 (rule6 x) (0, 0) _ rfl (store6 ZB.out x) Tryz.underlying31 rfl (by kernel_rfl)) rfl ⟨by rw [FN.out, HB.out]; rfl, below6 BB.out (Nat.le_refl _) x⟩
  | true =>
    have pr := fun W => PR.out W
    rw [hp] at pr
    have PR2 := Aside0.mk pr
    have LN2 := Aside0.mk (fun W => LN.out W hp)
    have HB := Aside0.mk (FIN.out true (decide (lineB x = s)) hp (fun _ => rfl) (fun h => by cases h))
    have hq : ((lineB x).toList == s.toList) = decide (lineB x = s) := by
      rw [Bool.eq_iff_iff, beq_iff_eq, decide_eq_true_eq, ByteArray.toList_eq, ByteArray.toList_eq]
      exact ⟨fun h => ByteArray.ext (Array.ext' h), fun h => by rw [h]⟩
    have HQ := Aside0.mk hq
    clear pr hp hq
    generalize hlx : lineB x = lx at *
    have HLX := Aside0.mk hlx
    clear hlx
    go_region_with (first | (go_at_call 33; refine (PR2.out _).mono ?_; rintro e w5 ⟨rfl, hb⟩; have y0 := keepC hb x0; have y1 := keepC hb x1; have y2 := keepC hb x2; have y3 := keepC hb x3; have y4 := keepC hb x4; have y5 := keepC hb x5; have u0 := keepC hb z0; have u1 := keepC hb z1; have u2 := keepC hb z2; have u3 := keepC hb z3; have u4 := keepC hb z4; have u5 := keepC hb z5; have ZB := Aside0.mk (blk_below (blk_drew ZD.out) hb); have BB := Aside0.mk (keepB hb (below_drew BD.out)); have r0 := blk_frozen ZB.out 0; have r1 := blk_frozen ZB.out 1; have r2 := blk_frozen ZB.out 2; have r3 := blk_frozen ZB.out 3; have r4 := blk_frozen ZB.out 4; have r5 := blk_frozen ZB.out 5; clear hb) | (go_at_call 34; refine (LN2.out _).mono ?_; rintro e w6 ⟨rfl, hb⟩; have y0' := keepC hb y0; have y1' := keepC hb y1; have y2' := keepC hb y2; have y3' := keepC hb y3; have y4' := keepC hb y4; have y5' := keepC hb y5; have u0' := keepC hb u0; have u1' := keepC hb u1; have u2' := keepC hb u2; have u3' := keepC hb u3; have u4' := keepC hb u4; have u5' := keepC hb u5; have ZC := Aside0.mk (blk_below ZB.out hb); have BC := Aside0.mk (keepB hb BB.out); have t0 := blk_frozen ZC.out 0; have t1 := blk_frozen ZC.out 1; have t2 := blk_frozen ZC.out 2; have t3 := blk_frozen ZC.out 3; have t4 := blk_frozen ZC.out 4; have t5 := blk_frozen ZC.out 5; clear hb))
    all_goals go_wp2
    all_goals exact bodyPost_ret (results_ct (p := 2) (u := 3) rfl _ _ w.heap.size 31 (rule6 x) (0, 0) _ rfl (store6 ZC.out x) Tryz.underlying31 rfl (by kernel_rfl)) rfl ⟨by rw [FN.out, HB.out, ← HQ.out]; rfl, below6 BC.out (Nat.le_refl _) x⟩
end Go.Proofs.YtghdimmomnfakaaGreatDoor.Gv

set_option linter.unusedVariables false
set_option linter.unusedSimpArgs false
namespace Go.Proofs.YtghdimmomnfakaaGreatDoor.Gv
open Go.RowKit Go.Proofs.YtghdimmomnfakaaGreatDoorW.PrintWords Go.Proofs.YtghdimmomnfakaaGreatDoorW.PrintLast Go.Proofs.YtghdimmomnfakaaGreatDoorW.PrintMore
open Go.Proofs.YtghdimmomnfakaaGreatDoor.X (S31 k31 rd_T31 at_T31 z31)
open Go.Proofs.YtghdimmomnfakaaGreatDoor.Pure
set_option maxHeartbeats 8000000 in
set_option maxRecDepth 1000000 in
theorem rl_k5 (s : ByteArray) (w : World) (hs : s.size ≤ 1000000) (hL0 : 0 < (partsS 32 s).length) (hw : nthS (partsS 32 s) 0 = wordK 1) (hl : ¬ (partsS 32 s).length = 5) :
    Calls Tryz.prog 16 #[.string s] w fun e w' => e = .returned (.tuple #[.agg (rule6 (refRL s).1), .bool (refRL s).2]) ∧ Below w.heap.size w w' := by
  have SPLIT := Aside0.mk (fun W => ref_split s 32 (by omega) W)
  have hlen := partsS_len 32 s
  have HLE := Aside0.mk (partsS_le 32 s)
  have FIN := Aside0.mk (show refRL s = (refW (partsS 32 s), prR (refW (partsS 32 s)) && decide (lineB (refW (partsS 32 s)) = s)) from rfl)
  generalize refRL s = R at *
  generalize partsS 32 s = L at *
  go_enter Tryz.func16, Tryz.ntmps16
  go_wp2_with fail
  refine (SPLIT.out _).mono ?_
  rintro e w1 ⟨v, rfl, hO, hw1⟩
  have Z1 := Aside0.mk (box_block hw1)
  have B1 := Aside0.mk (box_below hw1)
  go_upto_region 3 with fail
  generalize hW : w1.alloc (.cells #[.int .i64 0, .string ⟨#[]⟩, .string ⟨#[]⟩, .int .i64 0, .int .i64 0, .int .i64 0] 31) = w2
  have Z2 := Aside0.mk (show w2.heap[w.heap.size]? = some (.cells (rule6 z31) 31 (0, 0)) by rw [← hW]; exact blk_alloc Z1.out _)
  have X2 := Aside0.mk (show w2.heap[w1.heap.size]? = some (.cells (rule6 z31) 31 (0, 0)) by rw [← hW]; exact blk_new _ _)
  have B2 := Aside0.mk (show Below w.heap.size w w2 by rw [← hW]; exact B1.out.alloc B1.out.size _)
  have O2 := Aside0.mk (show OwnS w2 (w.heap.size + 1) v L by
    have h := OwnS.below hO (show Below w1.heap.size w1 w2 by rw [← hW]; exact (Below.refl _ _).alloc (Nat.le_refl _) _)
    simpa using h)
  have hlt : w.heap.size < w1.heap.size := blk_lt Z1.out
  generalize w1.heap.size = g5 at *
  clear hO hw1 Z1 B1 hW w1
  obtain ⟨A, c, ev⟩ := Kd.R_slice O2.out
  subst ev
  obtain ⟨ad, eA, y0⟩ := O2.out.cell (k := 0) (by omega)
  cases eA
  replace y0 : w2.cell? ad = some (.string (nthS L 0)) := y0
  have q0 : ((nthS L 0).toList == [105, 110, 102, 105, 120]) = false := by rw [hw]; decide +kernel
  have q1 : ((nthS L 0).toList == [112, 114, 101, 102, 105, 120]) = true := by rw [hw]; decide +kernel
  have r1 : ((L.length : Int) == 5) = false := beq_eq_false_iff_ne.2 (by omega)
  have q2 : ((nthS L 0).toList == [112, 111, 115, 116, 102, 105, 120]) = false := by rw [hw]; decide +kernel
  have q3 : ((nthS L 0).toList == [106, 117, 120, 116, 97, 112, 111, 115, 101]) = false := by rw [hw]; decide +kernel
  have HX := Aside0.mk (show refW L = z31 by unfold refW; rw [if_neg (fun h => absurd (hw.symm.trans h.1) (by decide +kernel))]; rw [if_neg (fun h => hl h.2)]; rw [if_neg (fun h => absurd (hw.symm.trans h.1) (by decide +kernel))]; exact if_neg (fun h => absurd (hw.symm.trans h.1) (by decide +kernel)))
  have hs1 : (refW L).f1.size ≤ 1000000 := by rw [HX.out]; exact Nat.zero_le _
  have hs2 : (refW L).f2.size ≤ 1000000 := by rw [HX.out]; exact Nat.zero_le _
  clear hw hlen HLE SPLIT hl
  have hl0 : (0 : Int) < (L.length : Int) := by omega
  generalize refW L = x at *
  generalize nthS L 0 = l0 at *
  generalize L.length = n at *
  have TD := Aside0.mk (show Rule6 w2 g5 x by rw [HX.out]; exact X2.out)
  have ZD := Aside0.mk Z2.out
  have BD := Aside0.mk B2.out
  have FN := Aside0.mk FIN.out
  clear FIN HX X2 Z2 B2
  go_wp2
  have PR := Aside0.mk (fun W => ref_prop x W hs1 hs2)
  have LN := Aside0.mk (fun W h => ref_line x W h hs1 hs2)
  obtain ⟨x0, x1, x2, x3, x4, x5⟩ := cells6 TD.out
  obtain ⟨z0, z1, z2, z3, z4, z5⟩ := cells6 ZD.out
  have f0 := blk_frozen (ZD.out) 0
  have f1 := blk_frozen (ZD.out) 1
  have f2 := blk_frozen (ZD.out) 2
  have f3 := blk_frozen (ZD.out) 3
  have f4 := blk_frozen (ZD.out) 4
  have f5 := blk_frozen (ZD.out) 5
  have FIN := Aside0.mk (fun (b c : Bool) (hb : prR x = b) (hc : b = true → decide (lineB x = s) = c) (hc' : b = false → c = false) => (show (prR x && decide (lineB x = s)) = c by rw [hb]; cases b with | false => rw [hc' rfl]; rfl | true => rw [hc rfl]; rfl))
  cases hp : prR x with
  | false =>
    have hbool := FIN.out false false hp (fun h => by cases h) (fun _ => rfl)
    have pr := fun W => PR.out W
    rw [hp] at pr
    have PR2 := Aside0.mk pr
    have HB := Aside0.mk hbool
    clear pr hbool hp
    first | go_region_with (go_at_call 33; refine (PR2.out _).mono ?_; rintro e w5 ⟨rfl, hb⟩; have y0 := keepC hb x0; have y1 := keepC hb x1; have y2 := keepC hb x2; have y3 := keepC hb x3; have y4 := keepC hb x4; have y5 := keepC hb x5; have u0 := keepC hb z0; have u1 := keepC hb z1; have u2 := keepC hb z2; have u3 := keepC hb z3; have u4 := keepC hb z4; have u5 := keepC hb z5; have ZB := Aside0.mk (blk_below (blk_drew ZD.out) hb); have BB := Aside0.mk (keepB hb (below_drew BD.out)); have r0 := blk_frozen ZB.out 0; have r1 := blk_frozen ZB.out 1; have r2 := blk_frozen ZB.out 2; have r3 := blk_frozen ZB.out 3; have r4 := blk_frozen ZB.out 4; have r5 := blk_frozen ZB.out 5; clear hb) | fail
    all_goals go_wp2
    all_goals exact bodyPost_ret (results_ct (p := 2) (u := 3) rfl _ _ w.heap.size 31 (rule6 x) (0, 0) _ rfl (store6 ZB.out x) Tryz.underlying31 rfl (by kernel_rfl)) rfl ⟨by rw [FN.out, HB.out]; rfl, below6 BB.out (Nat.le_refl _) x⟩
  | true =>
    have pr := fun W => PR.out W
    rw [hp] at pr
    have PR2 := Aside0.mk pr
    have LN2 := Aside0.mk (fun W => LN.out W hp)
    have HB := Aside0.mk (FIN.out true (decide (lineB x = s)) hp (fun _ => rfl) (fun h => by cases h))
    have hq : ((lineB x).toList == s.toList) = decide (lineB x = s) := by
      rw [Bool.eq_iff_iff, beq_iff_eq, decide_eq_true_eq, ByteArray.toList_eq, ByteArray.toList_eq]
      exact ⟨fun h => ByteArray.ext (Array.ext' h), fun h => by rw [h]⟩
    have HQ := Aside0.mk hq
    clear pr hp hq
    generalize hlx : lineB x = lx at *
    have HLX := Aside0.mk hlx
    clear hlx
    go_region_with (first | (go_at_call 33; refine (PR2.out _).mono ?_; rintro e w5 ⟨rfl, hb⟩; have y0 := keepC hb x0; have y1 := keepC hb x1; have y2 := keepC hb x2; have y3 := keepC hb x3; have y4 := keepC hb x4; have y5 := keepC hb x5; have u0 := keepC hb z0; have u1 := keepC hb z1; have u2 := keepC hb z2; have u3 := keepC hb z3; have u4 := keepC hb z4; have u5 := keepC hb z5; have ZB := Aside0.mk (blk_below (blk_drew ZD.out) hb); have BB := Aside0.mk (keepB hb (below_drew BD.out)); have r0 := blk_frozen ZB.out 0; have r1 := blk_frozen ZB.out 1; have r2 := blk_frozen ZB.out 2; have r3 := blk_frozen ZB.out 3; have r4 := blk_frozen ZB.out 4; have r5 := blk_frozen ZB.out 5; clear hb) | (go_at_call 34; refine (LN2.out _).mono ?_; rintro e w6 ⟨rfl, hb⟩; have y0' := keepC hb y0; have y1' := keepC hb y1; have y2' := keepC hb y2; have y3' := keepC hb y3; have y4' := keepC hb y4; have y5' := keepC hb y5; have u0' := keepC hb u0; have u1' := keepC hb u1; have u2' := keepC hb u2; have u3' := keepC hb u3; have u4' := keepC hb u4; have u5' := keepC hb u5; have ZC := Aside0.mk (blk_below ZB.out hb); have BC := Aside0.mk (keepB hb BB.out); have t0 := blk_frozen ZC.out 0; have t1 := blk_frozen ZC.out 1; have t2 := blk_frozen ZC.out 2; have t3 := blk_frozen ZC.out 3; have t4 := blk_frozen ZC.out 4; have t5 := blk_frozen ZC.out 5; clear hb))
    all_goals go_wp2
    all_goals exact bodyPost_ret (results_ct (p := 2) (u := 3) rfl _ _ w.heap.size 31 (rule6 x) (0, 0) _ rfl (store6 ZC.out x) Tryz.underlying31 rfl (by kernel_rfl)) rfl ⟨by rw [FN.out, HB.out, ← HQ.out]; rfl, below6 BC.out (Nat.le_refl _) x⟩
end Go.Proofs.YtghdimmomnfakaaGreatDoor.Gv
