/-
  UnitInverse, walked.
-/
import Derived.Test.YtjnheoelcahkaaaDoorUnLaw6
import Derived.Test.YtjnheoelcahkaaaDoorUnInv
set_option linter.unusedVariables false
set_option linter.unusedSimpArgs false
namespace Go.Proofs.YtjnheoelcahkaaaDoor.Rat
open Go.RowKit Go.Proofs.YtjnheoelcahkaaaDoorW.PrintWords Go.Proofs.YtjnheoelcahkaaaDoorW.PrintLast Go.Proofs.YtjnheoelcahkaaaDoorW.PrintMore Go.Proofs.YtjnheoelcahkaaaDoor.Gv
open Go.Proofs.YtjnheoelcahkaaaDoor.R
abbrev N2x (wx : World) (b k : Nat) (p q : Int) : Prop := wx.cell? ⟨b, k * 2, none⟩ = some (.int .i64 p) ∧ wx.cell? ⟨b, k * 2 + 1, none⟩ = some (.int .i64 q)
theorem N2.set {wx : World} {b k g i : Nat} {p q : Int} {v : Value} (h : N2x wx b k p q) (hg : g ≠ b) : N2x (wx.setCell ⟨g, i, none⟩ v) b k p q :=
  ⟨by rw [World.cell?_setCell_far _ _ _ _ (by show g ≠ b; exact hg)]; exact h.1, by rw [World.cell?_setCell_far _ _ _ _ (by show g ≠ b; exact hg)]; exact h.2⟩
structure Inv (w : World) (B g5 g7 : Nat) (n m : Int) (d : Nat → Int) (f fo fb : Nat → Int × Int) : Prop where
  v : Box9 w B n m d
  f : Box14 w g5 52 f
  o : Box14 w g7 52 fo
  b : Box14 w (g7 + 1) 52 fb
theorem Inv.below {w w1 : World} {B g5 g7 : Nat} {n m : Int} {d : Nat → Int} {f fo fb : Nat → Int × Int} (h : Inv w B g5 g7 n m d f fo fb) (hb : Below w.heap.size w w1) : Inv w1 B g5 g7 n m d f fo fb := ⟨blk_below h.v hb, blk_below h.f hb, blk_below h.o hb, blk_below h.b hb⟩
theorem Inv.setO {w : World} {B g5 g7 : Nat} {n m : Int} {d : Nat → Int} {f fo fb : Nat → Int × Int} (h : Inv w B g5 g7 n m d f fo fb) (h1 : B ≠ g7) (h2 : g5 ≠ g7) {k : Nat} (hk : k < 7) (x y : Int) : Inv ((w.setCell ⟨g7, k * 2, none⟩ (.int .i64 x)).setCell ⟨g7, k * 2 + 1, none⟩ (.int .i64 y)) B g5 g7 n m d f (putF fo k (x, y)) fb :=
  ⟨blk_far (blk_far h.v h1 _) h1 _, blk_far (blk_far h.f h2 _) h2 _, set14 h.o hk x y, blk_far (blk_far h.b (show g7 + 1 ≠ g7 by omega) _) (show g7 + 1 ≠ g7 by omega) _⟩
theorem Inv.setB {w : World} {B g5 g7 : Nat} {n m : Int} {d : Nat → Int} {f fo fb : Nat → Int × Int} (h : Inv w B g5 g7 n m d f fo fb) (h1 : B ≠ g7 + 1) (h2 : g5 ≠ g7 + 1) {k : Nat} (hk : k < 7) (x y : Int) : Inv ((w.setCell ⟨g7 + 1, k * 2, none⟩ (.int .i64 x)).setCell ⟨g7 + 1, k * 2 + 1, none⟩ (.int .i64 y)) B g5 g7 n m d f fo (putF fb k (x, y)) :=
  ⟨blk_far (blk_far h.v h1 _) h1 _, blk_far (blk_far h.f h2 _) h2 _, blk_far (blk_far h.o (show g7 ≠ g7 + 1 by omega) _) (show g7 ≠ g7 + 1 by omega) _, set14 h.b hk x y⟩
theorem Inv.drew {w : World} {B g5 g7 : Nat} {n m : Int} {d : Nat → Int} {f fo fb : Nat → Int × Int} (h : Inv w B g5 g7 n m d f fo fb) : Inv w.drew B g5 g7 n m d f fo fb := ⟨blk_drew h.v, blk_drew h.f, blk_drew h.o, blk_drew h.b⟩
set_option maxHeartbeats 8000000 in
set_option maxRecDepth 1000000 in
theorem UnitInverse.calls (n m : Int) (d : Nat → Int) (s : Nat → Int × Int) (w : World) (hG : Gw w) (hs : ∀ k, k < 7 → (0 ≤ (s k).1 ∧ (s k).1 ≤ 255) ∧ (0 ≤ (s k).2 ∧ (s k).2 ≤ 255)) :
    Calls Tryd.prog 8 #[.agg (val9 n m d), .agg (aggU s)] w fun e w' => e = .returned (.bool true) ∧ Below w.heap.size w w' := by
  have AW := Aside0.mk (vinculumlaw53_awake.any _ (Gw.below hG (((Below.refl w.heap.size w).alloc (Nat.le_refl _) (.cells (val9 n m d) 35)).alloc (by simp) (.cells (aggU s) 49))))
  have NU := Aside0.mk (fun W => numbers_any s hs W)
  have RA := Aside0.mk (fun f n m W => unit_Rescale.any n m d f W)
  have VB := Aside0.mk (fun W => rvalue_any n m d W)
  have EQ := Aside0.mk (fun (x y : Int) (z : Nat → Int) W => show Sem.run Tryd.prog (Op.equalIn 10000 35 (.agg (val9 x y z)) (.agg (val9 x y z))) W = .ok true W from by rw [eq9, eqV_refl])
  have PZ := Aside0.mk (numF_pz hs)
  clear hG hs
  cases hov : okV n m d with
  | false =>
    rw [hov] at VB
    clear hov
    go_enter Tryd.func8, Tryd.ntmps8
    go_wp2_with fail
    refine AW.out.mono ?_
    rintro e w1 ⟨rfl, hb⟩
    have V1 := Aside0.mk (show Box9 w1 w.heap.size n m d from blk_below (blk_alloc (blk_new _ _) _) hb)
    have B1 := Aside0.mk (box_below (box_below hb))
    clear hb AW
    obtain ⟨x0, x1, y0, y1, y2, y3, y4, y5, y6⟩ := cells9 V1.out
    go_wp2_with fail
    refine (VB.out _).mono ?_
    rintro e w2 ⟨rfl, hb⟩
    have B2 := Aside0.mk (keepB hb B1.out)
    clear hb
    go_wp2
    go_ret
    exact ⟨rfl, B2.out⟩
  | true =>
    rw [hov] at VB
    have HOV := Aside0.mk hov
    clear hov
    go_enter Tryd.func8, Tryd.ntmps8
    go_wp2_with fail
    refine AW.out.mono ?_
    rintro e w1 ⟨rfl, hb⟩
    have V1 := Aside0.mk (show Box9 w1 w.heap.size n m d from blk_below (blk_alloc (blk_new _ _) _) hb)
    have S1 := Aside0.mk (show w1.heap[w.heap.size + 1]? = some (.cells (aggU s) 49 (0, 0)) from blk_below (new_at (by simp)) hb)
    have B1 := Aside0.mk (box_below (box_below hb))
    clear hb AW
    obtain ⟨x0, x1, y0, y1, y2, y3, y4, y5, y6⟩ := cells9 V1.out
    go_wp2_with fail
    refine (VB.out _).mono ?_
    rintro e w2 ⟨rfl, hb⟩
    have V2 := Aside0.mk (blk_below V1.out hb)
    have S2 := Aside0.mk (blk_below S1.out hb)
    have B2 := Aside0.mk (keepB hb B1.out)
    clear hb V1 S1 B1 VB x0 x1 y0 y1 y2 y3 y4 y5 y6
    obtain ⟨⟨z0, z1, z2, z3, z4, z5, z6⟩, ⟨z7, z8, z9, z10, z11, z12, z13⟩⟩ := cellsU S2.out
    go_wp2_with fail
    refine (NU.out _).mono ?_
    rintro e w3 ⟨rfl, hb⟩
    have V3 := Aside0.mk (blk_below V2.out hb)
    have B3 := Aside0.mk (keepB hb B2.out)
    clear hb V2 B2 S2 NU z0 z1 z2 z3 z4 z5 z6 z7 z8 z9 z10 z11 z12 z13
    generalize numF s = f at *
    have hl3 : w.heap.size < w3.heap.size := blk_lt V3.out
    go_wp2
    have I0 := Aside0.mk (show Inv ((((w3.alloc (.cells (agg14 f) 52)).alloc (.cells (agg14 f) 54)).alloc (.cells z14 52)).alloc (.cells z14 52)) w.heap.size w3.heap.size (w3.heap.size + 1 + 1) n m d f (fun _ => (0, 0)) (fun _ => (0, 0)) from ⟨blk_alloc (blk_alloc (blk_alloc (blk_alloc V3.out _) _) _) _, blk_alloc (blk_alloc (blk_alloc (blk_new _ _) _) _) _, blk_alloc (new_at (by simp)) _, new_at (by simp)⟩)
    have C0 := Aside0.mk (show Below w.heap.size w ((((w3.alloc (.cells (agg14 f) 52)).alloc (.cells (agg14 f) 54)).alloc (.cells z14 52)).alloc (.cells z14 52)) from (((B3.out.alloc (by omega) _).alloc (by simp; omega) _).alloc (by simp; omega) _).alloc (by simp; omega) _)
    go_loopw [9] (fun s9 wr => ∃ k : Nat, k ≤ 7 ∧ s9 = .int .i64 (k : Int) ∧ Aside0 (Inv wr w.heap.size w3.heap.size (w3.heap.size + 1 + 1) n m d f (upF oneF k) (upF (backF f) k)) ∧ Aside0 (Below w.heap.size w wr)) (fun s9 _ => 7 - (intOf s9).toNat)
    case atStart => exact ⟨0, by omega, rfl, ⟨by rw [upF_zero, upF_zero]; exact I0.out⟩, C0⟩
    case round =>
      clear I0 C0 V3 B3
      obtain ⟨k, hk, rfl, I, B⟩ := hrel
      have hsz : w3.heap.size + 1 + 1 + 1 < wr.heap.size := blk_lt I.out.b
      by_cases hlt : k < 7
      · obtain ⟨x0, x1⟩ := cell14 I.out.f hlt
        obtain ⟨o0, o1⟩ := cell14 I.out.o hlt
        obtain ⟨b0, b1⟩ := cell14 I.out.b hlt
        have fo0 := blk_frozen I.out.o (k * 2)
        have fo1 := blk_frozen I.out.o (k * 2 + 1)
        have fb0 := blk_frozen I.out.b (k * 2)
        have fb1 := blk_frozen I.out.b (k * 2 + 1)
        have hk0 : (0 : Int) ≤ ((k : Nat) : Int) := by omega
        have hk7 : ((k : Nat) : Int) < 7 := by omega
        have EB := Aside0.mk (show backF f k = ((f k).2, (f k).1) from rfl)
        have uo : putF (upF oneF k) k (1, 1) = upF oneF (k + 1) := upF_succ oneF k
        have ub : putF (upF (backF f) k) k ((f k).2, (f k).1) = upF (backF f) (k + 1) := upF_succ (backF f) k
        have v7 : w.heap.size ≠ w3.heap.size + 1 + 1 := by omega
        have v8 : w.heap.size ≠ w3.heap.size + 1 + 1 + 1 := by omega
        have f7 : w3.heap.size ≠ w3.heap.size + 1 + 1 := by omega
        have f8 : w3.heap.size ≠ w3.heap.size + 1 + 1 + 1 := by omega
        have I1 := Aside0.mk (((I.out.setO v7 f7 hlt 1 1).setB v8 f8 hlt (f k).2 (f k).1).drew)
        have I2 := Aside0.mk (((I.out.setB v8 f8 hlt (f k).2 (f k).1).setO v7 f7 hlt 1 1).drew)
        rw [uo, ub] at I1 I2
        have h7 : w.heap.size ≤ w3.heap.size + 1 + 1 := by omega
        have h8 : w.heap.size ≤ w3.heap.size + 1 + 1 + 1 := by omega
        have C1 := Aside0.mk (below_drew ((((B.out.setCell (p := ⟨w3.heap.size + 1 + 1, k * 2, none⟩) h7 (.int .i64 1)).setCell (p := ⟨w3.heap.size + 1 + 1, k * 2 + 1, none⟩) h7 (.int .i64 1)).setCell (p := ⟨w3.heap.size + 1 + 1 + 1, k * 2, none⟩) h8 (.int .i64 (f k).2)).setCell (p := ⟨w3.heap.size + 1 + 1 + 1, k * 2 + 1, none⟩) h8 (.int .i64 (f k).1)))
        have C2 := Aside0.mk (below_drew ((((B.out.setCell (p := ⟨w3.heap.size + 1 + 1 + 1, k * 2, none⟩) h8 (.int .i64 (f k).2)).setCell (p := ⟨w3.heap.size + 1 + 1 + 1, k * 2 + 1, none⟩) h8 (.int .i64 (f k).1)).setCell (p := ⟨w3.heap.size + 1 + 1, k * 2, none⟩) h7 (.int .i64 1)).setCell (p := ⟨w3.heap.size + 1 + 1, k * 2 + 1, none⟩) h7 (.int .i64 1)))
        generalize (f k).1 = p at *
        generalize (f k).2 = q at *
        have SD := Aside0.mk (show N2x wr.drew w3.heap.size k p q from ⟨x0, x1⟩)
        clear uo ub EB v7 v8 h7 h8
        go_upto_region 10 with fail
        go_region_held3 (fun wx => wx.cell? ⟨w3.heap.size, k * 2, none⟩ = some (.int .i64 p) ∧ wx.cell? ⟨w3.heap.size, k * 2 + 1, none⟩ = some (.int .i64 q)) (first | assumption | exact SD.out | (exact N2.set (N2.set SD.out f7.symm) f7.symm) | (exact N2.set (N2.set SD.out f8.symm) f8.symm) | (exact N2.set (N2.set (N2.set (N2.set SD.out f8.symm) f8.symm) f7.symm) f7.symm) | (exact N2.set (N2.set (N2.set (N2.set SD.out f7.symm) f7.symm) f8.symm) f8.symm)) (fail)
        all_goals go_wp2
        all_goals go_roundw
        case rel => first | exact ⟨k + 1, by omega, by go_num, I1, C1⟩ | exact ⟨k + 1, by omega, by go_num, I2, C2⟩
        case measure => (simp [intOf]) <;> omega
      · obtain rfl : k = 7 := by omega
        clear hlt hk
        have O : Box14 wr (w3.heap.size + 1 + 1) 52 oneF := I.out.o
        have K : Box14 wr (w3.heap.size + 1 + 1 + 1) 52 (backF f) := I.out.b
        have KA := Aside0.mk K
        have FA := Aside0.mk I.out.f
        have VA := Aside0.mk I.out.v
        have hl0 : w.heap.size < wr.heap.size := by omega
        have E1 := Aside0.mk (resz_ones HOV.out)
        obtain ⟨x0, x1, y0, y1, y2, y3, y4, y5, y6⟩ := cells9 VA.out
        obtain ⟨⟨z0, z1, z2, z3, z4, z5, z6⟩, ⟨z7, z8, z9, z10, z11, z12, z13⟩⟩ := cells14 O
        clear O K I
        go_wp2_with fail
        refine (RA.out oneF n m _).mono ?_
        rintro e w4 ⟨rfl, hb⟩
        rw [E1.out]
        have V4 := Aside0.mk (blk_below VA.out hb)
        have F4 := Aside0.mk (blk_below FA.out hb)
        have K4 := Aside0.mk (blk_below KA.out hb)
        have B4 := Aside0.mk (keepB hb B.out)
        clear hb VA FA KA B x0 x1 y0 y1 y2 y3 y4 y5 y6 z0 z1 z2 z3 z4 z5 z6 z7 z8 z9 z10 z11 z12 z13
        obtain ⟨x0, x1, y0, y1, y2, y3, y4, y5, y6⟩ := cells9 V4.out
        obtain ⟨⟨z0, z1, z2, z3, z4, z5, z6⟩, ⟨z7, z8, z9, z10, z11, z12, z13⟩⟩ := cells14 F4.out
        have hl4 : w.heap.size < w4.heap.size := blk_lt V4.out
        have hl4' : w3.heap.size < w4.heap.size := blk_lt F4.out
        have q1 := EQ.out n m d
        have q2 := fun W => eq7d 9997 d d W
        rw [eqD_refl] at q2
        have PF := Aside0.mk (fun p q h => resz_inv (n := n) (m := m) (d := d) PZ.out (p := p) (q := q) h)
        have SY := Aside0.mk (resz_says (n := n) (m := m) (d := d) (f := f))
        go_wp2_with fail
        refine (RA.out f n m _).mono ?_
        rintro e w5 ⟨rfl, hb⟩
        have V5 := Aside0.mk (blk_below (blk_alloc V4.out _) hb)
        have K5 := Aside0.mk (blk_below (blk_alloc K4.out _) hb)
        have B5 := Aside0.mk (keepB (box_below hb) B4.out)
        clear hb V4 F4 K4 B4 x0 x1 y0 y1 y2 y3 y4 y5 y6 z0 z1 z2 z3 z4 z5 z6 z7 z8 z9 z10 z11 z12 z13 hl4 hl4'
        generalize resz n m d f = r at *
        by_cases hr : r.2 = 0
        · obtain ⟨_, _, g, _, _, hg⟩ := SY.out hr
          obtain ⟨p, hp⟩ : ∃ p, (divz n m g.1 g.2).1 = p := ⟨_, rfl⟩
          obtain ⟨q, hq⟩ : ∃ q, (divz n m g.1 g.2).2.1 = q := ⟨_, rfl⟩
          rw [hp, hq] at hg
          have INV := Aside0.mk (PF.out p q hg)
          subst hg
          clear hr hp hq SY PF
          have hl5 : w3.heap.size + 1 + 1 + 1 < w5.heap.size := blk_lt K5.out
          obtain ⟨⟨z0, z1, z2, z3, z4, z5, z6⟩, ⟨z7, z8, z9, z10, z11, z12, z13⟩⟩ := cells14 K5.out
          go_wp2_with fail
          refine (RA.out (backF f) p q _).mono ?_
          rintro e w6 ⟨rfl, hb⟩
          have V6 := Aside0.mk (blk_below (blk_alloc V5.out _) hb)
          have B6 := Aside0.mk (keepB (box_below hb) B5.out)
          clear hb V5 K5 B5 z0 z1 z2 z3 z4 z5 z6 z7 z8 z9 z10 z11 z12 z13 hl5
          generalize resz p q d (backF f) = r2 at *
          obtain ⟨x0, x1, y0, y1, y2, y3, y4, y5, y6⟩ := cells9 V6.out
          have hl6 : w.heap.size < w6.heap.size := blk_lt V6.out
          rcases INV.out with h2 | h2
          · have k1 : (r2.2 == 2) = true := beq_iff_eq.2 h2
            clear h2 INV
            go_wp2
            go_ret
            exact ⟨by first | rfl | simp, B6.out.alloc B6.out.size _⟩
          · subst h2
            clear INV
            go_wp2
            go_ret
            exact ⟨by first | rfl | simp, B6.out.alloc B6.out.size _⟩
        · have k6 : (r.2 != 0) = true := by rw [bne_iff_ne]; exact hr
          clear hr SY PF
          go_wp2
          go_ret
          exact ⟨by first | rfl | simp, B5.out.alloc B5.out.size _⟩
end Go.Proofs.YtjnheoelcahkaaaDoor.Rat
