/-
  UnitRescale, walked.
-/
import Derived.Test.YtjnheoelcahkaaaDoorUnNum
import Derived.Test.YtjnheoelcahkaaaDoorUnText
import Derived.Deep.DeepCutAuto
set_option linter.unusedVariables false
set_option linter.unusedSimpArgs false
namespace Go.Proofs.YtjnheoelcahkaaaDoor.Rat
open Go.RowKit Go.Proofs.YtjnheoelcahkaaaDoorW.PrintWords Go.Proofs.YtjnheoelcahkaaaDoorW.PrintLast Go.Proofs.YtjnheoelcahkaaaDoorW.PrintMore Go.Proofs.YtjnheoelcahkaaaDoor.Gv
open Go.Proofs.YtjnheoelcahkaaaDoor.R
theorem okF_bad {f : Nat → Int × Int} {k : Nat} (hk : k < 7) : allF (putF f k (0, 1)) = false := by
  refine allF_no hk ?_
  have e : putF f k (0, 1) k = (0, 1) := if_pos rfl
  unfold okF
  rw [e]
  simp
theorem cellsU {w : World} {g t : Nat} {f : Nat → Int × Int} (h : w.heap[g]? = some (.cells (aggU f) t (0, 0))) : (w.cell? ⟨g, 0, none⟩ = some (.int .u8 (f 0).1) ∧ w.cell? ⟨g, 1, none⟩ = some (.int .u8 (f 0).2) ∧ w.cell? ⟨g, 2, none⟩ = some (.int .u8 (f 1).1) ∧ w.cell? ⟨g, 3, none⟩ = some (.int .u8 (f 1).2) ∧ w.cell? ⟨g, 4, none⟩ = some (.int .u8 (f 2).1) ∧ w.cell? ⟨g, 5, none⟩ = some (.int .u8 (f 2).2) ∧ w.cell? ⟨g, 6, none⟩ = some (.int .u8 (f 3).1)) ∧ (w.cell? ⟨g, 7, none⟩ = some (.int .u8 (f 3).2) ∧ w.cell? ⟨g, 8, none⟩ = some (.int .u8 (f 4).1) ∧ w.cell? ⟨g, 9, none⟩ = some (.int .u8 (f 4).2) ∧ w.cell? ⟨g, 10, none⟩ = some (.int .u8 (f 5).1) ∧ w.cell? ⟨g, 11, none⟩ = some (.int .u8 (f 5).2) ∧ w.cell? ⟨g, 12, none⟩ = some (.int .u8 (f 6).1) ∧ w.cell? ⟨g, 13, none⟩ = some (.int .u8 (f 6).2)) :=
  ⟨⟨(blk_cell h 0).trans rfl, (blk_cell h 1).trans rfl, (blk_cell h 2).trans rfl, (blk_cell h 3).trans rfl, (blk_cell h 4).trans rfl, (blk_cell h 5).trans rfl, (blk_cell h 6).trans rfl⟩, ⟨(blk_cell h 7).trans rfl, (blk_cell h 8).trans rfl, (blk_cell h 9).trans rfl, (blk_cell h 10).trans rfl, (blk_cell h 11).trans rfl, (blk_cell h 12).trans rfl, (blk_cell h 13).trans rfl⟩⟩
structure Law (w : World) (B g7 g8 g9 g11 : Nat) (n m : Int) (d : Nat → Int) (f : Nat → Int × Int) (r : (Int × Int × (Nat → Int)) × Int) : Prop where
  v : Box9 w B n m d
  f : Box14 w g7 52 f
  a : Box9 w g9 r.1.1 r.1.2.1 r.1.2.2
  b : Box9 w g11 r.1.1 r.1.2.1 r.1.2.2
/-- what the comparison reads -/
structure Cmp (w0 w : World) (B g9 g11 : Nat) (n m : Int) (d : Nat → Int) (r : (Int × Int × (Nat → Int)) × Int) : Prop where
  v : Box9 w B n m d
  a : Box9 w g9 r.1.1 r.1.2.1 r.1.2.2
  b : Box9 w g11 r.1.1 r.1.2.1 r.1.2.2
  w : Below w0.heap.size w0 w
theorem Cmp.keep {w0 w w1 : World} {B g9 g11 : Nat} {n m : Int} {d : Nat → Int} {r : (Int × Int × (Nat → Int)) × Int} (h : Cmp w0 w B g9 g11 n m d r) (hb : Below w.heap.size w w1) : Cmp w0 w1 B g9 g11 n m d r := ⟨blk_below h.v hb, blk_below h.a hb, blk_below h.b hb, keepB hb h.w⟩
theorem Cmp.x {w0 wx : World} {B g9 g11 : Nat} {n m : Int} {d : Nat → Int} {r : (Int × Int × (Nat → Int)) × Int} (h : Cmp w0 wx B g9 g11 n m d r) : wx.cell? ⟨B, 0, none⟩ = some (.int .i64 n) ∧ wx.cell? ⟨B, 1, none⟩ = some (.int .i64 m) ∧ wx.cell? ⟨B, 2, none⟩ = some (.int .i64 (d 0)) ∧ wx.cell? ⟨B, 3, none⟩ = some (.int .i64 (d 1)) ∧ wx.cell? ⟨B, 4, none⟩ = some (.int .i64 (d 2)) ∧ wx.cell? ⟨B, 5, none⟩ = some (.int .i64 (d 3)) ∧ wx.cell? ⟨B, 6, none⟩ = some (.int .i64 (d 4)) ∧ wx.cell? ⟨B, 7, none⟩ = some (.int .i64 (d 5)) ∧ wx.cell? ⟨B, 8, none⟩ = some (.int .i64 (d 6)) ∧ wx.cell? ⟨g9, 0, none⟩ = some (.int .i64 r.1.1) ∧ wx.cell? ⟨g9, 1, none⟩ = some (.int .i64 r.1.2.1) ∧ wx.cell? ⟨g9, 2, none⟩ = some (.int .i64 (r.1.2.2 0)) ∧ wx.cell? ⟨g9, 3, none⟩ = some (.int .i64 (r.1.2.2 1)) ∧ wx.cell? ⟨g9, 4, none⟩ = some (.int .i64 (r.1.2.2 2)) ∧ wx.cell? ⟨g9, 5, none⟩ = some (.int .i64 (r.1.2.2 3)) ∧ wx.cell? ⟨g9, 6, none⟩ = some (.int .i64 (r.1.2.2 4)) ∧ wx.cell? ⟨g9, 7, none⟩ = some (.int .i64 (r.1.2.2 5)) ∧ wx.cell? ⟨g9, 8, none⟩ = some (.int .i64 (r.1.2.2 6)) ∧ wx.cell? ⟨g11, 0, none⟩ = some (.int .i64 r.1.1) ∧ wx.cell? ⟨g11, 1, none⟩ = some (.int .i64 r.1.2.1) ∧ wx.cell? ⟨g11, 2, none⟩ = some (.int .i64 (r.1.2.2 0)) ∧ wx.cell? ⟨g11, 3, none⟩ = some (.int .i64 (r.1.2.2 1)) ∧ wx.cell? ⟨g11, 4, none⟩ = some (.int .i64 (r.1.2.2 2)) ∧ wx.cell? ⟨g11, 5, none⟩ = some (.int .i64 (r.1.2.2 3)) ∧ wx.cell? ⟨g11, 6, none⟩ = some (.int .i64 (r.1.2.2 4)) ∧ wx.cell? ⟨g11, 7, none⟩ = some (.int .i64 (r.1.2.2 5)) ∧ wx.cell? ⟨g11, 8, none⟩ = some (.int .i64 (r.1.2.2 6)) ∧ Below w0.heap.size w0 wx := by
  obtain ⟨v0, v1, v2, v3, v4, v5, v6, v7, v8⟩ := cells9 h.v
  obtain ⟨a0, a1, a2, a3, a4, a5, a6, a7, a8⟩ := cells9 h.a
  obtain ⟨b0, b1, b2, b3, b4, b5, b6, b7, b8⟩ := cells9 h.b
  exact ⟨v0, v1, v2, v3, v4, v5, v6, v7, v8, a0, a1, a2, a3, a4, a5, a6, a7, a8, b0, b1, b2, b3, b4, b5, b6, b7, b8, h.w⟩
set_option maxHeartbeats 8000000 in
set_option maxRecDepth 1000000 in
theorem UnitRescale.calls (n m : Int) (d : Nat → Int) (s : Nat → Int × Int) (a : Nat) (w : World) (hG : Gw w) (hs : ∀ k, k < 7 → (0 ≤ (s k).1 ∧ (s k).1 ≤ 255) ∧ (0 ≤ (s k).2 ∧ (s k).2 ≤ 255)) (ha : a ≤ 255) :
    Calls Tryd.prog 7 #[.agg (val9 n m d), .agg (aggU s), .int .u8 (a : Int)] w fun e w' => e = .returned (.bool true) ∧ Below w.heap.size w w' := by
  have AW := Aside0.mk (vinculumlaw53_awake.any _ (Gw.below hG (((Below.refl w.heap.size w).alloc (Nat.le_refl _) (.cells (val9 n m d) 35)).alloc (by simp) (.cells (aggU s) 49))))
  have NU := Aside0.mk (fun W => numbers_any s hs W)
  have RA := Aside0.mk (fun f W => unit_Rescale.any n m d f W)
  have RB := Aside0.mk (fun f W => vinculumref53_Rescale.any n m d f W)
  have VA := Aside0.mk (fun W => value_any n m d W)
  have VB := Aside0.mk (fun W => rvalue_any n m d W)
  have EQ := Aside0.mk (fun (x y : Int) (z : Nat → Int) W => show Sem.run Tryd.prog (Op.equalIn 10000 35 (.agg (val9 x y z)) (.agg (val9 x y z))) W = .ok true W from by rw [eq9, eqV_refl])
  clear hG hs
  go_enter Tryd.func7, Tryd.ntmps7
  go_wp2_with fail
  refine AW.out.mono ?_
  rintro e w1 ⟨rfl, hb⟩
  have V1 := Aside0.mk (show Box9 w1 w.heap.size n m d from blk_below (blk_alloc (blk_new _ _) _) hb)
  have S1 := Aside0.mk (show w1.heap[w.heap.size + 1]? = some (.cells (aggU s) 49 (0, 0)) from blk_below (new_at (by simp)) hb)
  have B1 := Aside0.mk (box_below (box_below hb))
  clear hb AW
  obtain ⟨⟨z0, z1, z2, z3, z4, z5, z6⟩, ⟨z7, z8, z9, z10, z11, z12, z13⟩⟩ := cellsU S1.out
  go_wp2_with fail
  refine (NU.out _).mono ?_
  rintro e w2 ⟨rfl, hb⟩
  have V2 := Aside0.mk (blk_below V1.out hb)
  have B2 := Aside0.mk (keepB hb B1.out)
  clear hb V1 B1 S1 NU z0 z1 z2 z3 z4 z5 z6 z7 z8 z9 z10 z11 z12 z13
  generalize numF s = f at *
  obtain ⟨x0, x1, y0, y1, y2, y3, y4, y5, y6⟩ := cells9 V2.out
  have hl0 : w.heap.size < w2.heap.size := blk_lt V2.out
  go_wp2_with fail
  refine (RA.out f _).mono ?_
  rintro e w3 ⟨rfl, hb⟩
  have V3 := Aside0.mk (show Box9 w3 w.heap.size n m d from blk_below (blk_alloc (blk_alloc V2.out _) _) hb)
  have F3 := Aside0.mk (show Box14 w3 w2.heap.size 52 f from blk_below (blk_alloc (blk_new _ _) _) hb)
  have G3 := Aside0.mk (show Box14 w3 (w2.heap.size + 1) 54 f from blk_below (new_at (by simp)) hb)
  have B3 := Aside0.mk (keepB (box_below (box_below hb)) B2.out)
  clear hb V2 B2 x0 x1 y0 y1 y2 y3 y4 y5 y6
  generalize hr : resz n m d f = r at *
  have HR := Aside0.mk hr
  generalize hg7 : w2.heap.size = g7 at *
  clear hr hg7 w2
  obtain ⟨x0, x1, y0, y1, y2, y3, y4, y5, y6⟩ := cells9 V3.out
  obtain ⟨⟨z0, z1, z2, z3, z4, z5, z6⟩, ⟨z7, z8, z9, z10, z11, z12, z13⟩⟩ := cells14 G3.out
  have hl3 : w.heap.size < w3.heap.size := blk_lt V3.out
  have hl3' : g7 + 1 < w3.heap.size := blk_lt G3.out
  go_wp2_with fail
  refine (RB.out f _).mono ?_
  rintro e w4 ⟨rfl, hb⟩
  rw [HR.out]
  have V4 := Aside0.mk (blk_below (blk_alloc V3.out _) hb)
  have F4 := Aside0.mk (blk_below (blk_alloc F3.out _) hb)
  have A4 := Aside0.mk (show Box9 w4 w3.heap.size r.1.1 r.1.2.1 r.1.2.2 from box_block hb)
  have B4 := Aside0.mk (keepB (box_below hb) B3.out)
  clear hb V3 F3 G3 B3 x0 x1 y0 y1 y2 y3 y4 y5 y6 z0 z1 z2 z3 z4 z5 z6 z7 z8 z9 z10 z11 z12 z13
  generalize hg9 : w3.heap.size = g9 at *
  clear hg9
  go_upto_region 6 with fail
  have hl4 : g7 < w4.heap.size := blk_lt F4.out
  have hl9 : g9 < w4.heap.size := blk_lt A4.out
  generalize hW : World.alloc w4 _ = w5
  have V5 := Aside0.mk (show Box9 w5 w.heap.size n m d by rw [← hW]; exact blk_alloc V4.out _)
  have F5 := Aside0.mk (show Box14 w5 g7 52 f by rw [← hW]; exact blk_alloc F4.out _)
  have A5 := Aside0.mk (show Box9 w5 g9 r.1.1 r.1.2.1 r.1.2.2 by rw [← hW]; exact blk_alloc A4.out _)
  have C5 := Aside0.mk (show Box9 w5 w4.heap.size r.1.1 r.1.2.1 r.1.2.2 by rw [← hW]; exact blk_new _ _)
  have B5 := Aside0.mk (show Below w.heap.size w w5 by rw [← hW]; exact B4.out.alloc B4.out.size _)
  generalize hg11 : w4.heap.size = g11 at *
  clear hW hg11 V4 F4 A4 B4
  have SD := Aside0.mk (Cmp.keep (w0 := w5) (w := w5) (B := w.heap.size) (g9 := g9) (g11 := g11) (n := n) (m := m) (d := d) (r := r) ⟨V5.out, A5.out, C5.out, Below.refl _ _⟩ (below_drew (Below.refl w5.heap.size w5)))
  have SX := Aside0.mk SD.out.x
  have q1 := EQ.out r.1.1 r.1.2.1 r.1.2.2
  generalize okV n m d = ov at *
  go_cut [46] (fun s wx => s = .bool false ∧ Aside0 (Below w5.heap.size w5 wx))
  case first =>
    go_region_held3 (fun wx => wx.cell? ⟨w.heap.size, 0, none⟩ = some (.int .i64 n) ∧ wx.cell? ⟨w.heap.size, 1, none⟩ = some (.int .i64 m) ∧ wx.cell? ⟨w.heap.size, 2, none⟩ = some (.int .i64 (d 0)) ∧ wx.cell? ⟨w.heap.size, 3, none⟩ = some (.int .i64 (d 1)) ∧ wx.cell? ⟨w.heap.size, 4, none⟩ = some (.int .i64 (d 2)) ∧ wx.cell? ⟨w.heap.size, 5, none⟩ = some (.int .i64 (d 3)) ∧ wx.cell? ⟨w.heap.size, 6, none⟩ = some (.int .i64 (d 4)) ∧ wx.cell? ⟨w.heap.size, 7, none⟩ = some (.int .i64 (d 5)) ∧ wx.cell? ⟨w.heap.size, 8, none⟩ = some (.int .i64 (d 6)) ∧ wx.cell? ⟨g9, 0, none⟩ = some (.int .i64 r.1.1) ∧ wx.cell? ⟨g9, 1, none⟩ = some (.int .i64 r.1.2.1) ∧ wx.cell? ⟨g9, 2, none⟩ = some (.int .i64 (r.1.2.2 0)) ∧ wx.cell? ⟨g9, 3, none⟩ = some (.int .i64 (r.1.2.2 1)) ∧ wx.cell? ⟨g9, 4, none⟩ = some (.int .i64 (r.1.2.2 2)) ∧ wx.cell? ⟨g9, 5, none⟩ = some (.int .i64 (r.1.2.2 3)) ∧ wx.cell? ⟨g9, 6, none⟩ = some (.int .i64 (r.1.2.2 4)) ∧ wx.cell? ⟨g9, 7, none⟩ = some (.int .i64 (r.1.2.2 5)) ∧ wx.cell? ⟨g9, 8, none⟩ = some (.int .i64 (r.1.2.2 6)) ∧ wx.cell? ⟨g11, 0, none⟩ = some (.int .i64 r.1.1) ∧ wx.cell? ⟨g11, 1, none⟩ = some (.int .i64 r.1.2.1) ∧ wx.cell? ⟨g11, 2, none⟩ = some (.int .i64 (r.1.2.2 0)) ∧ wx.cell? ⟨g11, 3, none⟩ = some (.int .i64 (r.1.2.2 1)) ∧ wx.cell? ⟨g11, 4, none⟩ = some (.int .i64 (r.1.2.2 2)) ∧ wx.cell? ⟨g11, 5, none⟩ = some (.int .i64 (r.1.2.2 3)) ∧ wx.cell? ⟨g11, 6, none⟩ = some (.int .i64 (r.1.2.2 4)) ∧ wx.cell? ⟨g11, 7, none⟩ = some (.int .i64 (r.1.2.2 5)) ∧ wx.cell? ⟨g11, 8, none⟩ = some (.int .i64 (r.1.2.2 6)) ∧ Below w5.heap.size w5 wx) (first | assumption | exact SX.out | (exact (Cmp.keep SD.out (by assumption)).x) | (exact (Cmp.keep (Cmp.keep SD.out (by assumption)) (by assumption)).x)) (first | (go_at_call 24; refine (VA.out _).mono ?_; rintro e w6 ⟨rfl, hb6⟩) | (go_at_call 28; refine (VB.out _).mono ?_; rintro e w7 ⟨rfl, hb7⟩))
    all_goals (try go_wp2_with fail)
    all_goals go_meet
    all_goals first
      | exact ⟨by simp, ⟨(Cmp.keep (Cmp.keep SD.out hb6) hb7).w⟩⟩
      | exact ⟨by simp, ⟨(Cmp.keep (Cmp.keep SD.out hb7) hb6).w⟩⟩
  case rest =>
    obtain ⟨rfl, P⟩ := hcut
    have V6 := Aside0.mk (blk_below V5.out P.out)
    have F6 := Aside0.mk (blk_below F5.out P.out)
    have A6 := Aside0.mk (blk_below A5.out P.out)
    have B6 := Aside0.mk (keepB P.out B5.out)
    clear P V5 F5 A5 C5 B5 SD SX VA VB
    have hk : a % 7 < 7 := Nat.mod_lt _ (by omega)
    have ck := cell14 F6.out hk
    obtain ⟨c0, c1⟩ := ck
    have f0 := blk_frozen F6.out (a % 7 * 2)
    have f1 := blk_frozen F6.out (a % 7 * 2 + 1)
    have n79 : w.heap.size ≠ g7 := by omega
    have n97 : g9 ≠ g7 := by omega
    have F7 := Aside0.mk (set14 F6.out hk 0 1)
    have V7 := Aside0.mk (blk_far (blk_far V6.out n79 (p := ⟨g7, a % 7 * 2, none⟩) (.int .i64 0)) n79 (p := ⟨g7, a % 7 * 2 + 1, none⟩) (.int .i64 1))
    have A7 := Aside0.mk (blk_far (blk_far A6.out n97 (p := ⟨g7, a % 7 * 2, none⟩) (.int .i64 0)) n97 (p := ⟨g7, a % 7 * 2 + 1, none⟩) (.int .i64 1))
    have B7 := Aside0.mk ((B6.out.setCell (p := ⟨g7, a % 7 * 2, none⟩) (show w.heap.size ≤ g7 by omega) (.int .i64 0)).setCell (p := ⟨g7, a % 7 * 2 + 1, none⟩) (show w.heap.size ≤ g7 by omega) (.int .i64 1))
    have RZ := Aside0.mk (resz_f (n := n) (m := m) (d := d) (okF_bad (f := f) hk))
    generalize putF f (a % 7) (0, 1) = f2 at *
    go_upto_region 9 with fail
    generalize hW : World.setCell (World.setCell wc _ _) _ _ = w7 at F7 V7 A7 B7 ⊢
    clear hW c0 c1 f0 f1 V6 F6 A6 B6 hk
    obtain ⟨x0, x1, y0, y1, y2, y3, y4, y5, y6⟩ := cells9 V7.out
    obtain ⟨⟨z0, z1, z2, z3, z4, z5, z6⟩, ⟨z7, z8, z9, z10, z11, z12, z13⟩⟩ := cells14 F7.out
    go_wp2_with fail
    refine (RA.out f2 _).mono ?_
    rintro e w8 ⟨rfl, hb⟩
    rw [RZ.out]
    have A8 := Aside0.mk (blk_below A7.out hb)
    have B8 := Aside0.mk (keepB hb B7.out)
    clear hb V7 F7 A7 B7 x0 x1 y0 y1 y2 y3 y4 y5 y6 z0 z1 z2 z3 z4 z5 z6 z7 z8 z9 z10 z11 z12 z13 q1
    obtain ⟨x0, x1, y0, y1, y2, y3, y4, y5, y6⟩ := cells9 A8.out
    have r0 := blk_frozen A8.out 0
    have r1 := blk_frozen A8.out 1
    have r2 := blk_frozen A8.out 2
    have r3 := blk_frozen A8.out 3
    have r4 := blk_frozen A8.out 4
    have r5 := blk_frozen A8.out 5
    have r6 := blk_frozen A8.out 6
    have r7 := blk_frozen A8.out 7
    have r8 := blk_frozen A8.out 8
    have q2 : ∀ W, Sem.run Tryd.prog (Op.equalIn 10000 35 (.agg #[.int .i64 0, .int .i64 0, .int .i64 0, .int .i64 0, .int .i64 0, .int .i64 0, .int .i64 0, .int .i64 0, .int .i64 0]) (.agg #[.int .i64 0, .int .i64 0, .int .i64 0, .int .i64 0, .int .i64 0, .int .i64 0, .int .i64 0, .int .i64 0, .int .i64 0])) W = .ok true W := fun W => EQ.out 0 0 zeroD W
    have B9 := Aside0.mk (below9 B8.out (show w.heap.size ≤ g9 by omega) 0 0 zeroD)
    have q3 : ∀ W, Sem.run Tryd.prog (Op.equalIn 9999 23 (.agg (agg7 zeroD)) (.agg #[.int .i64 0, .int .i64 0, .int .i64 0, .int .i64 0, .int .i64 0, .int .i64 0, .int .i64 0])) W = .ok true W := fun W => by
      have h := eq7d 9997 zeroD zeroD W
      rw [eqD_refl] at h
      exact h
    go_wp2
    go_ret
    exact ⟨by first | rfl | simp, B9.out⟩
end Go.Proofs.YtjnheoelcahkaaaDoor.Rat
