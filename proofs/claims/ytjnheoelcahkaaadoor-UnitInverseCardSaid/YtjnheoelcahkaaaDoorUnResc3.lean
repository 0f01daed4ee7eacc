/-
  vinculumref53.Rescale.
-/
import Derived.Test.YtjnheoelcahkaaaDoorUnResc2
set_option linter.unusedVariables false
set_option linter.unusedSimpArgs false
namespace Go.Proofs.YtjnheoelcahkaaaDoor.Rat
open Go.RowKit Go.Proofs.YtjnheoelcahkaaaDoorW.PrintWords Go.Proofs.YtjnheoelcahkaaaDoorW.PrintLast Go.Proofs.YtjnheoelcahkaaaDoorW.PrintMore Go.Proofs.YtjnheoelcahkaaaDoor.Gv
open Go.Proofs.YtjnheoelcahkaaaDoor.R
theorem okD_rng {x : Int} (h : okD x = true) : -100 ≤ x ∧ x ≤ 100 := by simpa [okD] using h
theorem big1 : Big 9223372036854775901 := big0
theorem rvalid_any (a b : Int) (w : World) : Calls Tryd.prog 47 #[.agg (rat2 a b)] w fun e w' => e = .returned (.bool (vz a b)) ∧ Below w.heap.size w w' :=
  vinculumref02_Valid.calls _ a b _ w (rvalid_f _ big0)
theorem rmul_any (a b c d : Int) (w : World) : Calls Tryd.prog 49 #[.agg (rat2 a b), .agg (rat2 c d)] w fun e w' => e = .returned (.tuple #[.agg (rat2 (mulz a b c d).1 (mulz a b c d).2.1), .int .i64 (mulz a b c d).2.2]) ∧ Below w.heap.size w w' :=
  vinculumref02_Mul.calls _ a b c d _ _ _ w (rmul_f a b c d _ big0)
theorem rdiv_any (a b c d : Int) (w : World) : Calls Tryd.prog 50 #[.agg (rat2 a b), .agg (rat2 c d)] w fun e w' => e = .returned (.tuple #[.agg (rat2 (divz a b c d).1 (divz a b c d).2.1), .int .i64 (divz a b c d).2.2]) ∧ Below w.heap.size w w' :=
  vinculumref02_Div.calls _ a b c d _ _ _ w (rdiv_f a b c d _ big0)
theorem rpow_any (a b n : Int) (hn : i64 n) (w : World) : Calls Tryd.prog 48 #[.agg (rat2 a b), .int .i64 n] w fun e w' => e = .returned (.tuple #[.agg (rat2 (powz a b n).1 (powz a b n).2.1), .int .i64 (powz a b n).2.2]) ∧ Below w.heap.size w w' :=
  vinculumref02_Pow.calls _ a b n _ _ _ w (rpow_f hn _ big0)
theorem rmake_any (a b : Int) (ha : i64 a) (hb : i64 b) (w : World) : Calls Tryd.prog 43 #[.int .i64 a, .int .i64 b] w fun e w' => e = .returned (.tuple #[.agg (rat2 (mkz a b).1 (mkz a b).2.1), .int .i64 (mkz a b).2.2]) ∧ Below w.heap.size w w' :=
  vinculumref02_Make.calls _ a b _ _ _ w (rmake_f ha hb _ big0)
set_option maxHeartbeats 4000000 in
set_option maxRecDepth 1000000 in
theorem number_any (n m : Int) (d : Nat → Int) (w : World) : Calls Tryd.prog 51 #[.agg (val9 n m d)] w fun e w' => e = .returned (.agg (rat2 n m)) ∧ Below w.heap.size w w' := by
  go_enter Tryd.func51, Tryd.ntmps51
  go_wp2
  exact bodyPost_ret (results_cell_row rfl _ _ (w.heap.size + 1) 53 (rat2 n m) (0, 0) _ rfl (by have h := blk_new (w.alloc (.cells (val9 n m d) 35)) (.cells (rat2 n m) 53); simpa using h) Tryd.underlying53 rfl (by kernel_rfl)) rfl ⟨rfl, ((Below.refl _ _).alloc (Nat.le_refl _) _).alloc (by simp) _⟩
set_option maxHeartbeats 4000000 in
set_option maxRecDepth 1000000 in
theorem makev_any (n m : Int) (d : Nat → Int) (w : World) : Calls Tryd.prog 52 #[.agg (rat2 n m), .agg (agg7 d)] w fun e w' => e = .returned (.agg (val9 n m d)) ∧ Below w.heap.size w w' := by
  go_enter Tryd.func52, Tryd.ntmps52
  go_wp2
  exact bodyPost_ret (results_cell_row rfl _ _ (w.heap.size + 2) 35 (val9 n m d) (0, 0) _ rfl (by have h := blk_new ((w.alloc (.cells (rat2 n m) 53)).alloc (.cells (agg7 d) 23)) (.cells (val9 n m d) 35); simpa using h) Tryd.underlying35 rfl (by kernel_rfl)) rfl ⟨rfl, (((Below.refl _ _).alloc (Nat.le_refl _) _).alloc (by simp) _).alloc (by simp; omega) _⟩
set_option maxHeartbeats 4000000 in
set_option maxRecDepth 1000000 in
theorem rvalue_any (n m : Int) (d : Nat → Int) (w : World) : Calls Tryd.prog 28 #[.agg (val9 n m d)] w fun e w' => e = .returned (.bool (okV n m d)) ∧ Below w.heap.size w w' := by
  have VD := Aside0.mk (fun W => vinculumref53_Valid.any d W)
  have NM := Aside0.mk (fun W => number_any n m d W)
  have VA := Aside0.mk (fun W => rvalid_any n m W)
  have EV := Aside0.mk (show okV n m d = (dimB d && vz n m) by unfold okV; exact Bool.and_comm _ _)
  generalize okV n m d = o at *
  generalize vz n m = v at *
  cases hd : dimB d with
  | false =>
    rw [hd] at VD EV
    clear hd
    go_enter Tryd.func28, Tryd.ntmps28
    go_wp2_with fail
    refine (VD.out _).mono ?_
    rintro e w1 ⟨rfl, hb⟩
    have B := Aside0.mk (box_below hb)
    clear hb
    go_wp2
    go_ret
    exact ⟨by rw [EV.out]; rfl, B.out⟩
  | true =>
    rw [hd] at VD EV
    clear hd
    go_enter Tryd.func28, Tryd.ntmps28
    go_wp2_with fail
    refine (VD.out _).mono ?_
    rintro e w1 ⟨rfl, hb⟩
    have X := Aside0.mk (show Box9 w1 w.heap.size n m d from box_block hb)
    have B := Aside0.mk (box_below hb)
    clear hb VD
    obtain ⟨x0, x1, y0, y1, y2, y3, y4, y5, y6⟩ := cells9 X.out
    go_wp2_with fail
    refine (NM.out _).mono ?_
    rintro e w2 ⟨rfl, hb⟩
    have B2 := Aside0.mk (keepB hb B.out)
    clear hb NM B X x0 x1 y0 y1 y2 y3 y4 y5 y6
    go_wp2_with fail
    refine (VA.out _).mono ?_
    rintro e w3 ⟨rfl, hb⟩
    have B3 := Aside0.mk (keepB hb B2.out)
    clear hb
    go_wp2
    go_ret
    exact ⟨by rw [EV.out]; simp, B3.out⟩
/-- whether all is well up to a place -/
def okUp (v : Bool) (f : Nat → Int × Int) : Nat → Bool
  | 0 => v
  | k + 1 => okUp v f k && okF f k
theorem okUp_all (v : Bool) (f : Nat → Int × Int) : okUp v f 7 = (v && allF f) := by
  simp only [okUp, allF, Bool.and_assoc]
/-- what the loads of the last step read -/
abbrev RTx (w2 wx : World) (g b : Nat) (n m : Int) (d : Nat → Int) (x y : Int) : Prop := wx.cell? ⟨g, 0, none⟩ = some (.int .i64 x) ∧ wx.cell? ⟨g, 1, none⟩ = some (.int .i64 y) ∧ wx.cell? ⟨b, 0, none⟩ = some (.int .i64 n) ∧ wx.cell? ⟨b, 1, none⟩ = some (.int .i64 m) ∧ wx.cell? ⟨b, 2, none⟩ = some (.int .i64 (d 0)) ∧ wx.cell? ⟨b, 3, none⟩ = some (.int .i64 (d 1)) ∧ wx.cell? ⟨b, 4, none⟩ = some (.int .i64 (d 2)) ∧ wx.cell? ⟨b, 5, none⟩ = some (.int .i64 (d 3)) ∧ wx.cell? ⟨b, 6, none⟩ = some (.int .i64 (d 4)) ∧ wx.cell? ⟨b, 7, none⟩ = some (.int .i64 (d 5)) ∧ wx.cell? ⟨b, 8, none⟩ = some (.int .i64 (d 6)) ∧ Below w2.heap.size w2 wx
theorem RT.mk {w2 wx : World} {g b t : Nat} {n m : Int} {d : Nat → Int} {x y : Int} (hg : Box2 wx g t x y) (hb : Box9 wx b n m d) (hw : Below w2.heap.size w2 wx) : RTx w2 wx g b n m d x y := by
  obtain ⟨g0, g1⟩ := cells2 hg
  obtain ⟨x0, x1, y0, y1, y2, y3, y4, y5, y6⟩ := cells9 hb
  exact ⟨g0, g1, x0, x1, y0, y1, y2, y3, y4, y5, y6, hw⟩
structure RTb (w2 wx : World) (g b t : Nat) (n m : Int) (d : Nat → Int) (x y : Int) : Prop where
  g : Box2 wx g t x y
  b : Box9 wx b n m d
  w : Below w2.heap.size w2 wx
theorem RTb.keep {w2 wx wy : World} {g b t : Nat} {n m : Int} {d : Nat → Int} {x y : Int} (h : RTb w2 wx g b t n m d x y) (hb : Below wx.heap.size wx wy) : RTb w2 wy g b t n m d x y := ⟨blk_below h.g hb, blk_below h.b hb, keepB hb h.w⟩
theorem RTb.alloc {w2 wx : World} {g b t : Nat} {n m : Int} {d : Nat → Int} {x y : Int} (h : RTb w2 wx g b t n m d x y) (o : Obj) : RTb w2 (wx.alloc o) g b t n m d x y := h.keep (below_alloc (Below.refl _ _) o)
theorem RTb.set {w2 wx : World} {g b t : Nat} {n m : Int} {d : Nat → Int} {x y : Int} (h : RTb w2 wx g b t n m d x y) (h1 : g < w2.heap.size) (h2 : b < w2.heap.size) {q : Nat} (hg : w2.heap.size ≤ q) (i : Nat) (v : Value) : RTb w2 (wx.setCell ⟨q, i, none⟩ v) g b t n m d x y :=
  ⟨blk_far h.g (show g ≠ q by omega) _, blk_far h.b (show b ≠ q by omega) _, h.w.setCell hg _⟩
theorem RTb.x {w2 wx : World} {g b t : Nat} {n m : Int} {d : Nat → Int} {x y : Int} (h : RTb w2 wx g b t n m d x y) : RTx w2 wx g b n m d x y := RT.mk h.g h.b h.w
/-- what the loads of a round read -/
abbrev RFx (w2 wx : World) (g10 b k : Nat) (p q dk : Int) : Prop := wx.cell? ⟨g10, k * 2, none⟩ = some (.int .i64 p) ∧ wx.cell? ⟨g10, k * 2 + 1, none⟩ = some (.int .i64 q) ∧ wx.cell? ⟨b, 2 + k, none⟩ = some (.int .i64 dk) ∧ Below w2.heap.size w2 wx
theorem RF.keep {w2 wx wy : World} {g10 b k : Nat} {p q dk : Int} (h : RFx w2 wx g10 b k p q dk) (hb : Below wx.heap.size wx wy) : RFx w2 wy g10 b k p q dk :=
  ⟨keepC hb h.1, keepC hb h.2.1, keepC hb h.2.2.1, keepB hb h.2.2.2⟩
theorem RF.start {w2 : World} {g10 b k : Nat} {p q dk : Int} (h : RFx w2 w2 g10 b k p q dk) : RFx w2 w2.drew g10 b k p q dk := RF.keep h (below_drew (Below.refl _ _))
theorem RF.call {w2 wx wy : World} {g10 b k : Nat} {p q dk : Int} (h : RFx w2 wx g10 b k p q dk) (hb : Below wx.heap.size wx wy) : RFx w2 wy g10 b k p q dk := RF.keep h hb
theorem RF.set {w2 wx : World} {g10 b k : Nat} {p q dk : Int} (h : RFx w2 wx g10 b k p q dk) (h1 : g10 < w2.heap.size) (h2 : b < w2.heap.size) {g : Nat} (hg : w2.heap.size ≤ g) (i : Nat) (v : Value) : RFx w2 (wx.setCell ⟨g, i, none⟩ v) g10 b k p q dk :=
  ⟨by rw [World.cell?_setCell_far _ _ _ _ (by show g ≠ g10; omega)]; exact h.1, by rw [World.cell?_setCell_far _ _ _ _ (by show g ≠ g10; omega)]; exact h.2.1, by rw [World.cell?_setCell_far _ _ _ _ (by show g ≠ b; omega)]; exact h.2.2.1, h.2.2.2.setCell hg _⟩
theorem RF.alloc {w2 wx : World} {g10 b k : Nat} {p q dk : Int} (h : RFx w2 wx g10 b k p q dk) (o : Obj) : RFx w2 (wx.alloc o) g10 b k p q dk := RF.keep h (below_alloc (Below.refl _ _) o)
set_option maxHeartbeats 8000000 in
set_option maxRecDepth 1000000 in
theorem vinculumref53_Rescale.any (n m : Int) (d : Nat → Int) (f : Nat → Int × Int) (w : World) :
    Calls Tryd.prog 27 #[.agg (val9 n m d), .agg (agg14 f)] w fun e w' => e = .returned (.tuple #[.agg (val9 (resz n m d f).1.1 (resz n m d f).1.2.1 (resz n m d f).1.2.2), .int .i64 (resz n m d f).2]) ∧ Below w.heap.size w w' := by
  have VV := Aside0.mk (fun W => rvalue_any n m d W)
  generalize hvv : okV n m d = v at *
  have HVV := Aside0.mk hvv
  clear hvv
  go_enter Tryd.func27, Tryd.ntmps27
  go_wp2_with fail
  refine (VV.out _).mono ?_
  rintro e w1 ⟨rfl, hb⟩
  have S := Aside0.mk ((St.start w 54 n m d f).below hb)
  have B := Aside0.mk (St.back hb)
  clear hb VV
  go_wp2
  go_loopw [6, 7] (fun s6 s7 wr => ∃ k : Nat, k ≤ 7 ∧ s7 = .int .i64 (k : Int) ∧ s6 = .bool (okUp v f k) ∧ Aside0 (St wr w.heap.size 54 n m d f) ∧ Aside0 (Below w.heap.size w wr)) (fun _ s7 _ => 7 - (intOf s7).toNat)
  case atStart => exact ⟨0, by omega, rfl, rfl, S, B⟩
  case round =>
    clear S B
    obtain ⟨k, hk, rfl, rfl, S, B⟩ := hrel
    have hsz := S.out.lt
    by_cases hlt : k < 7
    · have c14 := cell14 S.out.f hlt
      have VX := Aside0.mk (fun W => rvalid_any (f k).1 (f k).2 W)
      have NX := Aside0.mk (show okUp v f (k + 1) = (okUp v f k && (vz (f k).1 (f k).2 && decide (0 < (f k).1))) from rfl)
      have hk0 : (0 : Int) ≤ ((k : Nat) : Int) := by omega
      have hk7 : ((k : Nat) : Int) < 7 := by omega
      generalize okUp v f k = cur at *
      generalize (f k).1 = p at *
      generalize (f k).2 = q at *
      obtain ⟨c0, c1⟩ := c14
      cases cur with
      | false =>
        go_wp2
        go_roundw
        case rel => exact ⟨k + 1, by omega, by go_num, by rw [NX.out]; rfl, S, B⟩
        case measure => (simp [intOf]) <;> omega
      | true =>
        go_wp2_with fail
        refine (VX.out _).mono ?_
        rintro e w2 ⟨rfl, hb⟩
        have S2 := Aside0.mk (S.out.below hb)
        have B2 := Aside0.mk (keepB hb B.out)
        have c0' := keepC hb c0
        clear hb S B VX c0 c1
        cases hvx : vz p q with
        | false =>
          rw [hvx] at NX
          clear hvx
          go_wp2
          go_roundw
          case rel => exact ⟨k + 1, by omega, by go_num, by rw [NX.out]; rfl, S2, B2⟩
          case measure => (simp [intOf]) <;> omega
        | true =>
          rw [hvx] at NX
          clear hvx
          go_wp2
          go_roundw
          case rel => exact ⟨k + 1, by omega, by go_num, by rw [NX.out]; simp, S2, B2⟩
          case measure => (simp [intOf]) <;> omega
    · have hk7 : ((k : Nat) : Int) = 7 := by omega
      have e7 : k = 7 := by omega
      have EU := Aside0.mk (show okUp v f k = (v && allF f) by rw [e7]; exact okUp_all v f)
      rw [hk7]
      clear hlt hk hk7 e7
      cases hva : (v && allF f) with
      | false =>
        have E := Aside0.mk (show resz n m d f = ((0, 0, zeroD), 1) by unfold resz; rw [HVV.out, hva]; rfl)
        have eu := EU.out
        rw [hva] at eu
        rw [eu]
        clear hva eu EU
        obtain ⟨x0, x1, y0, y1, y2, y3, y4, y5, y6⟩ := cells9 S.out.r
        have f0 := blk_frozen S.out.r 0
        have f1 := blk_frozen S.out.r 1
        have f2 := blk_frozen S.out.r 2
        have f3 := blk_frozen S.out.r 3
        have f4 := blk_frozen S.out.r 4
        have f5 := blk_frozen S.out.r 5
        have f6 := blk_frozen S.out.r 6
        have f7 := blk_frozen S.out.r 7
        have f8 := blk_frozen S.out.r 8
        go_wp2
        exact bodyPost_ret (results_ct (p := 4) (u := 5) rfl _ _ (w.heap.size + 2) 35 (val9 0 0 zeroD) (0, 0) _ rfl (store9 S.out.r 0 0 zeroD) Tryd.underlying35 rfl (by kernel_rfl)) rfl ⟨by rw [E.out]; rfl, (below9 B.out (by omega) 0 0 zeroD)⟩
      | true =>
        have eu := EU.out
        rw [hva] at eu
        rw [eu]
        rw [Bool.and_eq_true] at hva
        have HV := Aside0.mk (show okV n m d = true by rw [HVV.out]; exact hva.1)
        have HA := Aside0.mk hva.2
        have HD := Aside0.mk (show dimB d = true by have h := HVV.out; unfold okV at h; rw [hva.1, Bool.and_eq_true] at h; exact h.2)
        clear hva eu EU HVV
        go_wp2
        have G0 := Aside0.mk (blk_new wr (.cells (rat2 1 1) 53))
        have S0 := Aside0.mk (S.out.below (below_alloc (Below.refl wr.heap.size wr) (.cells (rat2 1 1) 53)))
        have B0 := Aside0.mk (B.out.alloc B.out.size (.cells (rat2 1 1) 53))
        generalize hg : wr.heap.size = g at *
        clear hg S B
        go_loopw [9, 10, 11] (fun s9 _ _ wr2 => ∃ (k : Nat) (q : Int × Int), k ≤ 7 ∧ s9 = .int .i64 (k : Int) ∧ Aside0 (prodz d f k = some q) ∧ Aside0 (Box2 wr2 g 53 q.1 q.2) ∧ Aside0 (St wr2 w.heap.size 54 n m d f) ∧ Aside0 (Below w.heap.size w wr2)) (fun s9 _ _ _ => 7 - (intOf s9).toNat)
        case atStart => exact ⟨0, (1, 1), by omega, rfl, ⟨rfl⟩, G0, S0, B0⟩
        case round =>
          clear G0 S0 B0
          obtain ⟨k, ⟨qn, qd⟩, hk, rfl, HQ, G, S, B⟩ := hrel
          have hsz := S.out.lt
          have hgl : g < wr.heap.size := blk_lt G.out
          by_cases hlt : k < 7
          · have hdr := okD_rng ((dimB_iff d).1 HD.out k hlt)
            have PW := Aside0.mk (fun W => rpow_any (f k).1 (f k).2 (d k) (by unfold i64; omega) W)
            have hk0 : (0 : Int) ≤ ((k : Nat) : Int) := by omega
            have hk7 : ((k : Nat) : Int) < 7 := by omega
            have cd := cell9 S.out.v hlt
            obtain ⟨x0, x1⟩ := cell14 S.out.f hlt
            clear hdr
            generalize hp : (f k).1 = p at *
            generalize hq : (f k).2 = q at *
            generalize hdk : d k = dk at *
            have HPQ := Aside0.mk (And.intro hp (And.intro hq hdk))
            clear hp hq hdk
            go_upto_region 12 with fail
            have SD := Aside0.mk (RF.start ⟨x0, x1, cd, Below.refl _ _⟩)
            generalize hpz : powz p q dk = r at *
            have HR := Aside0.mk hpz
            clear hpz
            have hl10 : w.heap.size + 1 < wr.heap.size := by omega
            have hlb : w.heap.size < wr.heap.size := by omega
            clear cd x0 x1
            go_cut [10, 11] (fun a b wx => b = .int .i64 r.2.2 ∧ ∃ g11 : Nat, a = .pointer (some ⟨g11, 0, none⟩) ∧ Aside0 (Box2 wx g11 53 r.1 r.2.1 ∧ wr.heap.size ≤ g11 ∧ Below wr.heap.size wr wx))
            case first =>
              go_region_held3 (fun wx => wx.cell? ⟨w.heap.size + 1, k * 2, none⟩ = some (.int .i64 p) ∧ wx.cell? ⟨w.heap.size + 1, k * 2 + 1, none⟩ = some (.int .i64 q) ∧ wx.cell? ⟨w.heap.size, 2 + k, none⟩ = some (.int .i64 dk) ∧ Below wr.heap.size wr wx) (first | assumption | exact SD.out | (exact RF.call SD.out (by assumption)) | (exact RF.alloc (RF.call SD.out (by assumption)) _) | (exact RF.alloc SD.out _) | (exact RF.call (RF.alloc SD.out _) (by assumption)) | (exact RF.set (RF.set (RF.call (RF.alloc SD.out _) (by assumption)) hl10 hlb (by simp) _ _) hl10 hlb (by simp) _ _)) ((go_at_call 48; refine (PW.out _).mono ?_; rintro e w5 ⟨rfl, hb5⟩; (try (have z0 : w5.cell? ⟨wr.heap.size, 0, none⟩ = some (.int .i64 0) := box_cell (w := wr.drew) hb5 0 _ rfl; have z1 : w5.cell? ⟨wr.heap.size, 1, none⟩ = some (.int .i64 0) := box_cell (w := wr.drew) hb5 1 _ rfl; have q0 : w5.frozen? ⟨wr.heap.size, 0, none⟩ = false := box_frozen (w := wr.drew) hb5 0; have q1 : w5.frozen? ⟨wr.heap.size, 1, none⟩ = false := box_frozen (w := wr.drew) hb5 1; have HZ := Aside0.mk (box_block (w := wr.drew) hb5)))))
              all_goals (try go_wp2_with fail)
              all_goals go_meet
              all_goals first
                | exact ⟨rfl, _, rfl, ⟨⟨blk_new _ _, (RF.call SD.out hb5).2.2.2.size, (RF.alloc (RF.call SD.out hb5) _).2.2.2⟩⟩⟩
                | exact ⟨rfl, _, rfl, ⟨⟨pow_put HZ.out _ _, Nat.le_refl _, ((RF.call (RF.alloc SD.out _) hb5).2.2.2.setCell (Nat.le_refl _) _).setCell (Nat.le_refl _) _⟩⟩⟩
            case rest =>
              clear SD hl10 hlb PW
              obtain ⟨rfl, g11, rfl, P⟩ := hcut
              have XB := Aside0.mk P.out.1
              have GB := Aside0.mk (blk_below G.out P.out.2.2)
              have SB := Aside0.mk (S.out.below P.out.2.2)
              have BB := Aside0.mk (keepB P.out.2.2 B.out)
              clear P S B G
              by_cases he : r.2.2 = 0
              · have k6 : (r.2.2 != 0) = false := by rw [he]; rfl
                have ML := Aside0.mk (fun W => rmul_any qn qd r.1 r.2.1 W)
                have NXT := Aside0.mk (show ∀ r2, mulz qn qd r.1 r.2.1 = r2 → (r2.2.2 = 0 → prodz d f (k + 1) = some (r2.1, r2.2.1)) ∧ (r2.2.2 ≠ 0 → prodz d f (k + 1) = none) from fun r2 h2 => by
                  have h := HPQ.out
                  have hr := HR.out
                  rw [← h.1, ← h.2.1, ← h.2.2] at hr
                  refine ⟨fun h0 => ?_, fun h0 => ?_⟩
                  · have := prodz_ok HQ.out (by rw [hr]; exact he) (by rw [hr]; rw [h2]; exact h0)
                    rw [hr] at this
                    simp only [h2] at this
                    exact this
                  · exact prodz_mul HQ.out (by rw [hr]; exact he) (by rw [hr]; rw [h2]; exact h0))
                generalize hm : mulz qn qd r.1 r.2.1 = r2 at *
                have N2 := Aside0.mk (NXT.out r2 rfl)
                have gx := (cells2 GB.out).1
                have gy := (cells2 GB.out).2
                have hx := (cells2 XB.out).1
                have hy := (cells2 XB.out).2
                clear he NXT hm
                go_wp2_with fail
                refine (ML.out _).mono ?_
                rintro e w6 ⟨rfl, hb⟩
                have G6 := Aside0.mk (blk_below GB.out hb)
                have S6 := Aside0.mk (SB.out.below hb)
                have B6 := Aside0.mk (keepB hb BB.out)
                have gl : g < w6.heap.size := blk_lt G6.out
                clear hb GB SB BB gx gy hx hy XB ML
                have gx : w6.cell? ⟨g, 0, none⟩ = some (.int .i64 qn) := (blk_cell G6.out 0).trans rfl
                have gy : w6.cell? ⟨g, 1, none⟩ = some (.int .i64 qd) := (blk_cell G6.out 1).trans rfl
                have gf0 := blk_frozen G6.out 0
                have gf1 := blk_frozen G6.out 1
                have hgv : w.heap.size ≠ g := by omega
                have hgf : w.heap.size + 1 ≠ g := by omega
                have hgr : w.heap.size + 2 ≠ g := by omega
                have T6 := Aside0.mk (show St ((w6.setCell ⟨g, 0, none⟩ (.int .i64 r2.1)).setCell ⟨g, 1, none⟩ (.int .i64 r2.2.1)) w.heap.size 54 n m d f from ⟨blk_far (blk_far S6.out.v hgv _) hgv _, blk_far (blk_far S6.out.f hgf _) hgf _, blk_far (blk_far S6.out.r hgr _) hgr _⟩)
                have U6 := Aside0.mk (pow_put G6.out r2.1 r2.2.1)
                have V6 := Aside0.mk ((B6.out.setCell (p := ⟨g, 0, none⟩) (show w.heap.size ≤ g by omega) (.int .i64 r2.1)).setCell (p := ⟨g, 1, none⟩) (show w.heap.size ≤ g by omega) (.int .i64 r2.2.1))
                by_cases h2 : r2.2.2 = 0
                · have k7' : (r2.2.2 != 0) = false := by rw [h2]; rfl
                  have P2 := Aside0.mk (N2.out.1 h2)
                  clear h2 N2
                  go_wp2
                  go_roundw
                  case rel => exact ⟨k + 1, (r2.1, r2.2.1), by omega, by go_num, P2, U6, T6, V6⟩
                  case measure => (simp [intOf]) <;> omega
                · have k7' : (r2.2.2 != 0) = true := by rw [bne_iff_ne]; exact h2
                  have E := Aside0.mk (resz_p (n := n) (m := m) HV.out HA.out (prodz_none (N2.out.2 h2) 7 (by omega)))
                  clear h2 N2
                  generalize hW7 : (w6.setCell ⟨g, 0, none⟩ (.int .i64 r2.1)).setCell ⟨g, 1, none⟩ (.int .i64 r2.2.1) = w7 at T6 V6
                  have W7 := Aside0.mk hW7
                  have e : ∀ (i : Nat) (v : Value), w7.cell? ⟨w.heap.size + 2, i, none⟩ = some v → w6.cell? ⟨w.heap.size + 2, i, none⟩ = some v := fun i v h => by
                    rw [← hW7, World.cell?_setCell_far _ _ _ _ (by show g ≠ w.heap.size + 2; omega), World.cell?_setCell_far _ _ _ _ (by show g ≠ w.heap.size + 2; omega)] at h
                    exact h
                  obtain ⟨x0, x1, y0, y1, y2, y3, y4, y5, y6⟩ := cells9 S6.out.r
                  have f0 := blk_frozen S6.out.r 0
                  have f1 := blk_frozen S6.out.r 1
                  have f2 := blk_frozen S6.out.r 2
                  have f3 := blk_frozen S6.out.r 3
                  have f4 := blk_frozen S6.out.r 4
                  have f5 := blk_frozen S6.out.r 5
                  have f6 := blk_frozen S6.out.r 6
                  have f7 := blk_frozen S6.out.r 7
                  have f8 := blk_frozen S6.out.r 8
                  clear e hW7
                  go_wp2
                  rw [W7.out]
                  exact bodyPost_ret (results_ct (p := 4) (u := 5) rfl _ _ (w.heap.size + 2) 35 (val9 0 0 zeroD) (0, 0) _ rfl (store9 T6.out.r 0 0 zeroD) Tryd.underlying35 rfl (by kernel_rfl)) rfl ⟨by rw [E.out]; rfl, below9 V6.out (by omega) 0 0 zeroD⟩
              · have k6 : (r.2.2 != 0) = true := by rw [bne_iff_ne]; exact he
                have E := Aside0.mk (resz_p (n := n) (m := m) HV.out HA.out (prodz_none (prodz_pow HQ.out (by rw [HPQ.out.1, HPQ.out.2.1, HPQ.out.2.2, HR.out]; exact he)) 7 (by omega)))
                obtain ⟨x0, x1, y0, y1, y2, y3, y4, y5, y6⟩ := cells9 SB.out.r
                have f0 := blk_frozen SB.out.r 0
                have f1 := blk_frozen SB.out.r 1
                have f2 := blk_frozen SB.out.r 2
                have f3 := blk_frozen SB.out.r 3
                have f4 := blk_frozen SB.out.r 4
                have f5 := blk_frozen SB.out.r 5
                have f6 := blk_frozen SB.out.r 6
                have f7 := blk_frozen SB.out.r 7
                have f8 := blk_frozen SB.out.r 8
                clear he
                go_wp2
                exact bodyPost_ret (results_ct (p := 4) (u := 5) rfl _ _ (w.heap.size + 2) 35 (val9 0 0 zeroD) (0, 0) _ rfl (store9 SB.out.r 0 0 zeroD) Tryd.underlying35 rfl (by kernel_rfl)) rfl ⟨by rw [E.out]; rfl, (below9 BB.out (by omega) 0 0 zeroD)⟩
          · have hk7 : ((k : Nat) : Int) = 7 := by omega
            obtain rfl : k = 7 := by omega
            have NM := Aside0.mk (fun W => number_any n m d W)
            have DV := Aside0.mk (fun W => rdiv_any n m qn qd W)
            have MV := Aside0.mk (fun a b W => makev_any a b d W)
            have R1 := Aside0.mk (resz_d (n := n) (m := m) HV.out HA.out HQ.out)
            have R2 := Aside0.mk (resz_ok (n := n) (m := m) HV.out HA.out HQ.out)
            simp only [] at R1 R2
            generalize divz n m qn qd = r at *
            clear hlt hk hk7 HQ
            go_upto_region 18 with fail
            have SD := Aside0.mk (RTb.keep (w2 := wr) (wx := wr) (g := g) (b := w.heap.size) (t := 53) (n := n) (m := m) (d := d) (x := qn) (y := qd) ⟨G.out, S.out.v, Below.refl _ _⟩ (below_drew (Below.refl wr.heap.size wr)))
            have SX := Aside0.mk SD.out.x
            have hlb : w.heap.size < wr.heap.size := by omega
            go_cut [12, 13] (fun a b wx => b = .int .i64 r.2.2 ∧ ∃ g12 : Nat, a = .pointer (some ⟨g12, 0, none⟩) ∧ Aside0 (Box2 wx g12 53 r.1 r.2.1 ∧ wr.heap.size ≤ g12 ∧ Below wr.heap.size wr wx))
            case first =>
              go_region_held3 (fun wx => wx.cell? ⟨g, 0, none⟩ = some (.int .i64 qn) ∧ wx.cell? ⟨g, 1, none⟩ = some (.int .i64 qd) ∧ wx.cell? ⟨w.heap.size, 0, none⟩ = some (.int .i64 n) ∧ wx.cell? ⟨w.heap.size, 1, none⟩ = some (.int .i64 m) ∧ wx.cell? ⟨w.heap.size, 2, none⟩ = some (.int .i64 (d 0)) ∧ wx.cell? ⟨w.heap.size, 3, none⟩ = some (.int .i64 (d 1)) ∧ wx.cell? ⟨w.heap.size, 4, none⟩ = some (.int .i64 (d 2)) ∧ wx.cell? ⟨w.heap.size, 5, none⟩ = some (.int .i64 (d 3)) ∧ wx.cell? ⟨w.heap.size, 6, none⟩ = some (.int .i64 (d 4)) ∧ wx.cell? ⟨w.heap.size, 7, none⟩ = some (.int .i64 (d 5)) ∧ wx.cell? ⟨w.heap.size, 8, none⟩ = some (.int .i64 (d 6)) ∧ Below wr.heap.size wr wx)
                (first | assumption | exact SX.out | (exact (RTb.keep SD.out (by assumption)).x) | (exact (RTb.alloc SD.out _).x) | (exact (RTb.keep (RTb.keep SD.out (by assumption)) (by assumption)).x) | (exact (RTb.alloc (RTb.keep (RTb.keep SD.out (by assumption)) (by assumption)) _).x) | (exact (RTb.alloc (RTb.keep SD.out (by assumption)) _).x) | (exact (RTb.keep (RTb.alloc (RTb.keep SD.out (by assumption)) _) (by assumption)).x) | (exact (RTb.keep (RTb.alloc SD.out _) (by assumption)).x) | (exact (RTb.keep (RTb.keep (RTb.alloc SD.out _) (by assumption)) (by assumption)).x) | (exact (RTb.set (RTb.set (RTb.keep (RTb.keep (RTb.alloc SD.out _) (by assumption)) (by assumption)) hgl hlb (by simp) _ _) hgl hlb (by simp) _ _).x) | (exact (RTb.set (RTb.set (RTb.keep (RTb.alloc (RTb.keep SD.out (by assumption)) _) (by assumption)) hgl hlb (by have h := (RTb.keep SD.out hb5).w.size; first | exact h | (simp; omega)) _ _) hgl hlb (by have h := (RTb.keep SD.out hb5).w.size; first | exact h | (simp; omega)) _ _).x))
                (first | (go_at_call 51; refine (NM.out _).mono ?_; rintro e w5 ⟨rfl, hb5⟩; (try (have HZ := Aside0.mk (box_block (w := wr.drew) hb5)))) | (go_at_call 50; refine (DV.out _).mono ?_; rintro e w6 ⟨rfl, hb6⟩; (first | (have HY := Aside0.mk (blk_below HZ.out hb6); have z0 : w6.cell? ⟨wr.heap.size, 0, none⟩ = some (.int .i64 0) := (blk_cell HY.out 0).trans rfl; have z1 : w6.cell? ⟨wr.heap.size, 1, none⟩ = some (.int .i64 0) := (blk_cell HY.out 1).trans rfl; have q0 : w6.frozen? ⟨wr.heap.size, 0, none⟩ = false := blk_frozen HY.out 0; have q1 : w6.frozen? ⟨wr.heap.size, 1, none⟩ = false := blk_frozen HY.out 1) | (have HY := Aside0.mk (box_block (w := w5) hb6); have z0 : w6.cell? ⟨w5.heap.size, 0, none⟩ = some (.int .i64 0) := (blk_cell HY.out 0).trans rfl; have z1 : w6.cell? ⟨w5.heap.size, 1, none⟩ = some (.int .i64 0) := (blk_cell HY.out 1).trans rfl; have q0 : w6.frozen? ⟨w5.heap.size, 0, none⟩ = false := blk_frozen HY.out 0; have q1 : w6.frozen? ⟨w5.heap.size, 1, none⟩ = false := blk_frozen HY.out 1) | skip)))
              all_goals (try go_wp2_with fail)
              all_goals go_meet
              all_goals first
                | exact ⟨rfl, _, rfl, ⟨⟨blk_new _ _, (RTb.keep (RTb.keep SD.out hb5) hb6).w.size, (RTb.alloc (RTb.keep (RTb.keep SD.out hb5) hb6) _).w⟩⟩⟩
                | exact ⟨rfl, _, rfl, ⟨⟨pow_put HY.out _ _, Nat.le_refl _, ((RTb.keep (RTb.keep (RTb.alloc SD.out _) hb5) hb6).w.setCell (Nat.le_refl _) _).setCell (Nat.le_refl _) _⟩⟩⟩
                | exact ⟨rfl, _, rfl, ⟨⟨pow_put HY.out _ _, (RTb.keep SD.out hb5).w.size, ((RTb.keep (RTb.alloc (RTb.keep SD.out hb5) _) hb6).w.setCell (RTb.keep SD.out hb5).w.size _).setCell (RTb.keep SD.out hb5).w.size _⟩⟩⟩
            case rest =>
              clear SD SX NM DV
              obtain ⟨rfl, g12, rfl, P⟩ := hcut
              have XB := Aside0.mk P.out.1
              have SB := Aside0.mk (S.out.below P.out.2.2)
              have BB := Aside0.mk (keepB P.out.2.2 B.out)
              clear P S B G
              by_cases hr : r.2.2 = 0
              · have k6 : (r.2.2 != 0) = false := by rw [hr]; rfl
                have E := Aside0.mk (R2.out hr)
                clear hr R1 R2
                have gx := (cells2 XB.out).1
                have gy := (cells2 XB.out).2
                obtain ⟨v0, v1, u0, u1, u2, u3, u4, u5', u6⟩ := cells9 SB.out.v
                go_wp2_with fail
                refine (MV.out _ _ _).mono ?_
                rintro e w7 ⟨rfl, hb⟩
                have S7 := Aside0.mk (SB.out.below hb)
                have B7 := Aside0.mk (keepB hb BB.out)
                clear hb SB BB XB gx gy v0 v1 u0 u1 u2 u3 u4 u5' u6 MV
                obtain ⟨x0, x1, y0, y1, y2, y3, y4, y5, y6⟩ := cells9 S7.out.r
                have f0 := blk_frozen S7.out.r 0
                have f1 := blk_frozen S7.out.r 1
                have f2 := blk_frozen S7.out.r 2
                have f3 := blk_frozen S7.out.r 3
                have f4 := blk_frozen S7.out.r 4
                have f5 := blk_frozen S7.out.r 5
                have f6 := blk_frozen S7.out.r 6
                have f7 := blk_frozen S7.out.r 7
                have f8 := blk_frozen S7.out.r 8
                go_wp2
                exact bodyPost_ret (results_ct (p := 4) (u := 5) rfl _ _ (w.heap.size + 2) 35 (val9 r.1 r.2.1 d) (0, 0) _ rfl (store9 S7.out.r r.1 r.2.1 d) Tryd.underlying35 rfl (by kernel_rfl)) rfl ⟨by rw [E.out]; rfl, (below9 B7.out (by omega) r.1 r.2.1 d)⟩
              · have k6 : (r.2.2 != 0) = true := by rw [bne_iff_ne]; exact hr
                have E := Aside0.mk (R1.out hr)
                clear hr R1 R2
                obtain ⟨x0, x1, y0, y1, y2, y3, y4, y5, y6⟩ := cells9 SB.out.r
                have f0 := blk_frozen SB.out.r 0
                have f1 := blk_frozen SB.out.r 1
                have f2 := blk_frozen SB.out.r 2
                have f3 := blk_frozen SB.out.r 3
                have f4 := blk_frozen SB.out.r 4
                have f5 := blk_frozen SB.out.r 5
                have f6 := blk_frozen SB.out.r 6
                have f7 := blk_frozen SB.out.r 7
                have f8 := blk_frozen SB.out.r 8
                go_wp2
                exact bodyPost_ret (results_ct (p := 4) (u := 5) rfl _ _ (w.heap.size + 2) 35 (val9 0 0 zeroD) (0, 0) _ rfl (store9 SB.out.r 0 0 zeroD) Tryd.underlying35 rfl (by kernel_rfl)) rfl ⟨by rw [E.out]; rfl, (below9 BB.out (by omega) 0 0 zeroD)⟩
end Go.Proofs.YtjnheoelcahkaaaDoor.Rat
