/-
  unit.Rescale.
-/
import Derived.Test.YtjnheoelcahkaaaDoorUnResc
import Derived.Deep.DeepCutAuto
set_option linter.unusedVariables false
set_option linter.unusedSimpArgs false
namespace Go.Proofs.YtjnheoelcahkaaaDoor.Rat
open Go.RowKit Go.Proofs.YtjnheoelcahkaaaDoorW.PrintWords Go.Proofs.YtjnheoelcahkaaaDoorW.PrintLast Go.Proofs.YtjnheoelcahkaaaDoorW.PrintMore Go.Proofs.YtjnheoelcahkaaaDoor.Gv
open Go.Proofs.YtjnheoelcahkaaaDoor.R
theorem cells2 {w : World} {g t : Nat} {a b : Int} (h : Box2 w g t a b) : w.cell? ⟨g, 0, none⟩ = some (.int .i64 a) ∧ w.cell? ⟨g, 1, none⟩ = some (.int .i64 b) := ⟨(blk_cell h 0).trans rfl, (blk_cell h 1).trans rfl⟩
theorem okF_of {f : Nat → Int × Int} {k : Nat} {b c : Bool} (hv : vz (f k).1 (f k).2 = b) (hc : decide (0 < (f k).1) = c) : okF f k = (b && c) := by unfold okF; rw [hv, hc]
theorem allF_no {f : Nat → Int × Int} {k : Nat} (hk : k < 7) (h : okF f k = false) : allF f = false := by
  cases hc : allF f with
  | false => rfl
  | true => rw [(allF_iff f).1 hc k hk] at h; cases h
/-- what the loads of a round read -/
structure RSp (w2 wx : World) (g10 b k : Nat) (p q dk : Int) : Prop where
  x : wx.cell? ⟨g10, 0, none⟩ = some (.int .i64 p) ∧ wx.cell? ⟨g10, 1, none⟩ = some (.int .i64 q) ∧ wx.cell? ⟨b, 2 + k, none⟩ = some (.int .i64 dk) ∧ Below w2.heap.size w2 wx
abbrev RSx (w2 wx : World) (g10 b k : Nat) (p q dk : Int) : Prop := wx.cell? ⟨g10, 0, none⟩ = some (.int .i64 p) ∧ wx.cell? ⟨g10, 1, none⟩ = some (.int .i64 q) ∧ wx.cell? ⟨b, 2 + k, none⟩ = some (.int .i64 dk) ∧ Below w2.heap.size w2 wx
theorem RS.keep {w2 wx wy : World} {g10 b k : Nat} {p q dk : Int} (h : RSx w2 wx g10 b k p q dk) (hb : Below wx.heap.size wx wy) : RSx w2 wy g10 b k p q dk :=
  ⟨keepC hb h.1, keepC hb h.2.1, keepC hb h.2.2.1, keepB hb h.2.2.2⟩
theorem RS.start {w2 : World} {g10 b k : Nat} {p q dk : Int} (h : RSx w2 w2 g10 b k p q dk) : RSx w2 w2.drew g10 b k p q dk := RS.keep h (below_drew (Below.refl _ _))
theorem RS.call {w2 wx wy : World} {g10 b k : Nat} {p q dk : Int} (h : RSx w2 wx g10 b k p q dk) (hb : Below wx.heap.size wx wy) : RSx w2 wy g10 b k p q dk := RS.keep h hb
theorem RS.set {w2 wx : World} {g10 b k : Nat} {p q dk : Int} (h : RSx w2 wx g10 b k p q dk) (h1 : g10 < w2.heap.size) (h2 : b < w2.heap.size) {g : Nat} (hg : w2.heap.size ≤ g) (i : Nat) (v : Value) : RSx w2 (wx.setCell ⟨g, i, none⟩ v) g10 b k p q dk :=
  ⟨by rw [World.cell?_setCell_far _ _ _ _ (by show g ≠ g10; omega)]; exact h.1, by rw [World.cell?_setCell_far _ _ _ _ (by show g ≠ g10; omega)]; exact h.2.1, by rw [World.cell?_setCell_far _ _ _ _ (by show g ≠ b; omega)]; exact h.2.2.1, h.2.2.2.setCell hg _⟩
theorem RS.alloc {w2 wx : World} {g10 b k : Nat} {p q dk : Int} (h : RSx w2 wx g10 b k p q dk) (o : Obj) : RSx w2 (wx.alloc o) g10 b k p q dk := RS.keep h (below_alloc (Below.refl _ _) o)
set_option maxHeartbeats 8000000 in
set_option maxRecDepth 1000000 in
theorem unit_Rescale.any (n m : Int) (d : Nat → Int) (f : Nat → Int × Int) (w : World) :
    Calls Tryd.prog 26 #[.agg (val9 n m d), .agg (agg14 f)] w fun e w' => e = .returned (.tuple #[.agg (val9 (resz n m d f).1.1 (resz n m d f).1.2.1 (resz n m d f).1.2.2), .int .i64 (resz n m d f).2]) ∧ Below w.heap.size w w' := by
  have VV := Aside0.mk (fun W => value_any n m d W)
  cases hv : okV n m d with
  | false =>
    have E := Aside0.mk (resz_v (f := f) hv)
    rw [hv] at VV
    clear hv
    go_enter Tryd.func26, Tryd.ntmps26
    go_wp2_with fail
    refine (VV.out _).mono ?_
    rintro e w1 ⟨rfl, hb⟩
    have S := Aside0.mk ((St.start w 52 n m d f).below hb)
    have B := Aside0.mk (St.back hb)
    clear hb VV
    obtain ⟨x0, x1, y0, y1, y2, y3, y4, y5, y6⟩ := cells9 S.out.r
    have f0 := blk_frozen S.out.r 0
    have f1 := blk_frozen S.out.r 1
    have f2 := blk_frozen S.out.r 2
    have f3 := blk_frozen S.out.r 3
    have f4 := blk_frozen S.out.r 4
    have f5 := blk_frozen S.out.r 5
    have f6 := blk_frozen S.out.r 6
    have f7 := blk_frozen S.out.r 7
    have f8 := blk_frozen S.out.r 8
    go_wp2
    exact bodyPost_ret (results_ct (p := 4) (u := 5) rfl _ _ (w.heap.size + 2) 35 (val9 0 0 zeroD) (0, 0) _ rfl (store9 S.out.r 0 0 zeroD) Tryd.underlying35 rfl (by kernel_rfl)) rfl ⟨by rw [E.out]; rfl, below9 B.out (by omega) 0 0 zeroD⟩
  | true =>
    rw [hv] at VV
    have HV := Aside0.mk hv
    clear hv
    go_enter Tryd.func26, Tryd.ntmps26
    go_wp2_with fail
    refine (VV.out _).mono ?_
    rintro e w1 ⟨rfl, hb⟩
    have S := Aside0.mk ((St.start w 52 n m d f).below hb)
    have B := Aside0.mk (St.back hb)
    clear hb VV
    obtain ⟨⟨z0, z1, z2, z3, z4, z5, z6⟩, ⟨z7, z8, z9, z10, z11, z12, z13⟩⟩ := cells14 S.out.f
    go_wp2
    go_loopw [7, 20] (fun _ s20 wr => ∃ k : Nat, k ≤ 7 ∧ s20 = .int .i64 (k : Int) ∧ Aside0 (∀ j, j < k → okF f j = true) ∧ Aside0 (St wr w.heap.size 52 n m d f) ∧ Aside0 (Below w.heap.size w wr)) (fun _ s20 _ => 7 - (intOf s20).toNat)
    case atStart => exact ⟨0, by omega, rfl, ⟨fun j h => by omega⟩, S, B⟩
    case round =>
      clear S B z0 z1 z2 z3 z4 z5 z6 z7 z8 z9 z10 z11 z12 z13
      obtain ⟨k, hk, rfl, HO, S, B⟩ := hrel
      have hsz := S.out.lt
      by_cases hlt : k < 7
      · have hix := fun W => index14 f hlt W
        have VX := Aside0.mk (fun W => valid_any (f k).1 (f k).2 W)
        have OF := Aside0.mk (fun b c => okF_of (f := f) (k := k) (b := b) (c := c))
        have HK := Aside0.mk hlt
        have hk0 : (0 : Int) ≤ ((k : Nat) : Int) := by omega
        have hk7 : ((k : Nat) : Int) < 7 := by omega
        generalize hp : (f k).1 = p at *
        generalize hq : (f k).2 = q at *
        clear hlt hp hq
        go_wp2_with fail
        refine (VX.out _).mono ?_
        rintro e w2 ⟨rfl, hb⟩
        have S2 := Aside0.mk (S.out.below (box_below hb))
        have B2 := Aside0.mk (keepB (box_below hb) B.out)
        have x7 : w2.cell? ⟨wr.heap.size, 0, none⟩ = some (.int .i64 p) := box_cell hb 0 _ rfl
        clear hb S B VX
        cases hvx : vz p q with
        | false =>
          have E := Aside0.mk (resz_f (n := n) (m := m) (d := d) (allF_no HK.out (OF.out false _ hvx rfl)))
          clear hvx OF
          obtain ⟨x0, x1, y0, y1, y2, y3, y4, y5, y6⟩ := cells9 S2.out.r
          have f0 := blk_frozen S2.out.r 0
          have f1 := blk_frozen S2.out.r 1
          have f2 := blk_frozen S2.out.r 2
          have f3 := blk_frozen S2.out.r 3
          have f4 := blk_frozen S2.out.r 4
          have f5 := blk_frozen S2.out.r 5
          have f6 := blk_frozen S2.out.r 6
          have f7 := blk_frozen S2.out.r 7
          have f8 := blk_frozen S2.out.r 8
          go_wp2
          exact bodyPost_ret (results_ct (p := 4) (u := 5) rfl _ _ (w.heap.size + 2) 35 (val9 0 0 zeroD) (0, 0) _ rfl (store9 S2.out.r 0 0 zeroD) Tryd.underlying35 rfl (by kernel_rfl)) rfl ⟨by rw [E.out]; rfl, below9 B2.out (by omega) 0 0 zeroD⟩
        | true =>
          by_cases hpos : 0 < p
          · have k5 : decide (p ≤ 0) = false := decide_eq_false (by omega)
            have OK := Aside0.mk (OF.out true true hvx (decide_eq_true hpos))
            clear hvx OF hpos
            go_wp2
            go_roundw
            case rel => exact ⟨k + 1, by omega, by go_num, ⟨fun j hj => by
              by_cases e : j = k
              · rw [e]; exact OK.out
              · exact HO.out j (by omega)⟩, S2, B2⟩
            case measure => (simp [intOf]) <;> omega
          · have k5 : decide (p ≤ 0) = true := decide_eq_true (by omega)
            have E := Aside0.mk (resz_f (n := n) (m := m) (d := d) (allF_no HK.out (OF.out true false hvx (decide_eq_false hpos))))
            clear hvx OF hpos
            obtain ⟨x0, x1, y0, y1, y2, y3, y4, y5, y6⟩ := cells9 S2.out.r
            have f0 := blk_frozen S2.out.r 0
            have f1 := blk_frozen S2.out.r 1
            have f2 := blk_frozen S2.out.r 2
            have f3 := blk_frozen S2.out.r 3
            have f4 := blk_frozen S2.out.r 4
            have f5 := blk_frozen S2.out.r 5
            have f6 := blk_frozen S2.out.r 6
            have f7 := blk_frozen S2.out.r 7
            have f8 := blk_frozen S2.out.r 8
            go_wp2
            exact bodyPost_ret (results_ct (p := 4) (u := 5) rfl _ _ (w.heap.size + 2) 35 (val9 0 0 zeroD) (0, 0) _ rfl (store9 S2.out.r 0 0 zeroD) Tryd.underlying35 rfl (by kernel_rfl)) rfl ⟨by rw [E.out]; rfl, below9 B2.out (by omega) 0 0 zeroD⟩
      · have hall : allF f = true := (allF_iff f).2 (fun j hj => HO.out j (by omega))
        have hk7 : ((k : Nat) : Int) = 7 := by omega
        have HA := Aside0.mk hall
        rw [hk7]
        clear hall HO hlt hk hk7
        obtain ⟨⟨z0, z1, z2, z3, z4, z5, z6⟩, ⟨z7, z8, z9, z10, z11, z12, z13⟩⟩ := cells14 S.out.f
        have hyl : w.heap.size + 1 < wr.heap.size := by omega
        go_wp2
        have G0 := Aside0.mk (blk_new wr (.cells (rat2 1 1) 51))
        have S0 := Aside0.mk (S.out.below (below_alloc (Below.refl wr.heap.size wr) (.cells (rat2 1 1) 51)))
        have B0 := Aside0.mk (B.out.alloc B.out.size (.cells (rat2 1 1) 51))
        generalize hg : wr.heap.size = g at *
        clear z0 z1 z2 z3 z4 z5 z6 z7 z8 z9 z10 z11 z12 z13 hyl hg S B
        go_loopw [9, 10, 11, 12, 35] (fun _ _ _ _ s35 wr2 => ∃ (k : Nat) (q : Int × Int), k ≤ 7 ∧ s35 = .int .i64 (k : Int) ∧ Aside0 (prodz d f k = some q) ∧ Aside0 (Box2 wr2 g 51 q.1 q.2) ∧ Aside0 (St wr2 w.heap.size 52 n m d f) ∧ Aside0 (Below w.heap.size w wr2)) (fun _ _ _ _ s35 _ => 7 - (intOf s35).toNat)
        case atStart => exact ⟨0, (1, 1), by omega, rfl, ⟨rfl⟩, G0, S0, B0⟩
        case round =>
          clear G0 S0 B0
          obtain ⟨k, ⟨qn, qd⟩, hk, rfl, HQ, G, S, B⟩ := hrel
          have hsz := S.out.lt
          have hgl : g < wr.heap.size := blk_lt G.out
          by_cases hlt : k < 7
          · have hix := fun W => index14 f hlt W
            have pw := fun W => pow_any (f k).1 (f k).2 (d k) W
            unfold PowSaid at pw
            have PW := Aside0.mk pw
            clear pw
            have hk0 : (0 : Int) ≤ ((k : Nat) : Int) := by omega
            have hk7 : ((k : Nat) : Int) < 7 := by omega
            have cd := cell9 S.out.v hlt
            generalize hp : (f k).1 = p at *
            generalize hq : (f k).2 = q at *
            generalize hdk : d k = dk at *
            have HPQ := Aside0.mk (And.intro hp (And.intro hq hdk))
            clear hp hq hdk
            go_upto_region 13 with fail
            generalize hW : World.alloc wr _ = w2
            have X2 := Aside0.mk (show Box2 w2 wr.heap.size 51 p q by rw [← hW]; exact blk_new _ _)
            have G2 := Aside0.mk (show Box2 w2 g 51 qn qd by rw [← hW]; exact blk_alloc G.out _)
            have BW2 := Aside0.mk (show Below wr.heap.size wr w2 by rw [← hW]; exact below_alloc (Below.refl _ _) _)
            have cd2 := keepC BW2.out cd
            have x0 : w2.cell? ⟨wr.heap.size, 0, none⟩ = some (.int .i64 p) := (blk_cell X2.out 0).trans rfl
            have x1 : w2.cell? ⟨wr.heap.size, 1, none⟩ = some (.int .i64 q) := (blk_cell X2.out 1).trans rfl
            have SD := Aside0.mk (RS.start ⟨x0, x1, cd2, Below.refl _ _⟩)
            generalize hpz : powz p q dk = r at *
            have HR := Aside0.mk hpz
            clear hpz
            have hl10 : wr.heap.size < w2.heap.size := blk_lt X2.out
            have hlb : w.heap.size < w2.heap.size := World.block_lt_of_cell? w2 _ cd2
            clear hW cd hix x0 x1 cd2
            go_cut [11, 12] (fun a b wx => b = .int .i64 r.2.2 ∧ ∃ g11 : Nat, a = .pointer (some ⟨g11, 0, none⟩) ∧ Aside0 (Box2 wx g11 51 r.1 r.2.1 ∧ w2.heap.size ≤ g11 ∧ Below w2.heap.size w2 wx))
            case first =>
              go_region_held3 (fun wx => wx.cell? ⟨wr.heap.size, 0, none⟩ = some (.int .i64 p) ∧ wx.cell? ⟨wr.heap.size, 1, none⟩ = some (.int .i64 q) ∧ wx.cell? ⟨w.heap.size, 2 + k, none⟩ = some (.int .i64 dk) ∧ Below w2.heap.size w2 wx) (first | assumption | exact SD.out | (exact RS.call SD.out (by assumption)) | (exact RS.alloc (RS.call SD.out (by assumption)) _) | (exact RS.alloc SD.out _) | (exact RS.call (RS.alloc SD.out _) (by assumption)) | (exact RS.set (RS.set (RS.call (RS.alloc SD.out _) (by assumption)) hl10 hlb (by simp) _ _) hl10 hlb (by simp) _ _)) ((go_at_call 44; refine (PW.out _).mono ?_; rintro e w5 ⟨rfl, hb5⟩; (try (have z0 : w5.cell? ⟨w2.heap.size, 0, none⟩ = some (.int .i64 0) := box_cell (w := w2.drew) hb5 0 _ rfl; have z1 : w5.cell? ⟨w2.heap.size, 1, none⟩ = some (.int .i64 0) := box_cell (w := w2.drew) hb5 1 _ rfl; have q0 : w5.frozen? ⟨w2.heap.size, 0, none⟩ = false := box_frozen (w := w2.drew) hb5 0; have q1 : w5.frozen? ⟨w2.heap.size, 1, none⟩ = false := box_frozen (w := w2.drew) hb5 1; have HZ := Aside0.mk (box_block (w := w2.drew) hb5)))))
              all_goals (try go_wp2_with fail)
              all_goals go_meet
              all_goals first
                | exact ⟨rfl, _, rfl, ⟨⟨blk_new _ _, (RS.call SD.out hb5).2.2.2.size, (RS.alloc (RS.call SD.out hb5) _).2.2.2⟩⟩⟩
                | exact ⟨rfl, _, rfl, ⟨⟨pow_put HZ.out _ _, Nat.le_refl _, ((RS.call (RS.alloc SD.out _) hb5).2.2.2.setCell (Nat.le_refl _) _).setCell (Nat.le_refl _) _⟩⟩⟩
            case rest =>
              clear X2 SD hl10 hlb PW
              obtain ⟨rfl, g11, rfl, P⟩ := hcut
              have XB := Aside0.mk P.out.1
              have GB := Aside0.mk (blk_below G2.out P.out.2.2)
              have SB := Aside0.mk ((S.out.below BW2.out).below P.out.2.2)
              have BB := Aside0.mk (keepB P.out.2.2 (keepB BW2.out B.out))
              clear P G2 BW2 S B G
              by_cases he : r.2.2 = 0
              · have k6 : (r.2.2 != 0) = false := by rw [he]; rfl
                have ML := Aside0.mk (fun W => mul_any qn qd r.1 r.2.1 W)
                have NXT := Aside0.mk (show ∀ r2, mulz qn qd r.1 r.2.1 = r2 → (r2.2.2 = 0 → prodz d f (k + 1) = some (r2.1, r2.2.1)) ∧ (r2.2.2 ≠ 0 → prodz d f (k + 1) = none) from fun r2 h2 => by
                  have h := HPQ.out
                  have hr := HR.out
                  rw [← h.1, ← h.2.1, ← h.2.2] at hr
                  refine ⟨fun h0 => ?_, fun h0 => ?_⟩
                  · have := prodz_ok HQ.out (by rw [hr]; exact he) (by rw [hr]; rw [h2]; exact h0)
                    rw [hr] at this
                    simp only [h2] at this
                    exact this
                  · exact prodz_mul HQ.out (by rw [hr]; exact he) (by rw [hr]; rw [h2]; exact h0))
                generalize hm : mulz qn qd r.1 r.2.1 = r2 at *
                have N2 := Aside0.mk (NXT.out r2 rfl)
                have gx := (cells2 GB.out).1
                have gy := (cells2 GB.out).2
                have hx := (cells2 XB.out).1
                have hy := (cells2 XB.out).2
                clear he NXT hm
                go_wp2_with fail
                refine (ML.out _).mono ?_
                rintro e w6 ⟨rfl, hb⟩
                have G6 := Aside0.mk (blk_below GB.out hb)
                have S6 := Aside0.mk (SB.out.below hb)
                have B6 := Aside0.mk (keepB hb BB.out)
                have gl : g < w6.heap.size := blk_lt G6.out
                clear hb GB SB BB gx gy hx hy XB ML
                have gx : w6.cell? ⟨g, 0, none⟩ = some (.int .i64 qn) := (blk_cell G6.out 0).trans rfl
                have gy : w6.cell? ⟨g, 1, none⟩ = some (.int .i64 qd) := (blk_cell G6.out 1).trans rfl
                have gf0 := blk_frozen G6.out 0
                have gf1 := blk_frozen G6.out 1
                have hgv : w.heap.size ≠ g := by omega
                have hgf : w.heap.size + 1 ≠ g := by omega
                have hgr : w.heap.size + 2 ≠ g := by omega
                have T6 := Aside0.mk (show St ((w6.setCell ⟨g, 0, none⟩ (.int .i64 r2.1)).setCell ⟨g, 1, none⟩ (.int .i64 r2.2.1)) w.heap.size 52 n m d f from ⟨blk_far (blk_far S6.out.v hgv _) hgv _, blk_far (blk_far S6.out.f hgf _) hgf _, blk_far (blk_far S6.out.r hgr _) hgr _⟩)
                have U6 := Aside0.mk (pow_put G6.out r2.1 r2.2.1)
                have V6 := Aside0.mk ((B6.out.setCell (p := ⟨g, 0, none⟩) (show w.heap.size ≤ g by omega) (.int .i64 r2.1)).setCell (p := ⟨g, 1, none⟩) (show w.heap.size ≤ g by omega) (.int .i64 r2.2.1))
                by_cases h2 : r2.2.2 = 0
                · have k7' : (r2.2.2 != 0) = false := by rw [h2]; rfl
                  have P2 := Aside0.mk (N2.out.1 h2)
                  clear h2 N2
                  go_wp2
                  go_roundw
                  case rel => exact ⟨k + 1, (r2.1, r2.2.1), by omega, by go_num, P2, U6, T6, V6⟩
                  case measure => (simp [intOf]) <;> omega
                · have k7' : (r2.2.2 != 0) = true := by rw [bne_iff_ne]; exact h2
                  have E := Aside0.mk (resz_p (n := n) (m := m) HV.out HA.out (prodz_none (N2.out.2 h2) 7 (by omega)))
                  clear h2 N2
                  generalize hW7 : (w6.setCell ⟨g, 0, none⟩ (.int .i64 r2.1)).setCell ⟨g, 1, none⟩ (.int .i64 r2.2.1) = w7 at T6 V6
                  have W7 := Aside0.mk hW7
                  have e : ∀ (i : Nat) (v : Value), w7.cell? ⟨w.heap.size + 2, i, none⟩ = some v → w6.cell? ⟨w.heap.size + 2, i, none⟩ = some v := fun i v h => by
                    rw [← hW7, World.cell?_setCell_far _ _ _ _ (by show g ≠ w.heap.size + 2; omega), World.cell?_setCell_far _ _ _ _ (by show g ≠ w.heap.size + 2; omega)] at h
                    exact h
                  obtain ⟨x0, x1, y0, y1, y2, y3, y4, y5, y6⟩ := cells9 S6.out.r
                  have f0 := blk_frozen S6.out.r 0
                  have f1 := blk_frozen S6.out.r 1
                  have f2 := blk_frozen S6.out.r 2
                  have f3 := blk_frozen S6.out.r 3
                  have f4 := blk_frozen S6.out.r 4
                  have f5 := blk_frozen S6.out.r 5
                  have f6 := blk_frozen S6.out.r 6
                  have f7 := blk_frozen S6.out.r 7
                  have f8 := blk_frozen S6.out.r 8
                  clear e hW7
                  go_wp2
                  rw [W7.out]
                  exact bodyPost_ret (results_ct (p := 4) (u := 5) rfl _ _ (w.heap.size + 2) 35 (val9 0 0 zeroD) (0, 0) _ rfl (store9 T6.out.r 0 0 zeroD) Tryd.underlying35 rfl (by kernel_rfl)) rfl ⟨by rw [E.out]; rfl, below9 V6.out (by omega) 0 0 zeroD⟩
              · have k6 : (r.2.2 != 0) = true := by rw [bne_iff_ne]; exact he
                have E := Aside0.mk (resz_p (n := n) (m := m) HV.out HA.out (prodz_none (prodz_pow HQ.out (by rw [HPQ.out.1, HPQ.out.2.1, HPQ.out.2.2, HR.out]; exact he)) 7 (by omega)))
                obtain ⟨x0, x1, y0, y1, y2, y3, y4, y5, y6⟩ := cells9 SB.out.r
                have f0 := blk_frozen SB.out.r 0
                have f1 := blk_frozen SB.out.r 1
                have f2 := blk_frozen SB.out.r 2
                have f3 := blk_frozen SB.out.r 3
                have f4 := blk_frozen SB.out.r 4
                have f5 := blk_frozen SB.out.r 5
                have f6 := blk_frozen SB.out.r 6
                have f7 := blk_frozen SB.out.r 7
                have f8 := blk_frozen SB.out.r 8
                clear he
                go_wp2
                exact bodyPost_ret (results_ct (p := 4) (u := 5) rfl _ _ (w.heap.size + 2) 35 (val9 0 0 zeroD) (0, 0) _ rfl (store9 SB.out.r 0 0 zeroD) Tryd.underlying35 rfl (by kernel_rfl)) rfl ⟨by rw [E.out]; rfl, below9 BB.out (by omega) 0 0 zeroD⟩
          · have hk7 : ((k : Nat) : Int) = 7 := by omega
            obtain rfl : k = 7 := by omega
            have DV := Aside0.mk (fun W => div_any n m qn qd W)
            have R1 := Aside0.mk (resz_d (n := n) (m := m) HV.out HA.out HQ.out)
            have R2 := Aside0.mk (resz_ok (n := n) (m := m) HV.out HA.out HQ.out)
            simp only [] at R1 R2
            generalize divz n m qn qd = r at *
            clear hlt hk hk7 HQ
            obtain ⟨x0, x1, y0, y1, y2, y3, y4, y5, y6⟩ := cells9 S.out.v
            have gx : wr.cell? ⟨g, 0, none⟩ = some (.int .i64 qn) := (blk_cell G.out 0).trans rfl
            have gy : wr.cell? ⟨g, 1, none⟩ = some (.int .i64 qd) := (blk_cell G.out 1).trans rfl
            go_wp2_with fail
            refine (DV.out _).mono ?_
            rintro e w6 ⟨rfl, hb⟩
            have S6 := Aside0.mk (S.out.below hb)
            have B6 := Aside0.mk (keepB hb B.out)
            clear hb S B G gx gy x0 x1 y0 y1 y2 y3 y4 y5 y6 DV
            have hl6 : w.heap.size + 2 < w6.heap.size := S6.out.lt
            obtain ⟨x0, x1, y0, y1, y2, y3, y4, y5, y6⟩ := cells9 S6.out.r
            obtain ⟨v0, v1, u0, u1, u2, u3, u4, u5', u6⟩ := cells9 S6.out.v
            have f0 := blk_frozen S6.out.r 0
            have f1 := blk_frozen S6.out.r 1
            have f2 := blk_frozen S6.out.r 2
            have f3 := blk_frozen S6.out.r 3
            have f4 := blk_frozen S6.out.r 4
            have f5 := blk_frozen S6.out.r 5
            have f6 := blk_frozen S6.out.r 6
            have f7 := blk_frozen S6.out.r 7
            have f8 := blk_frozen S6.out.r 8
            have hn2 : ¬ w.heap.size + 2 = w6.heap.size := by omega
            have hn2' : ¬ w6.heap.size = w.heap.size + 2 := by omega
            have hn0 : w.heap.size < w6.heap.size := by omega
            by_cases hr : r.2.2 = 0
            · have k6 : (r.2.2 != 0) = false := by rw [hr]; rfl
              have E := Aside0.mk (R2.out hr)
              clear hr R1 R2
              go_wp2
              exact bodyPost_ret (results_ct (p := 4) (u := 5) rfl _ _ (w.heap.size + 2) 35 (val9 r.1 r.2.1 d) (0, 0) _ rfl (blk_alloc (store9 S6.out.r r.1 r.2.1 d) _) Tryd.underlying35 rfl (by kernel_rfl)) rfl ⟨by rw [E.out]; rfl, (below9 B6.out (by omega) r.1 r.2.1 d).alloc (by have := B6.out.size; simpa using this) _⟩
            · have k6 : (r.2.2 != 0) = true := by rw [bne_iff_ne]; exact hr
              have E := Aside0.mk (R1.out hr)
              clear hr R1 R2
              go_wp2
              exact bodyPost_ret (results_ct (p := 4) (u := 5) rfl _ _ (w.heap.size + 2) 35 (val9 0 0 zeroD) (0, 0) _ rfl (blk_alloc (store9 S6.out.r 0 0 zeroD) _) Tryd.underlying35 rfl (by kernel_rfl)) rfl ⟨by rw [E.out]; rfl, (below9 B6.out (by omega) 0 0 zeroD).alloc (by have := B6.out.size; simpa using this) _⟩
end Go.Proofs.YtjnheoelcahkaaaDoor.Rat
