/-
  rational.Pow, whatever its arguments.
-/
import Derived.Test.YtjnheoelcahkaaaDoorUnPow
set_option linter.unusedVariables false
set_option linter.unusedSimpArgs false
namespace Go.Proofs.YtjnheoelcahkaaaDoor.Rat
open Go.RowKit Go.Proofs.YtjnheoelcahkaaaDoorW.PrintWords Go.Proofs.YtjnheoelcahkaaaDoorW.PrintLast Go.Proofs.YtjnheoelcahkaaaDoorW.PrintMore Go.Proofs.YtjnheoelcahkaaaDoor.Gv
open Go.Proofs.YtjnheoelcahkaaaDoor.R
abbrev PowSaid (a b n : Int) (w : World) : Prop :=
  Calls Tryd.prog 44 #[.agg (rat2 a b), .int .i64 n] w fun e w' => e = .returned (.tuple #[.agg (rat2 (powz a b n).1 (powz a b n).2.1), .int .i64 (powz a b n).2.2]) ∧ Below w.heap.size w w'
def unitz (a b n : Int) : Int × Int := if a < 0 then (if Int.tmod n 2 = 0 then (1, 1) else (a, b)) else (a, b)
theorem unit_any (a b n : Int) (w : World) : Calls Tryd.prog 67 #[.agg (rat2 a b), .int .i64 n] w fun e w' => e = .returned (.agg (rat2 (unitz a b n).1 (unitz a b n).2)) ∧ Below w.heap.size w w' :=
  rational_unit.calls a b n _ _ w (by unfold rational_unit.f unitz; split <;> (try split) <;> rfl)
theorem zero_den {a b : Int} (h : vz a b = true) (ha : a = 0) : b = 1 := by
  rw [vz_iff] at h
  subst ha
  have := h.2.2.2.2
  simp at this
  omega
theorem powz_unit {a b n : Int} (h : vz a b = true) (hn : n ≠ 0) (h0 : ¬ (a = 0 ∧ n < 0)) (h11 : b = 1 ∧ -1 ≤ a ∧ a ≤ 1) : powz a b n = ((unitz a b n).1, (unitz a b n).2, 0) := by
  obtain ⟨hb, h1, h2⟩ := h11
  subst hb
  unfold powz unitz
  rw [if_pos h, if_neg hn]
  by_cases ha : a = 0
  · subst ha; rw [if_pos rfl, if_neg (fun c => h0 ⟨rfl, c⟩), if_neg (by decide)]
  · rw [if_neg ha]
    by_cases hp : a = 1
    · subst hp; rw [if_pos ⟨rfl, rfl⟩, if_neg (by decide)]
    · have hm : a = -1 := by omega
      subst hm
      rw [if_neg (by decide), if_pos ⟨rfl, rfl⟩, if_pos (show (-1 : Int) < 0 by decide)]
      by_cases c : Int.tmod n 2 = 0
      · rw [if_pos c, if_pos c]
      · rw [if_neg c, if_neg c]
set_option maxHeartbeats 4000000 in
set_option maxRecDepth 1000000 in
theorem pow_any (a b n : Int) (w : World) : PowSaid a b n w := by
  have VA := Aside0.mk (fun W => valid_any a b W)
  have start : ∀ (w1 : World), Below ((w.alloc (.cells (rat2 a b) 51)).alloc (.cells (rat2 0 0) 51)).heap.size ((w.alloc (.cells (rat2 a b) 51)).alloc (.cells (rat2 0 0) 51)) w1 → Box2 w1 w.heap.size 51 a b ∧ Box2 w1 (w.heap.size + 1) 51 0 0 ∧ Below w.heap.size w w1 := fun w1 hb =>
    ⟨blk_below (blk_alloc (blk_new _ _) _) hb, by have h := blk_below (blk_new (w.alloc (.cells (rat2 a b) 51)) (.cells (rat2 0 0) 51)) hb; simpa using h, box_below (box_below hb)⟩
  have ST := Aside0.mk start
  clear start
  cases hv : vz a b with
  | false =>
    have e : powz a b n = (0, 0, 1) := by unfold powz; rw [hv]; rfl
    rw [hv] at VA
    have E := Aside0.mk e
    clear e hv
    unfold PowSaid
    go_enter Tryd.func44, Tryd.ntmps44
    go_wp2_with fail
    refine (VA.out _).mono ?_
    rintro e w1 ⟨rfl, hb⟩
    obtain ⟨X1, Y1, B1⟩ := ST.out w1 hb
    have Y := Aside0.mk Y1
    have B := Aside0.mk B1
    clear hb X1 ST
    have y0 : w1.cell? ⟨w.heap.size + 1, 0, none⟩ = some (.int .i64 0) := (blk_cell Y1 0).trans rfl
    have y1 : w1.cell? ⟨w.heap.size + 1, 1, none⟩ = some (.int .i64 0) := (blk_cell Y1 1).trans rfl
    have yf0 := blk_frozen Y1 0
    have yf1 := blk_frozen Y1 1
    clear Y1 B1
    go_wp2
    exact bodyPost_ret (results_ct (p := 4) (u := 5) rfl _ _ (w.heap.size + 1) 51 (rat2 0 0) (0, 0) _ rfl (pow_put Y.out _ _) Tryd.underlying51 rfl (by kernel_rfl)) rfl ⟨by rw [E.out]; rfl, (B.out.setCell (show w.heap.size ≤ w.heap.size + 1 by omega) _).setCell (show w.heap.size ≤ w.heap.size + 1 by omega) _⟩
  | true =>
    by_cases hn : n = 0
    · have e : powz a b n = (1, 1, 0) := by unfold powz; rw [if_pos hv, if_pos hn]
      rw [hv] at VA
      have E := Aside0.mk e
      have k1 : (n == 0) = true := beq_iff_eq.2 hn
      clear e hv hn
      unfold PowSaid
      go_enter Tryd.func44, Tryd.ntmps44
      go_wp2_with fail
      refine (VA.out _).mono ?_
      rintro e w1 ⟨rfl, hb⟩
      obtain ⟨X1, Y1, B1⟩ := ST.out w1 hb
      have Y := Aside0.mk Y1
      have B := Aside0.mk B1
      clear hb X1 ST
      have y0 : w1.cell? ⟨w.heap.size + 1, 0, none⟩ = some (.int .i64 0) := (blk_cell Y1 0).trans rfl
      have y1 : w1.cell? ⟨w.heap.size + 1, 1, none⟩ = some (.int .i64 0) := (blk_cell Y1 1).trans rfl
      have yf0 := blk_frozen Y1 0
      have yf1 := blk_frozen Y1 1
      clear Y1 B1
      go_wp2
      exact bodyPost_ret (results_ct (p := 4) (u := 5) rfl _ _ (w.heap.size + 1) 51 (rat2 1 1) (0, 0) _ rfl (pow_put Y.out _ _) Tryd.underlying51 rfl (by kernel_rfl)) rfl ⟨by rw [E.out]; rfl, (B.out.setCell (show w.heap.size ≤ w.heap.size + 1 by omega) _).setCell (show w.heap.size ≤ w.heap.size + 1 by omega) _⟩
    · have k1 : (n == 0) = false := beq_eq_false_iff_ne.2 hn
      by_cases h0 : a = 0 ∧ n < 0
      · have e : powz a b n = (0, 0, 10) := by unfold powz; rw [if_pos hv, if_neg hn, if_pos h0.1, if_pos h0.2]
        rw [hv] at VA
        have E := Aside0.mk e
        have k2 : (a == 0) = true := beq_iff_eq.2 h0.1
        have k3 : decide (n < 0) = true := decide_eq_true h0.2
        clear e hv hn h0
        unfold PowSaid
        go_enter Tryd.func44, Tryd.ntmps44
        go_wp2_with fail
        refine (VA.out _).mono ?_
        rintro e w1 ⟨rfl, hb⟩
        obtain ⟨X1, Y1, B1⟩ := ST.out w1 hb
        have Y := Aside0.mk Y1
        have B := Aside0.mk B1
        have x0 : w1.cell? ⟨w.heap.size, 0, none⟩ = some (.int .i64 a) := (blk_cell X1 0).trans rfl
        clear hb X1 ST
        have y0 : w1.cell? ⟨w.heap.size + 1, 0, none⟩ = some (.int .i64 0) := (blk_cell Y1 0).trans rfl
        have y1 : w1.cell? ⟨w.heap.size + 1, 1, none⟩ = some (.int .i64 0) := (blk_cell Y1 1).trans rfl
        have yf0 := blk_frozen Y1 0
        have yf1 := blk_frozen Y1 1
        clear Y1 B1
        go_wp2
        exact bodyPost_ret (results_ct (p := 4) (u := 5) rfl _ _ (w.heap.size + 1) 51 (rat2 0 0) (0, 0) _ rfl (pow_put Y.out _ _) Tryd.underlying51 rfl (by kernel_rfl)) rfl ⟨by rw [E.out]; rfl, (B.out.setCell (show w.heap.size ≤ w.heap.size + 1 by omega) _).setCell (show w.heap.size ≤ w.heap.size + 1 by omega) _⟩
      · have K2 : (a == 0) = false ∨ ((a == 0) = true ∧ decide (n < 0) = false) := by
          by_cases ha : a = 0
          · exact .inr ⟨beq_iff_eq.2 ha, decide_eq_false (fun c => h0 ⟨ha, c⟩)⟩
          · exact .inl (beq_eq_false_iff_ne.2 ha)
        by_cases h11 : b = 1 ∧ -1 ≤ a ∧ a ≤ 1
        · have e := powz_unit hv hn h0 h11
          have UN := Aside0.mk (fun W => unit_any a b n W)
          have E := Aside0.mk e
          have k5 : (b == 1) = true := beq_iff_eq.2 h11.1
          have k6 : decide (-1 ≤ a) = true := decide_eq_true h11.2.1
          have k7 : decide (a ≤ 1) = true := decide_eq_true h11.2.2
          rw [hv] at VA
          generalize unitz a b n = r at *
          clear e hv hn h0 h11
          unfold PowSaid
          rcases K2 with k2 | ⟨k2, k3⟩
          all_goals
            go_enter Tryd.func44, Tryd.ntmps44
            go_wp2_with fail
            refine (VA.out _).mono ?_
            rintro e w1 ⟨rfl, hb⟩
            obtain ⟨X1, Y1, B1⟩ := ST.out w1 hb
            have Y := Aside0.mk Y1
            have B := Aside0.mk B1
            have x0 : w1.cell? ⟨w.heap.size, 0, none⟩ = some (.int .i64 a) := (blk_cell X1 0).trans rfl
            have x1 : w1.cell? ⟨w.heap.size, 1, none⟩ = some (.int .i64 b) := (blk_cell X1 1).trans rfl
            clear hb X1 ST Y1 B1
            go_wp2_with fail
            refine (UN.out _).mono ?_
            rintro e w2 ⟨rfl, hb⟩
            have Y2 := Aside0.mk (blk_below Y.out hb)
            have B2 := Aside0.mk (keepB hb B.out)
            clear hb Y B UN VA x0 x1
            have y0 : w2.cell? ⟨w.heap.size + 1, 0, none⟩ = some (.int .i64 0) := (blk_cell Y2.out 0).trans rfl
            have y1 : w2.cell? ⟨w.heap.size + 1, 1, none⟩ = some (.int .i64 0) := (blk_cell Y2.out 1).trans rfl
            have yf0 := blk_frozen Y2.out 0
            have yf1 := blk_frozen Y2.out 1
            go_wp2
            exact bodyPost_ret (results_ct (p := 4) (u := 5) rfl _ _ (w.heap.size + 1) 51 (rat2 r.1 r.2) (0, 0) _ rfl (pow_put Y2.out _ _) Tryd.underlying51 rfl (by kernel_rfl)) rfl ⟨by rw [E.out]; rfl, (B2.out.setCell (show w.heap.size ≤ w.heap.size + 1 by omega) _).setCell (show w.heap.size ≤ w.heap.size + 1 by omega) _⟩
        · have ha : a ≠ 0 := fun ha => h11 ⟨zero_den hv ha, by omega, by omega⟩
          by_cases hbig : n < -31 ∨ 31 < n
          · have e : powz a b n = (0, 0, 2) := by
              unfold powz
              rw [if_pos hv, if_neg hn, if_neg ha, if_neg (by omega), if_neg (by omega), if_pos hbig]
            have E := Aside0.mk e
            have k2 : (a == 0) = false := beq_eq_false_iff_ne.2 ha
            have KG : (b == 1) = false ∨ ((b == 1) = true ∧ decide (-1 ≤ a) = false) ∨ ((b == 1) = true ∧ decide (-1 ≤ a) = true ∧ decide (a ≤ 1) = false) := by
              by_cases hb1 : b = 1
              · right
                have k5 : (b == 1) = true := beq_iff_eq.2 hb1
                by_cases h6 : -1 ≤ a
                · exact .inr ⟨k5, decide_eq_true h6, decide_eq_false (fun h7 => h11 ⟨hb1, h6, h7⟩)⟩
                · exact .inl ⟨k5, decide_eq_false h6⟩
              · exact .inl (beq_eq_false_iff_ne.2 hb1)
            have KN : decide (31 < n) = true ∨ (decide (31 < n) = false ∧ decide (n < -31) = true) := by
              by_cases h : 31 < n
              · exact .inl (decide_eq_true h)
              · exact .inr ⟨decide_eq_false h, decide_eq_true (by omega)⟩
            rw [hv] at VA
            clear e hv hn h0 h11 ha hbig K2
            unfold PowSaid
            rcases KG with k5 | ⟨k5, k6⟩ | ⟨k5, k6, k7⟩
            all_goals rcases KN with k8 | ⟨k8, k9⟩
            all_goals
              go_enter Tryd.func44, Tryd.ntmps44
              go_wp2_with fail
              refine (VA.out _).mono ?_
              rintro e w1 ⟨rfl, hb⟩
              obtain ⟨X1, Y1, B1⟩ := ST.out w1 hb
              have Y := Aside0.mk Y1
              have B := Aside0.mk B1
              have x0 : w1.cell? ⟨w.heap.size, 0, none⟩ = some (.int .i64 a) := (blk_cell X1 0).trans rfl
              have x1 : w1.cell? ⟨w.heap.size, 1, none⟩ = some (.int .i64 b) := (blk_cell X1 1).trans rfl
              have y0 : w1.cell? ⟨w.heap.size + 1, 0, none⟩ = some (.int .i64 0) := (blk_cell Y1 0).trans rfl
              have y1 : w1.cell? ⟨w.heap.size + 1, 1, none⟩ = some (.int .i64 0) := (blk_cell Y1 1).trans rfl
              have yf0 := blk_frozen Y1 0
              have yf1 := blk_frozen Y1 1
              clear hb X1 ST Y1 B1
              go_wp2
              exact bodyPost_ret (results_ct (p := 4) (u := 5) rfl _ _ (w.heap.size + 1) 51 (rat2 0 0) (0, 0) _ rfl (pow_put Y.out _ _) Tryd.underlying51 rfl (by kernel_rfl)) rfl ⟨by rw [E.out]; rfl, (B.out.setCell (show w.heap.size ≤ w.heap.size + 1 by omega) _).setCell (show w.heap.size ≤ w.heap.size + 1 by omega) _⟩
          · exact pow_loop a b n n.natAbs w hv ha h11 rfl (by omega) (by omega)
end Go.Proofs.YtjnheoelcahkaaaDoor.Rat
