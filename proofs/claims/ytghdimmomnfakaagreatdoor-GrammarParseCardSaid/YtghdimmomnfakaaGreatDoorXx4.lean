-- Written by xprint.py, a program of this session, by way of the kit's print.py. Lean checks it.
import Derived.Test.YtghdimmomnfakaaGreatDoorXx0
import Derived.Test.YtghdimmomnfakaaGreatDoorXx3
namespace Go.Proofs.YtghdimmomnfakaaGreatDoor.X
open Go.Proofs.YtghdimmomnfakaaGreatDoor.Gv
open Go.RowKit Go.Proofs.YtghdimmomnfakaaGreatDoorW.PrintWords Go.Proofs.YtghdimmomnfakaaGreatDoorW.PrintLast Go.Proofs.YtghdimmomnfakaaGreatDoorW.PrintMore
attribute [local go_sem] max2_int min2_int max_two min_two max_three min_three max_four min_four   -- for this text's walks alone
set_option linter.unusedVariables false
set_option linter.unusedSimpArgs false

/-! ### vinculumref49_Proper: function 33 -/
def vinculumref49_Proper.j0 : Nat → Bool → Int → ByteArray → ByteArray → Int → Int → Int → Option (Bool)
  | 0, _, _, _, _, _, _, _ => none
  | k + 1, x24, x135000, x135001, x135002, x135003, x135004, x135005 => if x24 = true then (some false) else (if x135000 = 1 then ((vinculumref09_Symbol.f k x135001).bind fun t139 => (some t139)) else (if x135000 = 2 then ((vinculumref09_Symbol.f k x135001).bind fun t140 => (if t140 = true then (some (x135004 == 0)) else (some false))) else (if x135000 = 3 then ((vinculumref09_Symbol.f k x135001).bind fun t141 => (if t141 = true then (some (x135005 == 0)) else (some false))) else (if x135000 = 4 then (some (x135001.toList == ([] : List UInt8))) else (some false)))))
def vinculumref49_Proper.f (k : Nat) (a0_0 : Int) (a0_1 : ByteArray) (a0_2 : ByteArray) (a0_3 : Int) (a0_4 : Int) (a0_5 : Int) : Option (Bool) := (vinculumref48_Letters.f k a0_2).bind fun t135 => (if t135 = true then ((vinculumref49_within.f a0_3 1 100).bind fun t136 => (if t136 = true then ((vinculumref49_within.f a0_4 0 101).bind fun t137 => (if t137 = true then ((vinculumref49_within.f a0_5 0 101).bind fun t138 => (vinculumref49_Proper.j0 k (!t138) a0_0 a0_1 a0_2 a0_3 a0_4 a0_5)) else (vinculumref49_Proper.j0 k true a0_0 a0_1 a0_2 a0_3 a0_4 a0_5))) else (vinculumref49_Proper.j0 k true a0_0 a0_1 a0_2 a0_3 a0_4 a0_5))) else (vinculumref49_Proper.j0 k true a0_0 a0_1 a0_2 a0_3 a0_4 a0_5))
theorem vinculumref49_Proper.mono_l : ∀ k, (∀ y0 y1 y2 y3 y4 y5 y6, LeO (vinculumref49_Proper.j0 k y0 y1 y2 y3 y4 y5 y6) (vinculumref49_Proper.j0 (k + 1) y0 y1 y2 y3 y4 y5 y6))
  | 0 => fun _ _ _ _ _ _ _ r h => by simp [vinculumref49_Proper.j0] at h
  | k + 1 => by
    have ih0 := vinculumref49_Proper.mono_l k
    · intro y0 y1 y2 y3 y4 y5 y6
      unfold vinculumref49_Proper.j0
      repeat' first
      | (with_reducible exact ih0 _ _ _ _ _ _ _)
      | (with_reducible exact vinculumref09_Symbol.mono _ _)
      | (with_reducible exact vinculumref48_Letters.mono _ _)
      | (with_reducible exact LeO.refl _)
      | (with_reducible exact LeO.none _)
      | (with_reducible refine LeO.ite ?_ ?_)
      | (with_reducible refine LeO.bind ?_ (fun _ => ?_))
      | exact ih0 _ _ _ _ _ _ _
      | exact vinculumref09_Symbol.mono _ _
      | exact vinculumref48_Letters.mono _ _
      | exact LeO.none _
      | refine LeO.ite ?_ ?_
      | refine LeO.bind ?_ (fun _ => ?_)
theorem vinculumref49_Proper.mono : ∀ a0 a1 a2 a3 a4 a5 k, LeO (vinculumref49_Proper.f k a0 a1 a2 a3 a4 a5) (vinculumref49_Proper.f (k + 1) a0 a1 a2 a3 a4 a5) := by
  intro a0 a1 a2 a3 a4 a5 k
  have ih0 := vinculumref49_Proper.mono_l k
  unfold vinculumref49_Proper.f
  repeat' first
      | (with_reducible exact ih0 _ _ _ _ _ _ _)
      | (with_reducible exact vinculumref09_Symbol.mono _ _)
      | (with_reducible exact vinculumref48_Letters.mono _ _)
      | (with_reducible exact LeO.refl _)
      | (with_reducible exact LeO.none _)
      | (with_reducible refine LeO.ite ?_ ?_)
      | (with_reducible refine LeO.bind ?_ (fun _ => ?_))
      | exact ih0 _ _ _ _ _ _ _
      | exact vinculumref09_Symbol.mono _ _
      | exact vinculumref48_Letters.mono _ _
      | exact LeO.none _
      | refine LeO.ite ?_ ?_
      | refine LeO.bind ?_ (fun _ => ?_)
set_option maxHeartbeats 8000000 in
set_option maxRecDepth 100000 in
theorem vinculumref49_Proper.calls (k : Nat) (a0_0 : Int) (a0_1 : ByteArray) (a0_2 : ByteArray) (a0_3 : Int) (a0_4 : Int) (a0_5 : Int) (r : Bool) (w : World) (h : vinculumref49_Proper.f k a0_0 a0_1 a0_2 a0_3 a0_4 a0_5 = some r) :
    Calls Tryz.prog 33 #[.agg #[.int .i64 a0_0, .string a0_1, .string a0_2, .int .i64 a0_3, .int .i64 a0_4, .int .i64 a0_5]] w fun e w' => e = .returned (.bool r) ∧ Below w.heap.size w w' := by
  have hu31 := Tryz.underlying31
  have HB := Aside0.mk (Below.refl w.heap.size w)
  have H : ((vinculumref48_Letters.f k a0_2).bind fun t135 => (if t135 = true then ((vinculumref49_within.f a0_3 1 100).bind fun t136 => (if t136 = true then ((vinculumref49_within.f a0_4 0 101).bind fun t137 => (if t137 = true then ((vinculumref49_within.f a0_5 0 101).bind fun t138 => (vinculumref49_Proper.j0 k (!t138) a0_0 a0_1 a0_2 a0_3 a0_4 a0_5)) else (vinculumref49_Proper.j0 k true a0_0 a0_1 a0_2 a0_3 a0_4 a0_5))) else (vinculumref49_Proper.j0 k true a0_0 a0_1 a0_2 a0_3 a0_4 a0_5))) else (vinculumref49_Proper.j0 k true a0_0 a0_1 a0_2 a0_3 a0_4 a0_5))) = some r := h
  clear h
  have HC2 := Aside0.mk H
  clear H
  go_enter Tryz.func33, Tryz.ntmps33
  go_upto_region 1 with (first | ((with_reducible refine gate_dst (N := 1) rfl ?_); refine box_event ?hg (N := 1) ?hd (cs := #[.int .i64 a0_0, .string a0_1, .string a0_2, .int .i64 a0_3, .int .i64 a0_4, .int .i64 a0_5]) (t := 31) ?hr ?_; (case hd => rfl); (case hg => rfl); (case hr => first | (go_simp; done) | (go_simp; rfl)); intro gb134 hg w3 hbox hb; have n0_ := Aside0.mk (below_step (by repeat (first | (with_reducible first | exact HB.out | apply below_alloc | apply pw_below_drewN | apply below_drew1) | exact HB.out)) hb); have n1_ := Aside0.mk (hbox); have n2_ := Aside0.mk ((by rw [hg]; exact (below_size (by repeat (first | (with_reducible first | exact HB.out | apply below_alloc | apply pw_below_drewN | apply below_drew1) | exact HB.out))) : w.heap.size ≤ gb134)); have n3_ := Aside0.mk ((by rw [hg]; exact (below_size (by repeat (first | (with_reducible first | exact HB.out | apply below_alloc | apply pw_below_drewN | apply below_drew1) | exact HB.out))) : w.heap.size ≤ gb134)); clear HB; have HB := n0_; have BK134 := n1_; have GW134 := n2_; have GE134 := n3_; clear n0_ n1_ n2_ n3_; clear hb hbox hg))
  (try simp only [Act.put, List.setIfInBounds_toArray, List.set_cons_zero, List.set_cons_succ])
  go_cut [24] (fun v24 wc => ∃ (kq : Nat) (x24_1 : Bool), v24 = .bool x24_1 ∧ Aside0 (vinculumref49_Proper.j0 kq x24_1 a0_0 a0_1 a0_2 a0_3 a0_4 a0_5 = some r) ∧ Aside0 (kq ≤ k) ∧ Aside0 (wc.heap[gb134]? = some (.cells #[.int .i64 a0_0, .string a0_1, .string a0_2, .int .i64 a0_3, .int .i64 a0_4, .int .i64 a0_5] 31 (0, 0))) ∧ Aside0 (Below w.heap.size w wc))
  case first =>
    have H := HC2.out
    clear HC2
    replace H := Option.bind_eq_some_iff.mp H
    obtain ⟨t135, A40, H⟩ := H
    replace H : (if t135 = true then ((vinculumref49_within.f a0_3 1 100).bind fun t136 => (if t136 = true then ((vinculumref49_within.f a0_4 0 101).bind fun t137 => (if t137 = true then ((vinculumref49_within.f a0_5 0 101).bind fun t138 => (vinculumref49_Proper.j0 k (!t138) a0_0 a0_1 a0_2 a0_3 a0_4 a0_5)) else (vinculumref49_Proper.j0 k true a0_0 a0_1 a0_2 a0_3 a0_4 a0_5))) else (vinculumref49_Proper.j0 k true a0_0 a0_1 a0_2 a0_3 a0_4 a0_5))) else (vinculumref49_Proper.j0 k true a0_0 a0_1 a0_2 a0_3 a0_4 a0_5)) = some r := H
    have A4 := Aside0.mk A40
    clear A40
    by_cases c5 : t135 = true
    · subst c5
      have H1 : ((vinculumref49_within.f a0_3 1 100).bind fun t136 => (if t136 = true then ((vinculumref49_within.f a0_4 0 101).bind fun t137 => (if t137 = true then ((vinculumref49_within.f a0_5 0 101).bind fun t138 => (vinculumref49_Proper.j0 k (!t138) a0_0 a0_1 a0_2 a0_3 a0_4 a0_5)) else (vinculumref49_Proper.j0 k true a0_0 a0_1 a0_2 a0_3 a0_4 a0_5))) else (vinculumref49_Proper.j0 k true a0_0 a0_1 a0_2 a0_3 a0_4 a0_5))) = some r := by rw [if_pos rfl] at H; exact H
      clear H
      have H := H1
      clear H1
      replace H := Option.bind_eq_some_iff.mp H
      obtain ⟨t136, A60, H⟩ := H
      replace H : (if t136 = true then ((vinculumref49_within.f a0_4 0 101).bind fun t137 => (if t137 = true then ((vinculumref49_within.f a0_5 0 101).bind fun t138 => (vinculumref49_Proper.j0 k (!t138) a0_0 a0_1 a0_2 a0_3 a0_4 a0_5)) else (vinculumref49_Proper.j0 k true a0_0 a0_1 a0_2 a0_3 a0_4 a0_5))) else (vinculumref49_Proper.j0 k true a0_0 a0_1 a0_2 a0_3 a0_4 a0_5)) = some r := H
      have A6 := Aside0.mk A60
      clear A60
      by_cases c7 : t136 = true
      · subst c7
        have H1 : ((vinculumref49_within.f a0_4 0 101).bind fun t137 => (if t137 = true then ((vinculumref49_within.f a0_5 0 101).bind fun t138 => (vinculumref49_Proper.j0 k (!t138) a0_0 a0_1 a0_2 a0_3 a0_4 a0_5)) else (vinculumref49_Proper.j0 k true a0_0 a0_1 a0_2 a0_3 a0_4 a0_5))) = some r := by rw [if_pos rfl] at H; exact H
        clear H
        have H := H1
        clear H1
        replace H := Option.bind_eq_some_iff.mp H
        obtain ⟨t137, A80, H⟩ := H
        replace H : (if t137 = true then ((vinculumref49_within.f a0_5 0 101).bind fun t138 => (vinculumref49_Proper.j0 k (!t138) a0_0 a0_1 a0_2 a0_3 a0_4 a0_5)) else (vinculumref49_Proper.j0 k true a0_0 a0_1 a0_2 a0_3 a0_4 a0_5)) = some r := H
        have A8 := Aside0.mk A80
        clear A80
        by_cases c9 : t137 = true
        · subst c9
          have H1 : ((vinculumref49_within.f a0_5 0 101).bind fun t138 => (vinculumref49_Proper.j0 k (!t138) a0_0 a0_1 a0_2 a0_3 a0_4 a0_5)) = some r := by rw [if_pos rfl] at H; exact H
          clear H
          have H := H1
          clear H1
          replace H := Option.bind_eq_some_iff.mp H
          obtain ⟨t138, A100, H⟩ := H
          replace H : (vinculumref49_Proper.j0 k (!t138) a0_0 a0_1 a0_2 a0_3 a0_4 a0_5) = some r := H
          have A10 := Aside0.mk A100
          clear A100
          have H' := Aside0.mk H
          clear H
          have hcz11_0 : w3.cell? ⟨gb134, 0, none⟩ = some (.int .i64 a0_0) := (blk_cell BK134.out 0).trans rfl
          have hcz11_1 : w3.cell? ⟨gb134, 1, none⟩ = some (.string a0_1) := (blk_cell BK134.out 1).trans rfl
          have hcz11_2 : w3.cell? ⟨gb134, 2, none⟩ = some (.string a0_2) := (blk_cell BK134.out 2).trans rfl
          have hcz11_3 : w3.cell? ⟨gb134, 3, none⟩ = some (.int .i64 a0_3) := (blk_cell BK134.out 3).trans rfl
          have hcz11_4 : w3.cell? ⟨gb134, 4, none⟩ = some (.int .i64 a0_4) := (blk_cell BK134.out 4).trans rfl
          have hcz11_5 : w3.cell? ⟨gb134, 5, none⟩ = some (.int .i64 a0_5) := (blk_cell BK134.out 5).trans rfl
          have hfz11_0 := blk_frozen BK134.out 0
          have hfz11_1 := blk_frozen BK134.out 1
          have hfz11_2 := blk_frozen BK134.out 2
          have hfz11_3 := blk_frozen BK134.out 3
          have hfz11_4 := blk_frozen BK134.out 4
          have hfz11_5 := blk_frozen BK134.out 5
          go_wp2_with (first | ((with_reducible refine gate_callee (f := 43) rfl ?_); refine goesL_ (some 5) rfl rfl Tryz.func43 (by kernel_rfl) rfl #[.string a0_2] rfl (by (try simp only [List.map_toArray, List.map_cons, List.map_nil]); first | done | rfl | (simp only [List.length_drop, List.length_take]; rfl)) ?_; (with_reducible refine (vinculumref48_Letters.calls k a0_2 true _ A4.out).mono ?_); rintro e w' ⟨rfl, ⟨nd, rfl⟩⟩; refine ⟨_, rfl, ?_⟩) | (go_at_call 44; (with_reducible refine (vinculumref49_within.calls a0_3 1 100 true _ A6.out).mono ?_); rintro e w' ⟨rfl, ⟨nd, rfl⟩⟩) | (go_at_call 44; (with_reducible refine (vinculumref49_within.calls a0_4 0 101 true _ A8.out).mono ?_); rintro e w' ⟨rfl, ⟨nd, rfl⟩⟩) | (go_at_call 44; (with_reducible refine (vinculumref49_within.calls a0_5 0 101 t138 _ A10.out).mono ?_); rintro e w' ⟨rfl, ⟨nd, rfl⟩⟩))
          go_meet
          case rel => exact ⟨_, (!t138), (by first | rfl | (simp; done) | (simp [*]; done)), H', ⟨by first | omega | exact Nat.le_refl _⟩, ⟨by (with_reducible repeat (first | refine blk_drewN ?_ _ | refine blk_drew ?_ | refine blk_alloc ?_ _)); exact BK134.out⟩, ⟨by repeat (first | (with_reducible first | exact HB.out | apply below_alloc | apply pw_below_drewN | apply below_drew1 | refine below_set ?_ GE134.out) | exact HB.out)⟩⟩
        · replace c9 := Bool.eq_false_iff.mpr c9
          subst c9
          have H1 : (vinculumref49_Proper.j0 k true a0_0 a0_1 a0_2 a0_3 a0_4 a0_5) = some r := by rw [if_neg (show ¬ (false = true) by decide)] at H; exact H
          clear H
          have H := H1
          clear H1
          have H' := Aside0.mk H
          clear H
          have hcz12_0 : w3.cell? ⟨gb134, 0, none⟩ = some (.int .i64 a0_0) := (blk_cell BK134.out 0).trans rfl
          have hcz12_1 : w3.cell? ⟨gb134, 1, none⟩ = some (.string a0_1) := (blk_cell BK134.out 1).trans rfl
          have hcz12_2 : w3.cell? ⟨gb134, 2, none⟩ = some (.string a0_2) := (blk_cell BK134.out 2).trans rfl
          have hcz12_3 : w3.cell? ⟨gb134, 3, none⟩ = some (.int .i64 a0_3) := (blk_cell BK134.out 3).trans rfl
          have hcz12_4 : w3.cell? ⟨gb134, 4, none⟩ = some (.int .i64 a0_4) := (blk_cell BK134.out 4).trans rfl
          have hcz12_5 : w3.cell? ⟨gb134, 5, none⟩ = some (.int .i64 a0_5) := (blk_cell BK134.out 5).trans rfl
          have hfz12_0 := blk_frozen BK134.out 0
          have hfz12_1 := blk_frozen BK134.out 1
          have hfz12_2 := blk_frozen BK134.out 2
          have hfz12_3 := blk_frozen BK134.out 3
          have hfz12_4 := blk_frozen BK134.out 4
          have hfz12_5 := blk_frozen BK134.out 5
          go_wp2_with (first | ((with_reducible refine gate_callee (f := 43) rfl ?_); refine goesL_ (some 5) rfl rfl Tryz.func43 (by kernel_rfl) rfl #[.string a0_2] rfl (by (try simp only [List.map_toArray, List.map_cons, List.map_nil]); first | done | rfl | (simp only [List.length_drop, List.length_take]; rfl)) ?_; (with_reducible refine (vinculumref48_Letters.calls k a0_2 true _ A4.out).mono ?_); rintro e w' ⟨rfl, ⟨nd, rfl⟩⟩; refine ⟨_, rfl, ?_⟩) | (go_at_call 44; (with_reducible refine (vinculumref49_within.calls a0_3 1 100 true _ A6.out).mono ?_); rintro e w' ⟨rfl, ⟨nd, rfl⟩⟩) | (go_at_call 44; (with_reducible refine (vinculumref49_within.calls a0_4 0 101 false _ A8.out).mono ?_); rintro e w' ⟨rfl, ⟨nd, rfl⟩⟩))
          go_meet
          case rel => exact ⟨_, (true), (by first | rfl | (simp; done) | (simp [*]; done)), H', ⟨by first | omega | exact Nat.le_refl _⟩, ⟨by (with_reducible repeat (first | refine blk_drewN ?_ _ | refine blk_drew ?_ | refine blk_alloc ?_ _)); exact BK134.out⟩, ⟨by repeat (first | (with_reducible first | exact HB.out | apply below_alloc | apply pw_below_drewN | apply below_drew1 | refine below_set ?_ GE134.out) | exact HB.out)⟩⟩
      · replace c7 := Bool.eq_false_iff.mpr c7
        subst c7
        have H1 : (vinculumref49_Proper.j0 k true a0_0 a0_1 a0_2 a0_3 a0_4 a0_5) = some r := by rw [if_neg (show ¬ (false = true) by decide)] at H; exact H
        clear H
        have H := H1
        clear H1
        have H' := Aside0.mk H
        clear H
        have hcz13_0 : w3.cell? ⟨gb134, 0, none⟩ = some (.int .i64 a0_0) := (blk_cell BK134.out 0).trans rfl
        have hcz13_1 : w3.cell? ⟨gb134, 1, none⟩ = some (.string a0_1) := (blk_cell BK134.out 1).trans rfl
        have hcz13_2 : w3.cell? ⟨gb134, 2, none⟩ = some (.string a0_2) := (blk_cell BK134.out 2).trans rfl
        have hcz13_3 : w3.cell? ⟨gb134, 3, none⟩ = some (.int .i64 a0_3) := (blk_cell BK134.out 3).trans rfl
        have hcz13_4 : w3.cell? ⟨gb134, 4, none⟩ = some (.int .i64 a0_4) := (blk_cell BK134.out 4).trans rfl
        have hcz13_5 : w3.cell? ⟨gb134, 5, none⟩ = some (.int .i64 a0_5) := (blk_cell BK134.out 5).trans rfl
        have hfz13_0 := blk_frozen BK134.out 0
        have hfz13_1 := blk_frozen BK134.out 1
        have hfz13_2 := blk_frozen BK134.out 2
        have hfz13_3 := blk_frozen BK134.out 3
        have hfz13_4 := blk_frozen BK134.out 4
        have hfz13_5 := blk_frozen BK134.out 5
        go_wp2_with (first | ((with_reducible refine gate_callee (f := 43) rfl ?_); refine goesL_ (some 5) rfl rfl Tryz.func43 (by kernel_rfl) rfl #[.string a0_2] rfl (by (try simp only [List.map_toArray, List.map_cons, List.map_nil]); first | done | rfl | (simp only [List.length_drop, List.length_take]; rfl)) ?_; (with_reducible refine (vinculumref48_Letters.calls k a0_2 true _ A4.out).mono ?_); rintro e w' ⟨rfl, ⟨nd, rfl⟩⟩; refine ⟨_, rfl, ?_⟩) | (go_at_call 44; (with_reducible refine (vinculumref49_within.calls a0_3 1 100 false _ A6.out).mono ?_); rintro e w' ⟨rfl, ⟨nd, rfl⟩⟩))
        go_meet
        case rel => exact ⟨_, (true), (by first | rfl | (simp; done) | (simp [*]; done)), H', ⟨by first | omega | exact Nat.le_refl _⟩, ⟨by (with_reducible repeat (first | refine blk_drewN ?_ _ | refine blk_drew ?_ | refine blk_alloc ?_ _)); exact BK134.out⟩, ⟨by repeat (first | (with_reducible first | exact HB.out | apply below_alloc | apply pw_below_drewN | apply below_drew1 | refine below_set ?_ GE134.out) | exact HB.out)⟩⟩
    · replace c5 := Bool.eq_false_iff.mpr c5
      subst c5
      have H1 : (vinculumref49_Proper.j0 k true a0_0 a0_1 a0_2 a0_3 a0_4 a0_5) = some r := by rw [if_neg (show ¬ (false = true) by decide)] at H; exact H
      clear H
      have H := H1
      clear H1
      have H' := Aside0.mk H
      clear H
      have hcz14_0 : w3.cell? ⟨gb134, 0, none⟩ = some (.int .i64 a0_0) := (blk_cell BK134.out 0).trans rfl
      have hcz14_1 : w3.cell? ⟨gb134, 1, none⟩ = some (.string a0_1) := (blk_cell BK134.out 1).trans rfl
      have hcz14_2 : w3.cell? ⟨gb134, 2, none⟩ = some (.string a0_2) := (blk_cell BK134.out 2).trans rfl
      have hcz14_3 : w3.cell? ⟨gb134, 3, none⟩ = some (.int .i64 a0_3) := (blk_cell BK134.out 3).trans rfl
      have hcz14_4 : w3.cell? ⟨gb134, 4, none⟩ = some (.int .i64 a0_4) := (blk_cell BK134.out 4).trans rfl
      have hcz14_5 : w3.cell? ⟨gb134, 5, none⟩ = some (.int .i64 a0_5) := (blk_cell BK134.out 5).trans rfl
      have hfz14_0 := blk_frozen BK134.out 0
      have hfz14_1 := blk_frozen BK134.out 1
      have hfz14_2 := blk_frozen BK134.out 2
      have hfz14_3 := blk_frozen BK134.out 3
      have hfz14_4 := blk_frozen BK134.out 4
      have hfz14_5 := blk_frozen BK134.out 5
      go_wp2_with (first | ((with_reducible refine gate_callee (f := 43) rfl ?_); refine goesL_ (some 5) rfl rfl Tryz.func43 (by kernel_rfl) rfl #[.string a0_2] rfl (by (try simp only [List.map_toArray, List.map_cons, List.map_nil]); first | done | rfl | (simp only [List.length_drop, List.length_take]; rfl)) ?_; (with_reducible refine (vinculumref48_Letters.calls k a0_2 false _ A4.out).mono ?_); rintro e w' ⟨rfl, ⟨nd, rfl⟩⟩; refine ⟨_, rfl, ?_⟩))
      go_meet
      case rel => exact ⟨_, (true), (by first | rfl | (simp; done) | (simp [*]; done)), H', ⟨by first | omega | exact Nat.le_refl _⟩, ⟨by (with_reducible repeat (first | refine blk_drewN ?_ _ | refine blk_drew ?_ | refine blk_alloc ?_ _)); exact BK134.out⟩, ⟨by repeat (first | (with_reducible first | exact HB.out | apply below_alloc | apply pw_below_drewN | apply below_drew1 | refine below_set ?_ GE134.out) | exact HB.out)⟩⟩
  case rest =>
    clear HC2
    try clear p2
    try clear c3
    try clear c4
    try clear c5
    try clear c7
    try clear c9
    try clear hcz11_0
    try clear hcz11_1
    try clear hcz11_2
    try clear hcz11_3
    try clear hcz11_4
    try clear hcz11_5
    try clear hcz12_0
    try clear hcz12_1
    try clear hcz12_2
    try clear hcz12_3
    try clear hcz12_4
    try clear hcz12_5
    try clear hcz13_0
    try clear hcz13_1
    try clear hcz13_2
    try clear hcz13_3
    try clear hcz13_4
    try clear hcz13_5
    try clear hcz14_0
    try clear hcz14_1
    try clear hcz14_2
    try clear hcz14_3
    try clear hcz14_4
    try clear hcz14_5
    try clear hfz11_0
    try clear hfz11_1
    try clear hfz11_2
    try clear hfz11_3
    try clear hfz11_4
    try clear hfz11_5
    try clear hfz12_0
    try clear hfz12_1
    try clear hfz12_2
    try clear hfz12_3
    try clear hfz12_4
    try clear hfz12_5
    try clear hfz13_0
    try clear hfz13_1
    try clear hfz13_2
    try clear hfz13_3
    try clear hfz13_4
    try clear hfz13_5
    try clear hfz14_0
    try clear hfz14_1
    try clear hfz14_2
    try clear hfz14_3
    try clear hfz14_4
    try clear hfz14_5
    obtain ⟨kq, x24_1, rfl, HA, HJ1, BK134, HB⟩ := hcut
    cases kq with
    | zero => exact absurd HA.out (by simp [vinculumref49_Proper.j0])
    | succ kj1 =>
      have H := HA.out
      clear HA
      simp only [vinculumref49_Proper.j0] at H
      by_cases c15 : x24_1 = true
      · subst c15
        have H1 : (some false) = some r := by rw [if_pos rfl] at H; exact H
        clear H
        have H := H1
        clear H1
        obtain rfl := Option.some.inj H
        go_wp2
        go_ret
        exact ⟨by first | rfl | (simp [errW_none, errW_some] <;> rfl) | (simp [*, errW_none, errW_some] <;> rfl), by repeat (first | (with_reducible first | exact HB.out | apply below_alloc | apply pw_below_drewN | apply below_drew1 | refine below_set ?_ GE134.out) | exact HB.out)⟩
      · replace c15 := Bool.eq_false_iff.mpr c15
        subst c15
        have H1 : (if a0_0 = 1 then ((vinculumref09_Symbol.f kj1 a0_1).bind fun t139 => (some t139)) else (if a0_0 = 2 then ((vinculumref09_Symbol.f kj1 a0_1).bind fun t140 => (if t140 = true then (some (a0_4 == 0)) else (some false))) else (if a0_0 = 3 then ((vinculumref09_Symbol.f kj1 a0_1).bind fun t141 => (if t141 = true then (some (a0_5 == 0)) else (some false))) else (if a0_0 = 4 then (some (a0_1.toList == ([] : List UInt8))) else (some false))))) = some r := by rw [if_neg (show ¬ (false = true) by decide)] at H; exact H
        clear H
        have H := H1
        clear H1
        by_cases c16 : a0_0 = 1
        · rw [if_pos c16] at H
          have c16b0 : (a0_0 == 1) = true := beq_iff_eq.mpr c16
          have c16b1 : (a0_0 != 1) = false := bne_eq_false_iff_eq.mpr c16
          clear c16
          replace H := Option.bind_eq_some_iff.mp H
          obtain ⟨t139, A170, H⟩ := H
          replace H : (some t139) = some r := H
          have A17 := Aside0.mk A170
          clear A170
          obtain rfl := Option.some.inj H
          have hcz18_0 : wc.cell? ⟨gb134, 0, none⟩ = some (.int .i64 a0_0) := (blk_cell BK134.out 0).trans rfl
          have hcz18_1 : wc.cell? ⟨gb134, 1, none⟩ = some (.string a0_1) := (blk_cell BK134.out 1).trans rfl
          have hcz18_2 : wc.cell? ⟨gb134, 2, none⟩ = some (.string a0_2) := (blk_cell BK134.out 2).trans rfl
          have hcz18_3 : wc.cell? ⟨gb134, 3, none⟩ = some (.int .i64 a0_3) := (blk_cell BK134.out 3).trans rfl
          have hcz18_4 : wc.cell? ⟨gb134, 4, none⟩ = some (.int .i64 a0_4) := (blk_cell BK134.out 4).trans rfl
          have hcz18_5 : wc.cell? ⟨gb134, 5, none⟩ = some (.int .i64 a0_5) := (blk_cell BK134.out 5).trans rfl
          have hfz18_0 := blk_frozen BK134.out 0
          have hfz18_1 := blk_frozen BK134.out 1
          have hfz18_2 := blk_frozen BK134.out 2
          have hfz18_3 := blk_frozen BK134.out 3
          have hfz18_4 := blk_frozen BK134.out 4
          have hfz18_5 := blk_frozen BK134.out 5
          go_wp2_with (first | ((with_reducible refine gate_callee (f := 45) rfl ?_); refine goesL_ (some 31) rfl rfl Tryz.func45 (by kernel_rfl) rfl #[.string a0_1] rfl (by (try simp only [List.map_toArray, List.map_cons, List.map_nil]); first | done | rfl | (simp only [List.length_drop, List.length_take]; rfl)) ?_; (with_reducible refine (vinculumref09_Symbol.calls kj1 a0_1 t139 _ A17.out).mono ?_); rintro e w19 ⟨rfl, hb⟩; refine ⟨_, rfl, ?_⟩; have n0_ := Aside0.mk (blk_below (g := gb134) (o := .cells #[.int .i64 a0_0, .string a0_1, .string a0_2, .int .i64 a0_3, .int .i64 a0_4, .int .i64 a0_5] 31 (0, 0)) (by (with_reducible repeat (first | refine blk_drewN ?_ _ | refine blk_drew ?_ | refine blk_alloc ?_ _)); exact BK134.out) hb); have n1_ := Aside0.mk (below_step (by repeat (first | (with_reducible first | exact HB.out | apply below_alloc | apply pw_below_drewN | apply below_drew1 | refine below_set ?_ GE134.out) | exact HB.out)) hb); clear BK134; clear HB; have BK134 := n0_; have HB := n1_; clear n0_ n1_; (try clear hb); (try clear hb2); (try clear hk); (try clear hi)))
          go_ret
          exact ⟨by first | rfl | (simp [errW_none, errW_some] <;> rfl) | (simp [*, errW_none, errW_some] <;> rfl), by repeat (first | (with_reducible first | exact HB.out | apply below_alloc | apply pw_below_drewN | apply below_drew1 | refine below_set ?_ GE134.out) | exact HB.out)⟩
        · rw [if_neg c16] at H
          have c16b0 : (a0_0 == 1) = false := beq_eq_false_iff_ne.mpr c16
          have c16b1 : (a0_0 != 1) = true := bne_iff_ne.mpr c16
          by_cases c20 : a0_0 = 2
          · rw [if_pos c20] at H
            have c20b0 : (a0_0 == 2) = true := beq_iff_eq.mpr c20
            have c20b1 : (a0_0 != 2) = false := bne_eq_false_iff_eq.mpr c20
            clear c20
            replace H := Option.bind_eq_some_iff.mp H
            obtain ⟨t140, A210, H⟩ := H
            replace H : (if t140 = true then (some (a0_4 == 0)) else (some false)) = some r := H
            have A21 := Aside0.mk A210
            clear A210
            by_cases c22 : t140 = true
            · subst c22
              have H1 : (some (a0_4 == 0)) = some r := by rw [if_pos rfl] at H; exact H
              clear H
              have H := H1
              clear H1
              obtain rfl := Option.some.inj H
              have hcz23_0 : wc.cell? ⟨gb134, 0, none⟩ = some (.int .i64 a0_0) := (blk_cell BK134.out 0).trans rfl
              have hcz23_1 : wc.cell? ⟨gb134, 1, none⟩ = some (.string a0_1) := (blk_cell BK134.out 1).trans rfl
              have hcz23_2 : wc.cell? ⟨gb134, 2, none⟩ = some (.string a0_2) := (blk_cell BK134.out 2).trans rfl
              have hcz23_3 : wc.cell? ⟨gb134, 3, none⟩ = some (.int .i64 a0_3) := (blk_cell BK134.out 3).trans rfl
              have hcz23_4 : wc.cell? ⟨gb134, 4, none⟩ = some (.int .i64 a0_4) := (blk_cell BK134.out 4).trans rfl
              have hcz23_5 : wc.cell? ⟨gb134, 5, none⟩ = some (.int .i64 a0_5) := (blk_cell BK134.out 5).trans rfl
              have hfz23_0 := blk_frozen BK134.out 0
              have hfz23_1 := blk_frozen BK134.out 1
              have hfz23_2 := blk_frozen BK134.out 2
              have hfz23_3 := blk_frozen BK134.out 3
              have hfz23_4 := blk_frozen BK134.out 4
              have hfz23_5 := blk_frozen BK134.out 5
              go_wp2_with (first | ((with_reducible refine gate_callee (f := 45) rfl ?_); refine goesL_ (some 36) rfl rfl Tryz.func45 (by kernel_rfl) rfl #[.string a0_1] rfl (by (try simp only [List.map_toArray, List.map_cons, List.map_nil]); first | done | rfl | (simp only [List.length_drop, List.length_take]; rfl)) ?_; (with_reducible refine (vinculumref09_Symbol.calls kj1 a0_1 true _ A21.out).mono ?_); rintro e w24 ⟨rfl, hb⟩; refine ⟨_, rfl, ?_⟩; have n0_ := Aside0.mk (blk_below (g := gb134) (o := .cells #[.int .i64 a0_0, .string a0_1, .string a0_2, .int .i64 a0_3, .int .i64 a0_4, .int .i64 a0_5] 31 (0, 0)) (by (with_reducible repeat (first | refine blk_drewN ?_ _ | refine blk_drew ?_ | refine blk_alloc ?_ _)); exact BK134.out) hb); have n1_ := Aside0.mk (below_step (by repeat (first | (with_reducible first | exact HB.out | apply below_alloc | apply pw_below_drewN | apply below_drew1 | refine below_set ?_ GE134.out) | exact HB.out)) hb); clear BK134; clear HB; have BK134 := n0_; have HB := n1_; clear n0_ n1_; (try clear hb); (try clear hb2); (try clear hk); (try clear hi); have hcz25_0 : w24.cell? ⟨gb134, 0, none⟩ = some (.int .i64 a0_0) := (blk_cell BK134.out 0).trans rfl; have hcz25_1 : w24.cell? ⟨gb134, 1, none⟩ = some (.string a0_1) := (blk_cell BK134.out 1).trans rfl; have hcz25_2 : w24.cell? ⟨gb134, 2, none⟩ = some (.string a0_2) := (blk_cell BK134.out 2).trans rfl; have hcz25_3 : w24.cell? ⟨gb134, 3, none⟩ = some (.int .i64 a0_3) := (blk_cell BK134.out 3).trans rfl; have hcz25_4 : w24.cell? ⟨gb134, 4, none⟩ = some (.int .i64 a0_4) := (blk_cell BK134.out 4).trans rfl; have hcz25_5 : w24.cell? ⟨gb134, 5, none⟩ = some (.int .i64 a0_5) := (blk_cell BK134.out 5).trans rfl; have hfz25_0 := blk_frozen BK134.out 0; have hfz25_1 := blk_frozen BK134.out 1; have hfz25_2 := blk_frozen BK134.out 2; have hfz25_3 := blk_frozen BK134.out 3; have hfz25_4 := blk_frozen BK134.out 4; have hfz25_5 := blk_frozen BK134.out 5))
              go_ret
              exact ⟨by first | rfl | (simp [errW_none, errW_some] <;> rfl) | (simp [*, errW_none, errW_some] <;> rfl), by repeat (first | (with_reducible first | exact HB.out | apply below_alloc | apply pw_below_drewN | apply below_drew1 | refine below_set ?_ GE134.out) | exact HB.out)⟩
            · replace c22 := Bool.eq_false_iff.mpr c22
              subst c22
              have H1 : (some false) = some r := by rw [if_neg (show ¬ (false = true) by decide)] at H; exact H
              clear H
              have H := H1
              clear H1
              obtain rfl := Option.some.inj H
              have hcz26_0 : wc.cell? ⟨gb134, 0, none⟩ = some (.int .i64 a0_0) := (blk_cell BK134.out 0).trans rfl
              have hcz26_1 : wc.cell? ⟨gb134, 1, none⟩ = some (.string a0_1) := (blk_cell BK134.out 1).trans rfl
              have hcz26_2 : wc.cell? ⟨gb134, 2, none⟩ = some (.string a0_2) := (blk_cell BK134.out 2).trans rfl
              have hcz26_3 : wc.cell? ⟨gb134, 3, none⟩ = some (.int .i64 a0_3) := (blk_cell BK134.out 3).trans rfl
              have hcz26_4 : wc.cell? ⟨gb134, 4, none⟩ = some (.int .i64 a0_4) := (blk_cell BK134.out 4).trans rfl
              have hcz26_5 : wc.cell? ⟨gb134, 5, none⟩ = some (.int .i64 a0_5) := (blk_cell BK134.out 5).trans rfl
              have hfz26_0 := blk_frozen BK134.out 0
              have hfz26_1 := blk_frozen BK134.out 1
              have hfz26_2 := blk_frozen BK134.out 2
              have hfz26_3 := blk_frozen BK134.out 3
              have hfz26_4 := blk_frozen BK134.out 4
              have hfz26_5 := blk_frozen BK134.out 5
              go_wp2_with (first | ((with_reducible refine gate_callee (f := 45) rfl ?_); refine goesL_ (some 36) rfl rfl Tryz.func45 (by kernel_rfl) rfl #[.string a0_1] rfl (by (try simp only [List.map_toArray, List.map_cons, List.map_nil]); first | done | rfl | (simp only [List.length_drop, List.length_take]; rfl)) ?_; (with_reducible refine (vinculumref09_Symbol.calls kj1 a0_1 false _ A21.out).mono ?_); rintro e w27 ⟨rfl, hb⟩; refine ⟨_, rfl, ?_⟩; have n0_ := Aside0.mk (blk_below (g := gb134) (o := .cells #[.int .i64 a0_0, .string a0_1, .string a0_2, .int .i64 a0_3, .int .i64 a0_4, .int .i64 a0_5] 31 (0, 0)) (by (with_reducible repeat (first | refine blk_drewN ?_ _ | refine blk_drew ?_ | refine blk_alloc ?_ _)); exact BK134.out) hb); have n1_ := Aside0.mk (below_step (by repeat (first | (with_reducible first | exact HB.out | apply below_alloc | apply pw_below_drewN | apply below_drew1 | refine below_set ?_ GE134.out) | exact HB.out)) hb); clear BK134; clear HB; have BK134 := n0_; have HB := n1_; clear n0_ n1_; (try clear hb); (try clear hb2); (try clear hk); (try clear hi)))
              go_ret
              exact ⟨by first | rfl | (simp [errW_none, errW_some] <;> rfl) | (simp [*, errW_none, errW_some] <;> rfl), by repeat (first | (with_reducible first | exact HB.out | apply below_alloc | apply pw_below_drewN | apply below_drew1 | refine below_set ?_ GE134.out) | exact HB.out)⟩
          · rw [if_neg c20] at H
            have c20b0 : (a0_0 == 2) = false := beq_eq_false_iff_ne.mpr c20
            have c20b1 : (a0_0 != 2) = true := bne_iff_ne.mpr c20
            by_cases c28 : a0_0 = 3
            · rw [if_pos c28] at H
              have c28b0 : (a0_0 == 3) = true := beq_iff_eq.mpr c28
              have c28b1 : (a0_0 != 3) = false := bne_eq_false_iff_eq.mpr c28
              clear c28
              replace H := Option.bind_eq_some_iff.mp H
              obtain ⟨t141, A290, H⟩ := H
              replace H : (if t141 = true then (some (a0_5 == 0)) else (some false)) = some r := H
              have A29 := Aside0.mk A290
              clear A290
              by_cases c30 : t141 = true
              · subst c30
                have H1 : (some (a0_5 == 0)) = some r := by rw [if_pos rfl] at H; exact H
                clear H
                have H := H1
                clear H1
                obtain rfl := Option.some.inj H
                have hcz31_0 : wc.cell? ⟨gb134, 0, none⟩ = some (.int .i64 a0_0) := (blk_cell BK134.out 0).trans rfl
                have hcz31_1 : wc.cell? ⟨gb134, 1, none⟩ = some (.string a0_1) := (blk_cell BK134.out 1).trans rfl
                have hcz31_2 : wc.cell? ⟨gb134, 2, none⟩ = some (.string a0_2) := (blk_cell BK134.out 2).trans rfl
                have hcz31_3 : wc.cell? ⟨gb134, 3, none⟩ = some (.int .i64 a0_3) := (blk_cell BK134.out 3).trans rfl
                have hcz31_4 : wc.cell? ⟨gb134, 4, none⟩ = some (.int .i64 a0_4) := (blk_cell BK134.out 4).trans rfl
                have hcz31_5 : wc.cell? ⟨gb134, 5, none⟩ = some (.int .i64 a0_5) := (blk_cell BK134.out 5).trans rfl
                have hfz31_0 := blk_frozen BK134.out 0
                have hfz31_1 := blk_frozen BK134.out 1
                have hfz31_2 := blk_frozen BK134.out 2
                have hfz31_3 := blk_frozen BK134.out 3
                have hfz31_4 := blk_frozen BK134.out 4
                have hfz31_5 := blk_frozen BK134.out 5
                go_wp2_with (first | ((with_reducible refine gate_callee (f := 45) rfl ?_); refine goesL_ (some 46) rfl rfl Tryz.func45 (by kernel_rfl) rfl #[.string a0_1] rfl (by (try simp only [List.map_toArray, List.map_cons, List.map_nil]); first | done | rfl | (simp only [List.length_drop, List.length_take]; rfl)) ?_; (with_reducible refine (vinculumref09_Symbol.calls kj1 a0_1 true _ A29.out).mono ?_); rintro e w32 ⟨rfl, hb⟩; refine ⟨_, rfl, ?_⟩; have n0_ := Aside0.mk (blk_below (g := gb134) (o := .cells #[.int .i64 a0_0, .string a0_1, .string a0_2, .int .i64 a0_3, .int .i64 a0_4, .int .i64 a0_5] 31 (0, 0)) (by (with_reducible repeat (first | refine blk_drewN ?_ _ | refine blk_drew ?_ | refine blk_alloc ?_ _)); exact BK134.out) hb); have n1_ := Aside0.mk (below_step (by repeat (first | (with_reducible first | exact HB.out | apply below_alloc | apply pw_below_drewN | apply below_drew1 | refine below_set ?_ GE134.out) | exact HB.out)) hb); clear BK134; clear HB; have BK134 := n0_; have HB := n1_; clear n0_ n1_; (try clear hb); (try clear hb2); (try clear hk); (try clear hi); have hcz33_0 : w32.cell? ⟨gb134, 0, none⟩ = some (.int .i64 a0_0) := (blk_cell BK134.out 0).trans rfl; have hcz33_1 : w32.cell? ⟨gb134, 1, none⟩ = some (.string a0_1) := (blk_cell BK134.out 1).trans rfl; have hcz33_2 : w32.cell? ⟨gb134, 2, none⟩ = some (.string a0_2) := (blk_cell BK134.out 2).trans rfl; have hcz33_3 : w32.cell? ⟨gb134, 3, none⟩ = some (.int .i64 a0_3) := (blk_cell BK134.out 3).trans rfl; have hcz33_4 : w32.cell? ⟨gb134, 4, none⟩ = some (.int .i64 a0_4) := (blk_cell BK134.out 4).trans rfl; have hcz33_5 : w32.cell? ⟨gb134, 5, none⟩ = some (.int .i64 a0_5) := (blk_cell BK134.out 5).trans rfl; have hfz33_0 := blk_frozen BK134.out 0; have hfz33_1 := blk_frozen BK134.out 1; have hfz33_2 := blk_frozen BK134.out 2; have hfz33_3 := blk_frozen BK134.out 3; have hfz33_4 := blk_frozen BK134.out 4; have hfz33_5 := blk_frozen BK134.out 5))
                go_ret
                exact ⟨by first | rfl | (simp [errW_none, errW_some] <;> rfl) | (simp [*, errW_none, errW_some] <;> rfl), by repeat (first | (with_reducible first | exact HB.out | apply below_alloc | apply pw_below_drewN | apply below_drew1 | refine below_set ?_ GE134.out) | exact HB.out)⟩
              · replace c30 := Bool.eq_false_iff.mpr c30
                subst c30
                have H1 : (some false) = some r := by rw [if_neg (show ¬ (false = true) by decide)] at H; exact H
                clear H
                have H := H1
                clear H1
                obtain rfl := Option.some.inj H
                have hcz34_0 : wc.cell? ⟨gb134, 0, none⟩ = some (.int .i64 a0_0) := (blk_cell BK134.out 0).trans rfl
                have hcz34_1 : wc.cell? ⟨gb134, 1, none⟩ = some (.string a0_1) := (blk_cell BK134.out 1).trans rfl
                have hcz34_2 : wc.cell? ⟨gb134, 2, none⟩ = some (.string a0_2) := (blk_cell BK134.out 2).trans rfl
                have hcz34_3 : wc.cell? ⟨gb134, 3, none⟩ = some (.int .i64 a0_3) := (blk_cell BK134.out 3).trans rfl
                have hcz34_4 : wc.cell? ⟨gb134, 4, none⟩ = some (.int .i64 a0_4) := (blk_cell BK134.out 4).trans rfl
                have hcz34_5 : wc.cell? ⟨gb134, 5, none⟩ = some (.int .i64 a0_5) := (blk_cell BK134.out 5).trans rfl
                have hfz34_0 := blk_frozen BK134.out 0
                have hfz34_1 := blk_frozen BK134.out 1
                have hfz34_2 := blk_frozen BK134.out 2
                have hfz34_3 := blk_frozen BK134.out 3
                have hfz34_4 := blk_frozen BK134.out 4
                have hfz34_5 := blk_frozen BK134.out 5
                go_wp2_with (first | ((with_reducible refine gate_callee (f := 45) rfl ?_); refine goesL_ (some 46) rfl rfl Tryz.func45 (by kernel_rfl) rfl #[.string a0_1] rfl (by (try simp only [List.map_toArray, List.map_cons, List.map_nil]); first | done | rfl | (simp only [List.length_drop, List.length_take]; rfl)) ?_; (with_reducible refine (vinculumref09_Symbol.calls kj1 a0_1 false _ A29.out).mono ?_); rintro e w35 ⟨rfl, hb⟩; refine ⟨_, rfl, ?_⟩; have n0_ := Aside0.mk (blk_below (g := gb134) (o := .cells #[.int .i64 a0_0, .string a0_1, .string a0_2, .int .i64 a0_3, .int .i64 a0_4, .int .i64 a0_5] 31 (0, 0)) (by (with_reducible repeat (first | refine blk_drewN ?_ _ | refine blk_drew ?_ | refine blk_alloc ?_ _)); exact BK134.out) hb); have n1_ := Aside0.mk (below_step (by repeat (first | (with_reducible first | exact HB.out | apply below_alloc | apply pw_below_drewN | apply below_drew1 | refine below_set ?_ GE134.out) | exact HB.out)) hb); clear BK134; clear HB; have BK134 := n0_; have HB := n1_; clear n0_ n1_; (try clear hb); (try clear hb2); (try clear hk); (try clear hi)))
                go_ret
                exact ⟨by first | rfl | (simp [errW_none, errW_some] <;> rfl) | (simp [*, errW_none, errW_some] <;> rfl), by repeat (first | (with_reducible first | exact HB.out | apply below_alloc | apply pw_below_drewN | apply below_drew1 | refine below_set ?_ GE134.out) | exact HB.out)⟩
            · rw [if_neg c28] at H
              have c28b0 : (a0_0 == 3) = false := beq_eq_false_iff_ne.mpr c28
              have c28b1 : (a0_0 != 3) = true := bne_iff_ne.mpr c28
              by_cases c36 : a0_0 = 4
              · rw [if_pos c36] at H
                have c36b0 : (a0_0 == 4) = true := beq_iff_eq.mpr c36
                have c36b1 : (a0_0 != 4) = false := bne_eq_false_iff_eq.mpr c36
                clear c36
                obtain rfl := Option.some.inj H
                have hcz37_0 : wc.cell? ⟨gb134, 0, none⟩ = some (.int .i64 a0_0) := (blk_cell BK134.out 0).trans rfl
                have hcz37_1 : wc.cell? ⟨gb134, 1, none⟩ = some (.string a0_1) := (blk_cell BK134.out 1).trans rfl
                have hcz37_2 : wc.cell? ⟨gb134, 2, none⟩ = some (.string a0_2) := (blk_cell BK134.out 2).trans rfl
                have hcz37_3 : wc.cell? ⟨gb134, 3, none⟩ = some (.int .i64 a0_3) := (blk_cell BK134.out 3).trans rfl
                have hcz37_4 : wc.cell? ⟨gb134, 4, none⟩ = some (.int .i64 a0_4) := (blk_cell BK134.out 4).trans rfl
                have hcz37_5 : wc.cell? ⟨gb134, 5, none⟩ = some (.int .i64 a0_5) := (blk_cell BK134.out 5).trans rfl
                have hfz37_0 := blk_frozen BK134.out 0
                have hfz37_1 := blk_frozen BK134.out 1
                have hfz37_2 := blk_frozen BK134.out 2
                have hfz37_3 := blk_frozen BK134.out 3
                have hfz37_4 := blk_frozen BK134.out 4
                have hfz37_5 := blk_frozen BK134.out 5
                go_wp2
                go_ret
                exact ⟨by first | rfl | (simp [errW_none, errW_some] <;> rfl) | (simp [*, errW_none, errW_some] <;> rfl), by repeat (first | (with_reducible first | exact HB.out | apply below_alloc | apply pw_below_drewN | apply below_drew1 | refine below_set ?_ GE134.out) | exact HB.out)⟩
              · rw [if_neg c36] at H
                have c36b0 : (a0_0 == 4) = false := beq_eq_false_iff_ne.mpr c36
                have c36b1 : (a0_0 != 4) = true := bne_iff_ne.mpr c36
                obtain rfl := Option.some.inj H
                have hcz38_0 : wc.cell? ⟨gb134, 0, none⟩ = some (.int .i64 a0_0) := (blk_cell BK134.out 0).trans rfl
                have hcz38_1 : wc.cell? ⟨gb134, 1, none⟩ = some (.string a0_1) := (blk_cell BK134.out 1).trans rfl
                have hcz38_2 : wc.cell? ⟨gb134, 2, none⟩ = some (.string a0_2) := (blk_cell BK134.out 2).trans rfl
                have hcz38_3 : wc.cell? ⟨gb134, 3, none⟩ = some (.int .i64 a0_3) := (blk_cell BK134.out 3).trans rfl
                have hcz38_4 : wc.cell? ⟨gb134, 4, none⟩ = some (.int .i64 a0_4) := (blk_cell BK134.out 4).trans rfl
                have hcz38_5 : wc.cell? ⟨gb134, 5, none⟩ = some (.int .i64 a0_5) := (blk_cell BK134.out 5).trans rfl
                have hfz38_0 := blk_frozen BK134.out 0
                have hfz38_1 := blk_frozen BK134.out 1
                have hfz38_2 := blk_frozen BK134.out 2
                have hfz38_3 := blk_frozen BK134.out 3
                have hfz38_4 := blk_frozen BK134.out 4
                have hfz38_5 := blk_frozen BK134.out 5
                go_wp2
                go_ret
                exact ⟨by first | rfl | (simp [errW_none, errW_some] <;> rfl) | (simp [*, errW_none, errW_some] <;> rfl), by repeat (first | (with_reducible first | exact HB.out | apply below_alloc | apply pw_below_drewN | apply below_drew1 | refine below_set ?_ GE134.out) | exact HB.out)⟩

end Go.Proofs.YtghdimmomnfakaaGreatDoor.X
