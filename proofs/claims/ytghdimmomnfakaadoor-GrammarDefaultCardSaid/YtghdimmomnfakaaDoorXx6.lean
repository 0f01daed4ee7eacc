-- Written by xprint.py, a program of this session, by way of the kit's print.py. Lean checks it.
import Derived.Test.YtghdimmomnfakaaDoorXx0
import Derived.Test.YtghdimmomnfakaaDoorXx4
import Derived.Test.YtghdimmomnfakaaDoorXx5
namespace Go.Proofs.YtghdimmomnfakaaDoor.X
open Go.Proofs.YtghdimmomnfakaaDoor.Gv
open Go.RowKit Go.Proofs.YtghdimmomnfakaaDoorW.PrintWords Go.Proofs.YtghdimmomnfakaaDoorW.PrintLast Go.Proofs.YtghdimmomnfakaaDoorW.PrintMore
attribute [local go_sem] max2_int min2_int max_two min_two max_three min_three max_four min_four   -- for this text's walks alone
set_option linter.unusedVariables false
set_option linter.unusedSimpArgs false

/-! ### vinculumref49_Valid: function 10 -/
mutual
def vinculumref49_Valid.l0 : Nat → List (S38) → Int → Option (Bool)
  | 0, _, _ => none
  | k + 1, x0, x3 => if x3 < (x0.length : Int) then (if 0 ≤ x3 then ((vinculumref49_Proper.f k ((rd_T38 x0 x3).f0) ((rd_T38 x0 x3).f1) ((rd_T38 x0 x3).f2) ((rd_T38 x0 x3).f3) ((rd_T38 x0 x3).f4) ((rd_T38 x0 x3).f5)).bind fun t161 => (if t161 = true then (vinculumref49_Valid.l1 k x0 x3 0) else (some false))) else (none)) else (some (decide ((x0.length : Int) ≤ 64)))
def vinculumref49_Valid.l1 : Nat → List (S38) → Int → Int → Option (Bool)
  | 0, _, _, _ => none
  | k + 1, x0, x3, x4 => if x4 < x3 then (if 0 ≤ x3 then (if x3 < (x0.length : Int) then (if 0 ≤ x4 then (if x4 < (x0.length : Int) then ((vinculumref49_clash.f ((rd_T38 x0 x3).f0) ((rd_T38 x0 x3).f1) ((rd_T38 x0 x3).f2) ((rd_T38 x0 x3).f3) ((rd_T38 x0 x3).f4) ((rd_T38 x0 x3).f5) ((rd_T38 x0 x4).f0) ((rd_T38 x0 x4).f1) ((rd_T38 x0 x4).f2) ((rd_T38 x0 x4).f3) ((rd_T38 x0 x4).f4) ((rd_T38 x0 x4).f5)).bind fun t164 => (if t164 = true then (some false) else (vinculumref49_Valid.l1 k x0 x3 (wrap64 (x4 + 1))))) else (none)) else (none)) else (none)) else (none)) else (vinculumref49_Valid.l0 k x0 (wrap64 (x3 + 1)))
end
def vinculumref49_Valid.f (k : Nat) (l0 : List (S38)) : Option (Bool) := vinculumref49_Valid.l0 k l0 0
theorem vinculumref49_Valid.mono_l : ∀ k, (∀ y0 y1, LeO (vinculumref49_Valid.l0 k y0 y1) (vinculumref49_Valid.l0 (k + 1) y0 y1)) ∧ (∀ y0 y1 y2, LeO (vinculumref49_Valid.l1 k y0 y1 y2) (vinculumref49_Valid.l1 (k + 1) y0 y1 y2))
  | 0 => ⟨fun _ _ r h => by simp [vinculumref49_Valid.l0] at h, fun _ _ _ r h => by simp [vinculumref49_Valid.l1] at h⟩
  | k + 1 => by
    obtain ⟨ih0, ih1⟩ := vinculumref49_Valid.mono_l k
    refine ⟨?_, ?_⟩
    · intro y0 y1
      unfold vinculumref49_Valid.l0
      repeat' first
      | (with_reducible exact ih0 _ _)
      | (with_reducible exact ih1 _ _ _)
      | (with_reducible exact vinculumref49_Proper.mono _ _ _ _ _ _ _)
      | (with_reducible exact LeO.refl _)
      | (with_reducible exact LeO.none _)
      | (with_reducible refine LeO.ite ?_ ?_)
      | (with_reducible refine LeO.bind ?_ (fun _ => ?_))
      | exact ih0 _ _
      | exact ih1 _ _ _
      | exact vinculumref49_Proper.mono _ _ _ _ _ _ _
      | exact LeO.none _
      | refine LeO.ite ?_ ?_
      | refine LeO.bind ?_ (fun _ => ?_)
    · intro y0 y1 y2
      unfold vinculumref49_Valid.l1
      repeat' first
      | (with_reducible exact ih0 _ _)
      | (with_reducible exact ih1 _ _ _)
      | (with_reducible exact vinculumref49_Proper.mono _ _ _ _ _ _ _)
      | (with_reducible exact LeO.refl _)
      | (with_reducible exact LeO.none _)
      | (with_reducible refine LeO.ite ?_ ?_)
      | (with_reducible refine LeO.bind ?_ (fun _ => ?_))
      | exact ih0 _ _
      | exact ih1 _ _ _
      | exact vinculumref49_Proper.mono _ _ _ _ _ _ _
      | exact LeO.none _
      | refine LeO.ite ?_ ?_
      | refine LeO.bind ?_ (fun _ => ?_)
theorem vinculumref49_Valid.mono : ∀ a0 k, LeO (vinculumref49_Valid.f k a0) (vinculumref49_Valid.f (k + 1) a0) := by
  intro a0 k
  obtain ⟨ih0, ih1⟩ := vinculumref49_Valid.mono_l k
  unfold vinculumref49_Valid.f
  repeat' first
      | (with_reducible exact ih0 _ _)
      | (with_reducible exact ih1 _ _ _)
      | (with_reducible exact vinculumref49_Proper.mono _ _ _ _ _ _ _)
      | (with_reducible exact LeO.refl _)
      | (with_reducible exact LeO.none _)
      | (with_reducible refine LeO.ite ?_ ?_)
      | (with_reducible refine LeO.bind ?_ (fun _ => ?_))
      | exact ih0 _ _
      | exact ih1 _ _ _
      | exact vinculumref49_Proper.mono _ _ _ _ _ _ _
      | exact LeO.none _
      | refine LeO.ite ?_ ?_
      | refine LeO.bind ?_ (fun _ => ?_)
def vinculumref49_Valid.T9 : Bool × List (List Nat × List Nat) := (true, [([], []), ([], []), ([0, 1], [0, 1]), ([2], [2]), ([], []), ([], []), ([4, 5], [4, 5]), ([6], [6]), ([3, 7], [3, 7])])
def vinculumref49_Valid.B9 : List Nat := [0, 0, 3, 7, 0, 0, 48, 112, 255]
theorem vinculumref49_Valid.tab9 : rtab .any (opsOf Tryd.f10 9) = vinculumref49_Valid.T9 := by kernel_rfl
theorem vinculumref49_Valid.bits9 : waitsOk vinculumref49_Valid.T9.2 vinculumref49_Valid.B9 = true := by kernel_rfl
set_option maxHeartbeats 8000000 in
set_option maxRecDepth 100000 in
theorem vinculumref49_Valid.calls (k : Nat) (A0 : Option Addr) (c0 : Nat) (l0 : List (S38)) (r : Bool) (w : World) (hr0 : Kd.C k38 w A0 l0.length l0) (hc0 : l0.length ≤ c0) (h : vinculumref49_Valid.f k l0 = some r) :
    Calls Tryd.prog 10 #[.slice A0 l0.length c0] w fun e w' => e = .returned (.bool r) ∧ Below w.heap.size w w' := by
  have hu38 := Tryd.underlying38
  have HR0 := Aside0.mk hr0
  have HC0 := Aside0.mk hc0
  clear hr0 hc0
  have HB := Aside0.mk (Below.refl w.heap.size w)
  have H : (vinculumref49_Valid.l0 k l0 0) = some r := h
  clear h
  have H' := Aside0.mk H
  clear H
  go_enter Tryd.func10, Tryd.ntmps10
  go_wp2
  go_loopg [3] k (fun kq v3 w' => ∃ (x3_1 : Int), v3 = .int .i64 x3_1 ∧ Aside0 (vinculumref49_Valid.l0 kq l0 x3_1 = some r) ∧ Aside0 (kq ≤ k) ∧ Aside0 (Below w.heap.size w w'))
  case atStart => exact ⟨(0), (by first | rfl | (simp; done) | (simp [*]; done)), H', ⟨Nat.le_refl _⟩, ⟨by repeat (first | (with_reducible first | exact HB.out | apply below_alloc | apply pw_below_drewN | apply below_drew1) | exact HB.out)⟩⟩
  case round =>
    clear H'
    try clear c1
    obtain ⟨x3_1, rfl, HA, HK1, HB⟩ := hrel
    cases gk with
    | zero => exact absurd HA.out (by simp [vinculumref49_Valid.l0])
    | succ k1 =>
      have H := HA.out
      clear HA
      simp only [vinculumref49_Valid.l0] at H
      by_cases c2 : x3_1 < (l0.length : Int)
      · rw [if_pos c2] at H
        have c2b0 : decide (x3_1 < (l0.length : Int)) = true := decide_eq_true c2
        clear c2
        by_cases c3 : 0 ≤ x3_1
        · rw [if_pos c3] at H
          have c3b0 : decide (0 ≤ x3_1) = true := decide_eq_true c3
          clear c3
          replace H := Option.bind_eq_some_iff.mp H
          obtain ⟨t161, A40, H⟩ := H
          replace H : (if t161 = true then (vinculumref49_Valid.l1 k1 l0 x3_1 0) else (some false)) = some r := H
          have A4 := Aside0.mk A40
          clear A40
          by_cases c5 : t161 = true
          · subst c5
            have H1 : (vinculumref49_Valid.l1 k1 l0 x3_1 0) = some r := by rw [if_pos rfl] at H; exact H
            clear H
            have H := H1
            clear H1
            have H' := Aside0.mk H
            clear H
            have p160 : 0 ≤ (x3_1 : Int) := of_decide_eq_true (by first | (with_reducible assumption) | assumption)
            have q160 : x3_1 < (l0.length : Int) := of_decide_eq_true (by first | (with_reducible assumption) | assumption)
            obtain ⟨ad160, e160, hx160_0, hx160_1, hx160_2, hx160_3, hx160_4, hx160_5⟩ := at_T38 HR0.out x3_1 p160 q160
            cases e160
            replace hx160_0 := (HB.out.cell (World.block_lt_of_cell? w _ hx160_0)).trans hx160_0
            replace hx160_1 := (HB.out.cell (World.block_lt_of_cell? w _ hx160_1)).trans hx160_1
            replace hx160_2 := (HB.out.cell (World.block_lt_of_cell? w _ hx160_2)).trans hx160_2
            replace hx160_3 := (HB.out.cell (World.block_lt_of_cell? w _ hx160_3)).trans hx160_3
            replace hx160_4 := (HB.out.cell (World.block_lt_of_cell? w _ hx160_4)).trans hx160_4
            replace hx160_5 := (HB.out.cell (World.block_lt_of_cell? w _ hx160_5)).trans hx160_5
            replace p160 := eq_true p160
            replace q160 := eq_true q160
            go_wp2_with (first | ((with_reducible refine gate_callee (f := 24) rfl ?_); refine goesL_ (some 15) rfl rfl Tryd.func24 (by kernel_rfl) rfl #[.agg #[.int .i64 ((rd_T38 l0 x3_1).f0), .string ((rd_T38 l0 x3_1).f1), .string ((rd_T38 l0 x3_1).f2), .int .i64 ((rd_T38 l0 x3_1).f3), .int .i64 ((rd_T38 l0 x3_1).f4), .int .i64 ((rd_T38 l0 x3_1).f5)]] rfl (by (try simp only [List.map_toArray, List.map_cons, List.map_nil]); first | done | rfl | (simp only [List.length_drop, List.length_take]; rfl)) ?_; (with_reducible refine (vinculumref49_Proper.calls k1 ((rd_T38 l0 x3_1).f0) ((rd_T38 l0 x3_1).f1) ((rd_T38 l0 x3_1).f2) ((rd_T38 l0 x3_1).f3) ((rd_T38 l0 x3_1).f4) ((rd_T38 l0 x3_1).f5) true _ A4.out).mono ?_); rintro e w6 ⟨rfl, hb⟩; refine ⟨_, rfl, ?_⟩; have n0_ := Aside0.mk (below_step (by repeat (first | (with_reducible first | exact HB.out | apply below_alloc | apply pw_below_drewN | apply below_drew1) | exact HB.out)) hb); clear HB; have HB := n0_; clear n0_; (try clear hb); (try clear hb2); (try clear hk); (try clear hi)))
            go_loopg [4] k1 (fun kq v4 w' => ∃ (x4_2 : Int), v4 = .int .i64 x4_2 ∧ Aside0 (vinculumref49_Valid.l1 kq l0 x3_1 x4_2 = some r) ∧ Aside0 (kq ≤ k1) ∧ Aside0 (Below w.heap.size w w'))
            case atStart => exact ⟨(0), (by first | rfl | (simp; done) | (simp [*]; done)), H', ⟨Nat.le_refl _⟩, ⟨by repeat (first | (with_reducible first | exact HB.out | apply below_alloc | apply pw_below_drewN | apply below_drew1) | exact HB.out)⟩⟩
            case round =>
              clear H'
              try clear c1
              try clear p1
              try clear q1
              try clear hx1
              try clear c2
              try clear c2b0
              try clear p2
              try clear c3
              try clear c3b0
              try clear c5
              try clear hx160_0
              try clear hx160_1
              try clear hx160_2
              try clear hx160_3
              try clear hx160_4
              try clear hx160_5
              try clear p160
              try clear q160
              obtain ⟨x4_2, rfl, HA, HK2, HB⟩ := hrel
              cases gk with
              | zero => exact absurd HA.out (by simp [vinculumref49_Valid.l1])
              | succ k2 =>
                have H := HA.out
                clear HA
                simp only [vinculumref49_Valid.l1] at H
                by_cases c7 : x4_2 < x3_1
                · rw [if_pos c7] at H
                  have c7b0 : decide (x4_2 < x3_1) = true := decide_eq_true c7
                  clear c7
                  by_cases c8 : 0 ≤ x3_1
                  · rw [if_pos c8] at H
                    have c8b0 : decide (0 ≤ x3_1) = true := decide_eq_true c8
                    clear c8
                    by_cases c9 : x3_1 < (l0.length : Int)
                    · rw [if_pos c9] at H
                      have c9b0 : decide (x3_1 < (l0.length : Int)) = true := decide_eq_true c9
                      clear c9
                      by_cases c10 : 0 ≤ x4_2
                      · rw [if_pos c10] at H
                        have c10b0 : decide (0 ≤ x4_2) = true := decide_eq_true c10
                        clear c10
                        by_cases c11 : x4_2 < (l0.length : Int)
                        · rw [if_pos c11] at H
                          have c11b0 : decide (x4_2 < (l0.length : Int)) = true := decide_eq_true c11
                          clear c11
                          replace H := Option.bind_eq_some_iff.mp H
                          obtain ⟨t164, A120, H⟩ := H
                          replace H : (if t164 = true then (some false) else (vinculumref49_Valid.l1 k2 l0 x3_1 (wrap64 (x4_2 + 1)))) = some r := H
                          have A12 := Aside0.mk A120
                          clear A120
                          by_cases c13 : t164 = true
                          · subst c13
                            have H1 : (some false) = some r := by rw [if_pos rfl] at H; exact H
                            clear H
                            have H := H1
                            clear H1
                            obtain rfl := Option.some.inj H
                            try go_wp2
                            have n0_ := Aside0.mk (below_drew1 HB.out)
                            clear HB
                            have HB := n0_
                            clear n0_
                            have p162 : 0 ≤ (x3_1 : Int) := of_decide_eq_true (by first | (with_reducible assumption) | assumption)
                            have q162 : x3_1 < (l0.length : Int) := of_decide_eq_true (by first | (with_reducible assumption) | assumption)
                            obtain ⟨ad162, e162, hx162_0, hx162_1, hx162_2, hx162_3, hx162_4, hx162_5⟩ := at_T38 HR0.out x3_1 p162 q162
                            have hw162_5 := hx162_5
                            have hw162_4 := hx162_4
                            have hw162_3 := hx162_3
                            have hw162_2 := hx162_2
                            have hw162_1 := hx162_1
                            have hw162_0 := hx162_0
                            obtain rfl : ad160 = ad162 := (by injection e162)
                            replace hx162_0 := (HB.out.cell (World.block_lt_of_cell? w _ hx162_0)).trans hx162_0
                            replace hx162_1 := (HB.out.cell (World.block_lt_of_cell? w _ hx162_1)).trans hx162_1
                            replace hx162_2 := (HB.out.cell (World.block_lt_of_cell? w _ hx162_2)).trans hx162_2
                            replace hx162_3 := (HB.out.cell (World.block_lt_of_cell? w _ hx162_3)).trans hx162_3
                            replace hx162_4 := (HB.out.cell (World.block_lt_of_cell? w _ hx162_4)).trans hx162_4
                            replace hx162_5 := (HB.out.cell (World.block_lt_of_cell? w _ hx162_5)).trans hx162_5
                            replace p162 := eq_true p162
                            replace q162 := eq_true q162
                            have p163 : 0 ≤ (x4_2 : Int) := of_decide_eq_true (by first | (with_reducible assumption) | assumption)
                            have q163 : x4_2 < (l0.length : Int) := of_decide_eq_true (by first | (with_reducible assumption) | assumption)
                            obtain ⟨ad163, e163, hx163_0, hx163_1, hx163_2, hx163_3, hx163_4, hx163_5⟩ := at_T38 HR0.out x4_2 p163 q163
                            have hw163_5 := hx163_5
                            have hw163_4 := hx163_4
                            have hw163_3 := hx163_3
                            have hw163_2 := hx163_2
                            have hw163_1 := hx163_1
                            have hw163_0 := hx163_0
                            obtain rfl : ad160 = ad163 := (by injection e163)
                            replace hx163_0 := (HB.out.cell (World.block_lt_of_cell? w _ hx163_0)).trans hx163_0
                            replace hx163_1 := (HB.out.cell (World.block_lt_of_cell? w _ hx163_1)).trans hx163_1
                            replace hx163_2 := (HB.out.cell (World.block_lt_of_cell? w _ hx163_2)).trans hx163_2
                            replace hx163_3 := (HB.out.cell (World.block_lt_of_cell? w _ hx163_3)).trans hx163_3
                            replace hx163_4 := (HB.out.cell (World.block_lt_of_cell? w _ hx163_4)).trans hx163_4
                            replace hx163_5 := (HB.out.cell (World.block_lt_of_cell? w _ hx163_5)).trans hx163_5
                            replace p163 := eq_true p163
                            replace q163 := eq_true q163
                            refine start_ (n := 9) (S := fun w' => w'.cell? (ad160.add ((x3_1).toNat * 6)) = some (.int .i64 ((rd_T38 l0 x3_1).f0)) ∧ w'.cell? ⟨(ad160.add ((x3_1).toNat * 6)).block, (ad160.add ((x3_1).toNat * 6)).off + 1, none⟩ = some (.string ((rd_T38 l0 x3_1).f1)) ∧ w'.cell? ⟨(ad160.add ((x3_1).toNat * 6)).block, (ad160.add ((x3_1).toNat * 6)).off + 2, none⟩ = some (.string ((rd_T38 l0 x3_1).f2)) ∧ w'.cell? ⟨(ad160.add ((x3_1).toNat * 6)).block, (ad160.add ((x3_1).toNat * 6)).off + 3, none⟩ = some (.int .i64 ((rd_T38 l0 x3_1).f3)) ∧ w'.cell? ⟨(ad160.add ((x3_1).toNat * 6)).block, (ad160.add ((x3_1).toNat * 6)).off + 4, none⟩ = some (.int .i64 ((rd_T38 l0 x3_1).f4)) ∧ w'.cell? ⟨(ad160.add ((x3_1).toNat * 6)).block, (ad160.add ((x3_1).toNat * 6)).off + 5, none⟩ = some (.int .i64 ((rd_T38 l0 x3_1).f5)) ∧ w'.cell? (ad160.add ((x4_2).toNat * 6)) = some (.int .i64 ((rd_T38 l0 x4_2).f0)) ∧ w'.cell? ⟨(ad160.add ((x4_2).toNat * 6)).block, (ad160.add ((x4_2).toNat * 6)).off + 1, none⟩ = some (.string ((rd_T38 l0 x4_2).f1)) ∧ w'.cell? ⟨(ad160.add ((x4_2).toNat * 6)).block, (ad160.add ((x4_2).toNat * 6)).off + 2, none⟩ = some (.string ((rd_T38 l0 x4_2).f2)) ∧ w'.cell? ⟨(ad160.add ((x4_2).toNat * 6)).block, (ad160.add ((x4_2).toNat * 6)).off + 3, none⟩ = some (.int .i64 ((rd_T38 l0 x4_2).f3)) ∧ w'.cell? ⟨(ad160.add ((x4_2).toNat * 6)).block, (ad160.add ((x4_2).toNat * 6)).off + 4, none⟩ = some (.int .i64 ((rd_T38 l0 x4_2).f4)) ∧ w'.cell? ⟨(ad160.add ((x4_2).toNat * 6)).block, (ad160.add ((x4_2).toNat * 6)).off + 5, none⟩ = some (.int .i64 ((rd_T38 l0 x4_2).f5))) (ds := []) #[false, false, false, false, false, false, false, false, false] (by kernel_rfl) rfl rfl ⟨((HB.out.cell (World.block_lt_of_cell? w _ hw162_0)).trans hw162_0), ((HB.out.cell (World.block_lt_of_cell? w _ hw162_1)).trans hw162_1), ((HB.out.cell (World.block_lt_of_cell? w _ hw162_2)).trans hw162_2), ((HB.out.cell (World.block_lt_of_cell? w _ hw162_3)).trans hw162_3), ((HB.out.cell (World.block_lt_of_cell? w _ hw162_4)).trans hw162_4), ((HB.out.cell (World.block_lt_of_cell? w _ hw162_5)).trans hw162_5), ((HB.out.cell (World.block_lt_of_cell? w _ hw163_0)).trans hw163_0), ((HB.out.cell (World.block_lt_of_cell? w _ hw163_1)).trans hw163_1), ((HB.out.cell (World.block_lt_of_cell? w _ hw163_2)).trans hw163_2), ((HB.out.cell (World.block_lt_of_cell? w _ hw163_3)).trans hw163_3), ((HB.out.cell (World.block_lt_of_cell? w _ hw163_4)).trans hw163_4), ((HB.out.cell (World.block_lt_of_cell? w _ hw163_5)).trans hw163_5)⟩ (fun hHeld => ?_); refine with_tabW vinculumref49_Valid.tab9 vinculumref49_Valid.bits9 (fun HT_ HW_ => ?_)
                            generalize wr.drew = w14 at HB hx162_0 hx162_1 hx162_2 hx162_3 hx162_4 hx162_5 hx163_0 hx163_1 hx163_2 hx163_3 hx163_4 hx163_5 hHeld ⊢
                            refine pure_ (i := 0) (N := some 22) (v := ?_) (a' := ?_) #[true, false, false, false, false, false, false, false, false] rfl rfl (any_of HT_.out (by kernel_rfl)) (fun _ _ _ h => h) (Or.inl ⟨by rfl, ?_⟩) ?_ ?_
                            rotate_left
                            · intro w'
                              go_simp
                              with_reducible rfl
                            rotate_left
                            · simp only [Act.put, List.setIfInBounds_toArray, List.set_cons_zero, List.set_cons_succ, i64_w, i32_w]
                              rfl
                            refine pure_ (i := 1) (N := some 23) (v := ?_) (a' := ?_) #[true, true, false, false, false, false, false, false, false] rfl rfl (any_of HT_.out (by kernel_rfl)) (fun _ _ _ h => h) (Or.inl ⟨by rfl, ?_⟩) ?_ ?_
                            rotate_left
                            · intro w'
                              go_simp
                              with_reducible rfl
                            rotate_left
                            · simp only [Act.put, List.setIfInBounds_toArray, List.set_cons_zero, List.set_cons_succ, i64_w, i32_w]
                              rfl
                            refine pure_ (i := 2) (N := some 24) (v := ?_) (a' := ?_) #[true, true, true, false, false, false, false, false, false] rfl rfl (any_of HT_.out (by kernel_rfl)) (fun _ _ _ h => h) (Or.inl ⟨by rfl, ?_⟩) ?_ ?_
                            rotate_left
                            · intro w'
                              go_simp
                              with_reducible rfl
                            rotate_left
                            · simp only [Act.put, List.setIfInBounds_toArray, List.set_cons_zero, List.set_cons_succ, i64_w, i32_w]
                              rfl
                            refine pure_ (i := 4) (N := some 26) (v := ?_) (a' := ?_) #[true, true, true, false, true, false, false, false, false] rfl rfl (any_of HT_.out (by kernel_rfl)) (fun _ _ _ h => h) (Or.inl ⟨by rfl, ?_⟩) ?_ ?_
                            rotate_left
                            · intro w'
                              go_simp
                              with_reducible rfl
                            rotate_left
                            · simp only [Act.put, List.setIfInBounds_toArray, List.set_cons_zero, List.set_cons_succ, i64_w, i32_w]
                              rfl
                            refine pure_ (i := 5) (N := some 27) (v := ?_) (a' := ?_) #[true, true, true, false, true, true, false, false, false] rfl rfl (any_of HT_.out (by kernel_rfl)) (fun _ _ _ h => h) (Or.inl ⟨by rfl, ?_⟩) ?_ ?_
                            rotate_left
                            · intro w'
                              go_simp
                              with_reducible rfl
                            rotate_left
                            · simp only [Act.put, List.setIfInBounds_toArray, List.set_cons_zero, List.set_cons_succ, i64_w, i32_w]
                              rfl
                            refine pure_ (i := 6) (N := some 28) (v := ?_) (a' := ?_) #[true, true, true, false, true, true, true, false, false] rfl rfl (any_of HT_.out (by kernel_rfl)) (fun _ _ _ h => h) (Or.inl ⟨by rfl, ?_⟩) ?_ ?_
                            rotate_left
                            · intro w'
                              go_simp
                              with_reducible rfl
                            rotate_left
                            · simp only [Act.put, List.setIfInBounds_toArray, List.set_cons_zero, List.set_cons_succ, i64_w, i32_w]
                              rfl
                            refine take_ (i := 3) (N := some 25) (v := ?_) (a' := ?_) #[true, true, true, true, true, true, true, false, false] rfl rfl (take_ofW HT_.out HW_.out (by kernel_rfl)) (fun _ _ _ h => h) (Or.inl ⟨by rfl, ?_⟩) hHeld ?_ ?_
                            rotate_left
                            · rintro w' ⟨s0, s1, s2, s3, s4, s5, s6, s7, s8, s9, s10, s11⟩
                              go_simp
                              with_reducible rfl
                            rotate_left
                            · simp only [Act.put, List.setIfInBounds_toArray, List.set_cons_zero, List.set_cons_succ, i64_w, i32_w]
                              rfl
                            refine take_ (i := 7) (N := some 29) (v := ?_) (a' := ?_) #[true, true, true, true, true, true, true, true, false] rfl rfl (take_ofW HT_.out HW_.out (by kernel_rfl)) (fun _ _ _ h => h) (Or.inl ⟨by rfl, ?_⟩) hHeld ?_ ?_
                            rotate_left
                            · rintro w' ⟨s0, s1, s2, s3, s4, s5, s6, s7, s8, s9, s10, s11⟩
                              go_simp
                              with_reducible rfl
                            rotate_left
                            · simp only [Act.put, List.setIfInBounds_toArray, List.set_cons_zero, List.set_cons_succ, i64_w, i32_w]
                              rfl
                            refine one_ (i := 8) (N := some 30) #[true, true, true, true, true, true, true, true, true] rfl rfl (one_of HT_.out (by kernel_rfl)) (by decide) (fun K hK => ?_)
                            refine goes_ Tryd.func25 (by kernel_rfl) rfl #[.agg #[.int .i64 ((rd_T38 l0 x3_1).f0), .string ((rd_T38 l0 x3_1).f1), .string ((rd_T38 l0 x3_1).f2), .int .i64 ((rd_T38 l0 x3_1).f3), .int .i64 ((rd_T38 l0 x3_1).f4), .int .i64 ((rd_T38 l0 x3_1).f5)], .agg #[.int .i64 ((rd_T38 l0 x4_2).f0), .string ((rd_T38 l0 x4_2).f1), .string ((rd_T38 l0 x4_2).f2), .int .i64 ((rd_T38 l0 x4_2).f3), .int .i64 ((rd_T38 l0 x4_2).f4), .int .i64 ((rd_T38 l0 x4_2).f5)]] (by rfl) rfl rfl (by (try simp only [List.map_toArray, List.map_cons, List.map_nil]); first | done | rfl | (simp only [List.length_drop, List.length_take]; rfl)) ?_
                            with_reducible refine (vinculumref49_clash.calls ((rd_T38 l0 x3_1).f0) ((rd_T38 l0 x3_1).f1) ((rd_T38 l0 x3_1).f2) ((rd_T38 l0 x3_1).f3) ((rd_T38 l0 x3_1).f4) ((rd_T38 l0 x3_1).f5) ((rd_T38 l0 x4_2).f0) ((rd_T38 l0 x4_2).f1) ((rd_T38 l0 x4_2).f2) ((rd_T38 l0 x4_2).f3) ((rd_T38 l0 x4_2).f4) ((rd_T38 l0 x4_2).f5) true _ A12.out).mono ?_
                            rintro e w15 ⟨rfl, hb⟩
                            refine ⟨_, rfl, ?_⟩
                            have n0_ := Aside0.mk (below_step (by repeat (first | (with_reducible first | exact HB.out | apply below_alloc | apply pw_below_drewN | apply below_drew1) | exact HB.out)) hb)
                            clear HB
                            have HB := n0_
                            clear n0_
                            (try clear hb)
                            (try clear hb2)
                            (try clear hk)
                            (try clear hi)
                            refine hK.out _ _ ⟨((HB.out.cell (World.block_lt_of_cell? w _ hw162_0)).trans hw162_0), ((HB.out.cell (World.block_lt_of_cell? w _ hw162_1)).trans hw162_1), ((HB.out.cell (World.block_lt_of_cell? w _ hw162_2)).trans hw162_2), ((HB.out.cell (World.block_lt_of_cell? w _ hw162_3)).trans hw162_3), ((HB.out.cell (World.block_lt_of_cell? w _ hw162_4)).trans hw162_4), ((HB.out.cell (World.block_lt_of_cell? w _ hw162_5)).trans hw162_5), ((HB.out.cell (World.block_lt_of_cell? w _ hw163_0)).trans hw163_0), ((HB.out.cell (World.block_lt_of_cell? w _ hw163_1)).trans hw163_1), ((HB.out.cell (World.block_lt_of_cell? w _ hw163_2)).trans hw163_2), ((HB.out.cell (World.block_lt_of_cell? w _ hw163_3)).trans hw163_3), ((HB.out.cell (World.block_lt_of_cell? w _ hw163_4)).trans hw163_4), ((HB.out.cell (World.block_lt_of_cell? w _ hw163_5)).trans hw163_5)⟩ (fun hHeld => ?_)
                            clear hK K
                            refine norm_ (a' := ?_) ?_ ?_
                            rotate_left
                            · show Act.put _ (some 30) _ = _
                              simp only [Act.put, List.setIfInBounds_toArray, List.set_cons_zero, List.set_cons_succ, i64_w, i32_w]
                              rfl
                            refine done_ (done_of HT_.out (by kernel_rfl)) ?_
                            try go_wp2
                            go_ret
                            exact ⟨by first | rfl | (simp [errW_none, errW_some] <;> rfl) | (simp [*, errW_none, errW_some] <;> rfl), by repeat (first | (with_reducible first | exact HB.out | apply below_alloc | apply pw_below_drewN | apply below_drew1) | exact HB.out)⟩
                          · replace c13 := Bool.eq_false_iff.mpr c13
                            subst c13
                            have H1 : (vinculumref49_Valid.l1 k2 l0 x3_1 (wrap64 (x4_2 + 1))) = some r := by rw [if_neg (show ¬ (false = true) by decide)] at H; exact H
                            clear H
                            have H := H1
                            clear H1
                            have H' := Aside0.mk H
                            clear H
                            try go_wp2
                            have n0_ := Aside0.mk (below_drew1 HB.out)
                            clear HB
                            have HB := n0_
                            clear n0_
                            have p162 : 0 ≤ (x3_1 : Int) := of_decide_eq_true (by first | (with_reducible assumption) | assumption)
                            have q162 : x3_1 < (l0.length : Int) := of_decide_eq_true (by first | (with_reducible assumption) | assumption)
                            obtain ⟨ad162, e162, hx162_0, hx162_1, hx162_2, hx162_3, hx162_4, hx162_5⟩ := at_T38 HR0.out x3_1 p162 q162
                            have hw162_5 := hx162_5
                            have hw162_4 := hx162_4
                            have hw162_3 := hx162_3
                            have hw162_2 := hx162_2
                            have hw162_1 := hx162_1
                            have hw162_0 := hx162_0
                            obtain rfl : ad160 = ad162 := (by injection e162)
                            replace hx162_0 := (HB.out.cell (World.block_lt_of_cell? w _ hx162_0)).trans hx162_0
                            replace hx162_1 := (HB.out.cell (World.block_lt_of_cell? w _ hx162_1)).trans hx162_1
                            replace hx162_2 := (HB.out.cell (World.block_lt_of_cell? w _ hx162_2)).trans hx162_2
                            replace hx162_3 := (HB.out.cell (World.block_lt_of_cell? w _ hx162_3)).trans hx162_3
                            replace hx162_4 := (HB.out.cell (World.block_lt_of_cell? w _ hx162_4)).trans hx162_4
                            replace hx162_5 := (HB.out.cell (World.block_lt_of_cell? w _ hx162_5)).trans hx162_5
                            replace p162 := eq_true p162
                            replace q162 := eq_true q162
                            have p163 : 0 ≤ (x4_2 : Int) := of_decide_eq_true (by first | (with_reducible assumption) | assumption)
                            have q163 : x4_2 < (l0.length : Int) := of_decide_eq_true (by first | (with_reducible assumption) | assumption)
                            obtain ⟨ad163, e163, hx163_0, hx163_1, hx163_2, hx163_3, hx163_4, hx163_5⟩ := at_T38 HR0.out x4_2 p163 q163
                            have hw163_5 := hx163_5
                            have hw163_4 := hx163_4
                            have hw163_3 := hx163_3
                            have hw163_2 := hx163_2
                            have hw163_1 := hx163_1
                            have hw163_0 := hx163_0
                            obtain rfl : ad160 = ad163 := (by injection e163)
                            replace hx163_0 := (HB.out.cell (World.block_lt_of_cell? w _ hx163_0)).trans hx163_0
                            replace hx163_1 := (HB.out.cell (World.block_lt_of_cell? w _ hx163_1)).trans hx163_1
                            replace hx163_2 := (HB.out.cell (World.block_lt_of_cell? w _ hx163_2)).trans hx163_2
                            replace hx163_3 := (HB.out.cell (World.block_lt_of_cell? w _ hx163_3)).trans hx163_3
                            replace hx163_4 := (HB.out.cell (World.block_lt_of_cell? w _ hx163_4)).trans hx163_4
                            replace hx163_5 := (HB.out.cell (World.block_lt_of_cell? w _ hx163_5)).trans hx163_5
                            replace p163 := eq_true p163
                            replace q163 := eq_true q163
                            refine start_ (n := 9) (S := fun w' => w'.cell? (ad160.add ((x3_1).toNat * 6)) = some (.int .i64 ((rd_T38 l0 x3_1).f0)) ∧ w'.cell? ⟨(ad160.add ((x3_1).toNat * 6)).block, (ad160.add ((x3_1).toNat * 6)).off + 1, none⟩ = some (.string ((rd_T38 l0 x3_1).f1)) ∧ w'.cell? ⟨(ad160.add ((x3_1).toNat * 6)).block, (ad160.add ((x3_1).toNat * 6)).off + 2, none⟩ = some (.string ((rd_T38 l0 x3_1).f2)) ∧ w'.cell? ⟨(ad160.add ((x3_1).toNat * 6)).block, (ad160.add ((x3_1).toNat * 6)).off + 3, none⟩ = some (.int .i64 ((rd_T38 l0 x3_1).f3)) ∧ w'.cell? ⟨(ad160.add ((x3_1).toNat * 6)).block, (ad160.add ((x3_1).toNat * 6)).off + 4, none⟩ = some (.int .i64 ((rd_T38 l0 x3_1).f4)) ∧ w'.cell? ⟨(ad160.add ((x3_1).toNat * 6)).block, (ad160.add ((x3_1).toNat * 6)).off + 5, none⟩ = some (.int .i64 ((rd_T38 l0 x3_1).f5)) ∧ w'.cell? (ad160.add ((x4_2).toNat * 6)) = some (.int .i64 ((rd_T38 l0 x4_2).f0)) ∧ w'.cell? ⟨(ad160.add ((x4_2).toNat * 6)).block, (ad160.add ((x4_2).toNat * 6)).off + 1, none⟩ = some (.string ((rd_T38 l0 x4_2).f1)) ∧ w'.cell? ⟨(ad160.add ((x4_2).toNat * 6)).block, (ad160.add ((x4_2).toNat * 6)).off + 2, none⟩ = some (.string ((rd_T38 l0 x4_2).f2)) ∧ w'.cell? ⟨(ad160.add ((x4_2).toNat * 6)).block, (ad160.add ((x4_2).toNat * 6)).off + 3, none⟩ = some (.int .i64 ((rd_T38 l0 x4_2).f3)) ∧ w'.cell? ⟨(ad160.add ((x4_2).toNat * 6)).block, (ad160.add ((x4_2).toNat * 6)).off + 4, none⟩ = some (.int .i64 ((rd_T38 l0 x4_2).f4)) ∧ w'.cell? ⟨(ad160.add ((x4_2).toNat * 6)).block, (ad160.add ((x4_2).toNat * 6)).off + 5, none⟩ = some (.int .i64 ((rd_T38 l0 x4_2).f5))) (ds := []) #[false, false, false, false, false, false, false, false, false] (by kernel_rfl) rfl rfl ⟨((HB.out.cell (World.block_lt_of_cell? w _ hw162_0)).trans hw162_0), ((HB.out.cell (World.block_lt_of_cell? w _ hw162_1)).trans hw162_1), ((HB.out.cell (World.block_lt_of_cell? w _ hw162_2)).trans hw162_2), ((HB.out.cell (World.block_lt_of_cell? w _ hw162_3)).trans hw162_3), ((HB.out.cell (World.block_lt_of_cell? w _ hw162_4)).trans hw162_4), ((HB.out.cell (World.block_lt_of_cell? w _ hw162_5)).trans hw162_5), ((HB.out.cell (World.block_lt_of_cell? w _ hw163_0)).trans hw163_0), ((HB.out.cell (World.block_lt_of_cell? w _ hw163_1)).trans hw163_1), ((HB.out.cell (World.block_lt_of_cell? w _ hw163_2)).trans hw163_2), ((HB.out.cell (World.block_lt_of_cell? w _ hw163_3)).trans hw163_3), ((HB.out.cell (World.block_lt_of_cell? w _ hw163_4)).trans hw163_4), ((HB.out.cell (World.block_lt_of_cell? w _ hw163_5)).trans hw163_5)⟩ (fun hHeld => ?_); refine with_tabW vinculumref49_Valid.tab9 vinculumref49_Valid.bits9 (fun HT_ HW_ => ?_)
                            generalize wr.drew = w16 at HB hx162_0 hx162_1 hx162_2 hx162_3 hx162_4 hx162_5 hx163_0 hx163_1 hx163_2 hx163_3 hx163_4 hx163_5 hHeld ⊢
                            refine pure_ (i := 0) (N := some 22) (v := ?_) (a' := ?_) #[true, false, false, false, false, false, false, false, false] rfl rfl (any_of HT_.out (by kernel_rfl)) (fun _ _ _ h => h) (Or.inl ⟨by rfl, ?_⟩) ?_ ?_
                            rotate_left
                            · intro w'
                              go_simp
                              with_reducible rfl
                            rotate_left
                            · simp only [Act.put, List.setIfInBounds_toArray, List.set_cons_zero, List.set_cons_succ, i64_w, i32_w]
                              rfl
                            refine pure_ (i := 1) (N := some 23) (v := ?_) (a' := ?_) #[true, true, false, false, false, false, false, false, false] rfl rfl (any_of HT_.out (by kernel_rfl)) (fun _ _ _ h => h) (Or.inl ⟨by rfl, ?_⟩) ?_ ?_
                            rotate_left
                            · intro w'
                              go_simp
                              with_reducible rfl
                            rotate_left
                            · simp only [Act.put, List.setIfInBounds_toArray, List.set_cons_zero, List.set_cons_succ, i64_w, i32_w]
                              rfl
                            refine pure_ (i := 2) (N := some 24) (v := ?_) (a' := ?_) #[true, true, true, false, false, false, false, false, false] rfl rfl (any_of HT_.out (by kernel_rfl)) (fun _ _ _ h => h) (Or.inl ⟨by rfl, ?_⟩) ?_ ?_
                            rotate_left
                            · intro w'
                              go_simp
                              with_reducible rfl
                            rotate_left
                            · simp only [Act.put, List.setIfInBounds_toArray, List.set_cons_zero, List.set_cons_succ, i64_w, i32_w]
                              rfl
                            refine pure_ (i := 4) (N := some 26) (v := ?_) (a' := ?_) #[true, true, true, false, true, false, false, false, false] rfl rfl (any_of HT_.out (by kernel_rfl)) (fun _ _ _ h => h) (Or.inl ⟨by rfl, ?_⟩) ?_ ?_
                            rotate_left
                            · intro w'
                              go_simp
                              with_reducible rfl
                            rotate_left
                            · simp only [Act.put, List.setIfInBounds_toArray, List.set_cons_zero, List.set_cons_succ, i64_w, i32_w]
                              rfl
                            refine pure_ (i := 5) (N := some 27) (v := ?_) (a' := ?_) #[true, true, true, false, true, true, false, false, false] rfl rfl (any_of HT_.out (by kernel_rfl)) (fun _ _ _ h => h) (Or.inl ⟨by rfl, ?_⟩) ?_ ?_
                            rotate_left
                            · intro w'
                              go_simp
                              with_reducible rfl
                            rotate_left
                            · simp only [Act.put, List.setIfInBounds_toArray, List.set_cons_zero, List.set_cons_succ, i64_w, i32_w]
                              rfl
                            refine pure_ (i := 6) (N := some 28) (v := ?_) (a' := ?_) #[true, true, true, false, true, true, true, false, false] rfl rfl (any_of HT_.out (by kernel_rfl)) (fun _ _ _ h => h) (Or.inl ⟨by rfl, ?_⟩) ?_ ?_
                            rotate_left
                            · intro w'
                              go_simp
                              with_reducible rfl
                            rotate_left
                            · simp only [Act.put, List.setIfInBounds_toArray, List.set_cons_zero, List.set_cons_succ, i64_w, i32_w]
                              rfl
                            refine take_ (i := 3) (N := some 25) (v := ?_) (a' := ?_) #[true, true, true, true, true, true, true, false, false] rfl rfl (take_ofW HT_.out HW_.out (by kernel_rfl)) (fun _ _ _ h => h) (Or.inl ⟨by rfl, ?_⟩) hHeld ?_ ?_
                            rotate_left
                            · rintro w' ⟨s0, s1, s2, s3, s4, s5, s6, s7, s8, s9, s10, s11⟩
                              go_simp
                              with_reducible rfl
                            rotate_left
                            · simp only [Act.put, List.setIfInBounds_toArray, List.set_cons_zero, List.set_cons_succ, i64_w, i32_w]
                              rfl
                            refine take_ (i := 7) (N := some 29) (v := ?_) (a' := ?_) #[true, true, true, true, true, true, true, true, false] rfl rfl (take_ofW HT_.out HW_.out (by kernel_rfl)) (fun _ _ _ h => h) (Or.inl ⟨by rfl, ?_⟩) hHeld ?_ ?_
                            rotate_left
                            · rintro w' ⟨s0, s1, s2, s3, s4, s5, s6, s7, s8, s9, s10, s11⟩
                              go_simp
                              with_reducible rfl
                            rotate_left
                            · simp only [Act.put, List.setIfInBounds_toArray, List.set_cons_zero, List.set_cons_succ, i64_w, i32_w]
                              rfl
                            refine one_ (i := 8) (N := some 30) #[true, true, true, true, true, true, true, true, true] rfl rfl (one_of HT_.out (by kernel_rfl)) (by decide) (fun K hK => ?_)
                            refine goes_ Tryd.func25 (by kernel_rfl) rfl #[.agg #[.int .i64 ((rd_T38 l0 x3_1).f0), .string ((rd_T38 l0 x3_1).f1), .string ((rd_T38 l0 x3_1).f2), .int .i64 ((rd_T38 l0 x3_1).f3), .int .i64 ((rd_T38 l0 x3_1).f4), .int .i64 ((rd_T38 l0 x3_1).f5)], .agg #[.int .i64 ((rd_T38 l0 x4_2).f0), .string ((rd_T38 l0 x4_2).f1), .string ((rd_T38 l0 x4_2).f2), .int .i64 ((rd_T38 l0 x4_2).f3), .int .i64 ((rd_T38 l0 x4_2).f4), .int .i64 ((rd_T38 l0 x4_2).f5)]] (by rfl) rfl rfl (by (try simp only [List.map_toArray, List.map_cons, List.map_nil]); first | done | rfl | (simp only [List.length_drop, List.length_take]; rfl)) ?_
                            with_reducible refine (vinculumref49_clash.calls ((rd_T38 l0 x3_1).f0) ((rd_T38 l0 x3_1).f1) ((rd_T38 l0 x3_1).f2) ((rd_T38 l0 x3_1).f3) ((rd_T38 l0 x3_1).f4) ((rd_T38 l0 x3_1).f5) ((rd_T38 l0 x4_2).f0) ((rd_T38 l0 x4_2).f1) ((rd_T38 l0 x4_2).f2) ((rd_T38 l0 x4_2).f3) ((rd_T38 l0 x4_2).f4) ((rd_T38 l0 x4_2).f5) false _ A12.out).mono ?_
                            rintro e w17 ⟨rfl, hb⟩
                            refine ⟨_, rfl, ?_⟩
                            have n0_ := Aside0.mk (below_step (by repeat (first | (with_reducible first | exact HB.out | apply below_alloc | apply pw_below_drewN | apply below_drew1) | exact HB.out)) hb)
                            clear HB
                            have HB := n0_
                            clear n0_
                            (try clear hb)
                            (try clear hb2)
                            (try clear hk)
                            (try clear hi)
                            refine hK.out _ _ ⟨((HB.out.cell (World.block_lt_of_cell? w _ hw162_0)).trans hw162_0), ((HB.out.cell (World.block_lt_of_cell? w _ hw162_1)).trans hw162_1), ((HB.out.cell (World.block_lt_of_cell? w _ hw162_2)).trans hw162_2), ((HB.out.cell (World.block_lt_of_cell? w _ hw162_3)).trans hw162_3), ((HB.out.cell (World.block_lt_of_cell? w _ hw162_4)).trans hw162_4), ((HB.out.cell (World.block_lt_of_cell? w _ hw162_5)).trans hw162_5), ((HB.out.cell (World.block_lt_of_cell? w _ hw163_0)).trans hw163_0), ((HB.out.cell (World.block_lt_of_cell? w _ hw163_1)).trans hw163_1), ((HB.out.cell (World.block_lt_of_cell? w _ hw163_2)).trans hw163_2), ((HB.out.cell (World.block_lt_of_cell? w _ hw163_3)).trans hw163_3), ((HB.out.cell (World.block_lt_of_cell? w _ hw163_4)).trans hw163_4), ((HB.out.cell (World.block_lt_of_cell? w _ hw163_5)).trans hw163_5)⟩ (fun hHeld => ?_)
                            clear hK K
                            refine norm_ (a' := ?_) ?_ ?_
                            rotate_left
                            · show Act.put _ (some 30) _ = _
                              simp only [Act.put, List.setIfInBounds_toArray, List.set_cons_zero, List.set_cons_succ, i64_w, i32_w]
                              rfl
                            refine done_ (done_of HT_.out (by kernel_rfl)) ?_
                            try go_wp2
                            go_roundg k2
                            case measure => have := HK1.out; have := HK2.out; omega
                            case rel => exact ⟨(wrap64 (x4_2 + 1)), (by first | rfl | (simp; done) | (simp [*]; done)), H', ⟨by have := HK1.out; have := HK2.out; omega⟩, ⟨by repeat (first | (with_reducible first | exact HB.out | apply below_alloc | apply pw_below_drewN | apply below_drew1) | exact HB.out)⟩⟩
                        · rw [if_neg c11] at H
                          exact absurd H (by simp)
                      · rw [if_neg c10] at H
                        exact absurd H (by simp)
                    · rw [if_neg c9] at H
                      exact absurd H (by simp)
                  · rw [if_neg c8] at H
                    exact absurd H (by simp)
                · rw [if_neg c7] at H
                  have c7b0 : decide (x4_2 < x3_1) = false := decide_eq_false c7
                  clear c7
                  have H' := Aside0.mk H
                  clear H
                  go_wp2
                  go_roundg k2
                  case measure => have := HK1.out; have := HK2.out; omega
                  case rel => exact ⟨(wrap64 (x3_1 + 1)), (by first | rfl | (simp; done) | (simp [*]; done)), H', ⟨by have := HK1.out; have := HK2.out; omega⟩, ⟨by repeat (first | (with_reducible first | exact HB.out | apply below_alloc | apply pw_below_drewN | apply below_drew1) | exact HB.out)⟩⟩
          · replace c5 := Bool.eq_false_iff.mpr c5
            subst c5
            have H1 : (some false) = some r := by rw [if_neg (show ¬ (false = true) by decide)] at H; exact H
            clear H
            have H := H1
            clear H1
            obtain rfl := Option.some.inj H
            have p160 : 0 ≤ (x3_1 : Int) := of_decide_eq_true (by first | (with_reducible assumption) | assumption)
            have q160 : x3_1 < (l0.length : Int) := of_decide_eq_true (by first | (with_reducible assumption) | assumption)
            obtain ⟨ad160, e160, hx160_0, hx160_1, hx160_2, hx160_3, hx160_4, hx160_5⟩ := at_T38 HR0.out x3_1 p160 q160
            cases e160
            replace hx160_0 := (HB.out.cell (World.block_lt_of_cell? w _ hx160_0)).trans hx160_0
            replace hx160_1 := (HB.out.cell (World.block_lt_of_cell? w _ hx160_1)).trans hx160_1
            replace hx160_2 := (HB.out.cell (World.block_lt_of_cell? w _ hx160_2)).trans hx160_2
            replace hx160_3 := (HB.out.cell (World.block_lt_of_cell? w _ hx160_3)).trans hx160_3
            replace hx160_4 := (HB.out.cell (World.block_lt_of_cell? w _ hx160_4)).trans hx160_4
            replace hx160_5 := (HB.out.cell (World.block_lt_of_cell? w _ hx160_5)).trans hx160_5
            replace p160 := eq_true p160
            replace q160 := eq_true q160
            go_wp2_with (first | ((with_reducible refine gate_callee (f := 24) rfl ?_); refine goesL_ (some 15) rfl rfl Tryd.func24 (by kernel_rfl) rfl #[.agg #[.int .i64 ((rd_T38 l0 x3_1).f0), .string ((rd_T38 l0 x3_1).f1), .string ((rd_T38 l0 x3_1).f2), .int .i64 ((rd_T38 l0 x3_1).f3), .int .i64 ((rd_T38 l0 x3_1).f4), .int .i64 ((rd_T38 l0 x3_1).f5)]] rfl (by (try simp only [List.map_toArray, List.map_cons, List.map_nil]); first | done | rfl | (simp only [List.length_drop, List.length_take]; rfl)) ?_; (with_reducible refine (vinculumref49_Proper.calls k1 ((rd_T38 l0 x3_1).f0) ((rd_T38 l0 x3_1).f1) ((rd_T38 l0 x3_1).f2) ((rd_T38 l0 x3_1).f3) ((rd_T38 l0 x3_1).f4) ((rd_T38 l0 x3_1).f5) false _ A4.out).mono ?_); rintro e w18 ⟨rfl, hb⟩; refine ⟨_, rfl, ?_⟩; have n0_ := Aside0.mk (below_step (by repeat (first | (with_reducible first | exact HB.out | apply below_alloc | apply pw_below_drewN | apply below_drew1) | exact HB.out)) hb); clear HB; have HB := n0_; clear n0_; (try clear hb); (try clear hb2); (try clear hk); (try clear hi)))
            go_ret
            exact ⟨by first | rfl | (simp [errW_none, errW_some] <;> rfl) | (simp [*, errW_none, errW_some] <;> rfl), by repeat (first | (with_reducible first | exact HB.out | apply below_alloc | apply pw_below_drewN | apply below_drew1) | exact HB.out)⟩
        · rw [if_neg c3] at H
          exact absurd H (by simp)
      · rw [if_neg c2] at H
        have c2b0 : decide (x3_1 < (l0.length : Int)) = false := decide_eq_false c2
        clear c2
        obtain rfl := Option.some.inj H
        go_wp2
        go_ret
        exact ⟨by first | rfl | (simp [errW_none, errW_some] <;> rfl) | (simp [*, errW_none, errW_some] <;> rfl), by repeat (first | (with_reducible first | exact HB.out | apply below_alloc | apply pw_below_drewN | apply below_drew1) | exact HB.out)⟩

/-! ### slices_Index_string_string: function 53 -/
def slices_Index_string_string.l0 : Nat → List ByteArray → ByteArray → Int → Int → Option (Int)
  | 0, _, _, _, _ => none
  | k + 1, x0, x1, x7, x8 => if x8 < x7 then (if 0 ≤ x8 then (if x8 < (x0.length : Int) then (if x1.toList = (rdOf ByteArray.empty x0 x8).toList then (some x8) else (slices_Index_string_string.l0 k x0 x1 x7 (wrap64 (x8 + 1)))) else (none)) else (none)) else (some (-1))
def slices_Index_string_string.f (k : Nat) (l0 : List ByteArray) (a1 : ByteArray) : Option (Int) := slices_Index_string_string.l0 k l0 a1 (l0.length : Int) 0
theorem slices_Index_string_string.mono_l : ∀ k, (∀ y0 y1 y2 y3, LeO (slices_Index_string_string.l0 k y0 y1 y2 y3) (slices_Index_string_string.l0 (k + 1) y0 y1 y2 y3))
  | 0 => fun _ _ _ _ r h => by simp [slices_Index_string_string.l0] at h
  | k + 1 => by
    have ih0 := slices_Index_string_string.mono_l k
    · intro y0 y1 y2 y3
      unfold slices_Index_string_string.l0
      repeat' first
      | (with_reducible exact ih0 _ _ _ _)
      | (with_reducible exact LeO.refl _)
      | (with_reducible exact LeO.none _)
      | (with_reducible refine LeO.ite ?_ ?_)
      | (with_reducible refine LeO.bind ?_ (fun _ => ?_))
      | exact ih0 _ _ _ _
      | exact LeO.none _
      | refine LeO.ite ?_ ?_
      | refine LeO.bind ?_ (fun _ => ?_)
theorem slices_Index_string_string.mono : ∀ a0 a1 k, LeO (slices_Index_string_string.f k a0 a1) (slices_Index_string_string.f (k + 1) a0 a1) := by
  intro a0 a1 k
  have ih0 := slices_Index_string_string.mono_l k
  unfold slices_Index_string_string.f
  repeat' first
      | (with_reducible exact ih0 _ _ _ _)
      | (with_reducible exact LeO.refl _)
      | (with_reducible exact LeO.none _)
      | (with_reducible refine LeO.ite ?_ ?_)
      | (with_reducible refine LeO.bind ?_ (fun _ => ?_))
      | exact ih0 _ _ _ _
      | exact LeO.none _
      | refine LeO.ite ?_ ?_
      | refine LeO.bind ?_ (fun _ => ?_)
set_option maxHeartbeats 8000000 in
set_option maxRecDepth 100000 in
theorem slices_Index_string_string.calls (k : Nat) (A0 : Option Addr) (c0 : Nat) (l0 : List ByteArray) (a1 : ByteArray) (r : Int) (w : World) (hr0 : Kd.C Kd.string w A0 l0.length l0) (hc0 : l0.length ≤ c0) (h : slices_Index_string_string.f k l0 a1 = some r) :
    Calls Tryd.prog 53 #[.slice A0 l0.length c0, .string a1] w fun e w' => e = .returned (.int .i64 r) ∧ Drawn0 w w' := by
  have HR0 := Aside0.mk hr0
  have HC0 := Aside0.mk hc0
  clear hr0 hc0
  have H : (slices_Index_string_string.l0 k l0 a1 (l0.length : Int) 0) = some r := h
  clear h
  have H' := Aside0.mk H
  clear H
  go_enter Tryd.func53, Tryd.ntmps53
  go_wp2
  go_loopg [8] k (fun kq v8 w' => ∃ (x8_1 : Int), v8 = .int .i64 x8_1 ∧ Aside0 (slices_Index_string_string.l0 kq l0 a1 (l0.length : Int) x8_1 = some r) ∧ Aside0 (kq ≤ k) ∧ Drawn0 w w')
  case atStart => exact ⟨(0), (by first | rfl | (simp; done) | (simp [*]; done)), H', ⟨Nat.le_refl _⟩, by repeat (first | exact Drawn0.refl _ | apply Drawn0.step)⟩
  case round =>
    clear H'
    try clear p2
    obtain ⟨x8_1, rfl, HA, HK1, ⟨m1, rfl⟩⟩ := hrel
    cases gk with
    | zero => exact absurd HA.out (by simp [slices_Index_string_string.l0])
    | succ k1 =>
      have H := HA.out
      clear HA
      simp only [slices_Index_string_string.l0] at H
      by_cases c3 : x8_1 < (l0.length : Int)
      · rw [if_pos c3] at H
        have c3b0 : decide (x8_1 < (l0.length : Int)) = true := decide_eq_true c3
        clear c3
        by_cases c4 : 0 ≤ x8_1
        · rw [if_pos c4] at H
          have c4b0 : decide (0 ≤ x8_1) = true := decide_eq_true c4
          clear c4
          by_cases c5 : x8_1 < (l0.length : Int)
          · rw [if_pos c5] at H
            have c5b0 : decide (x8_1 < (l0.length : Int)) = true := decide_eq_true c5
            clear c5
            by_cases c6 : a1.toList = (rdOf ByteArray.empty l0 x8_1).toList
            · rw [if_pos c6] at H
              have c6b0 : (a1.toList == (rdOf ByteArray.empty l0 x8_1).toList) = true := beq_iff_eq.mpr c6
              have c6b1 : (a1.toList != (rdOf ByteArray.empty l0 x8_1).toList) = false := bne_eq_false_iff_eq.mpr c6
              clear c6
              obtain rfl := Option.some.inj H
              have p165 : 0 ≤ (x8_1 : Int) := of_decide_eq_true (by first | (with_reducible assumption) | assumption)
              have q165 : x8_1 < (l0.length : Int) := of_decide_eq_true (by first | (with_reducible assumption) | assumption)
              obtain ⟨ad165, e165, hx165_0⟩ := Kd.at_string HR0.out x8_1 p165 q165
              cases e165
              replace p165 := eq_true p165
              replace q165 := eq_true q165
              go_wp2
              go_ret
              exact ⟨by first | rfl | (simp; done) | (simp [*]; done), by repeat (first | exact Drawn0.refl _ | apply Drawn0.step)⟩
            · rw [if_neg c6] at H
              have c6b0 : (a1.toList == (rdOf ByteArray.empty l0 x8_1).toList) = false := beq_eq_false_iff_ne.mpr c6
              have c6b1 : (a1.toList != (rdOf ByteArray.empty l0 x8_1).toList) = true := bne_iff_ne.mpr c6
              have H' := Aside0.mk H
              clear H
              have p165 : 0 ≤ (x8_1 : Int) := of_decide_eq_true (by first | (with_reducible assumption) | assumption)
              have q165 : x8_1 < (l0.length : Int) := of_decide_eq_true (by first | (with_reducible assumption) | assumption)
              obtain ⟨ad165, e165, hx165_0⟩ := Kd.at_string HR0.out x8_1 p165 q165
              cases e165
              replace p165 := eq_true p165
              replace q165 := eq_true q165
              go_wp2
              go_roundg k1
              case measure => have := HK1.out; omega
              case rel => exact ⟨(wrap64 (x8_1 + 1)), (by first | rfl | (simp; done) | (simp [*]; done)), H', ⟨by have := HK1.out; omega⟩, by repeat (first | exact Drawn0.refl _ | apply Drawn0.step)⟩
          · rw [if_neg c5] at H
            exact absurd H (by simp)
        · rw [if_neg c4] at H
          exact absurd H (by simp)
      · rw [if_neg c3] at H
        have c3b0 : decide (x8_1 < (l0.length : Int)) = false := decide_eq_false c3
        clear c3
        obtain rfl := Option.some.inj H
        go_wp2
        go_ret
        exact ⟨by first | rfl | (simp; done) | (simp [*]; done), by repeat (first | exact Drawn0.refl _ | apply Drawn0.step)⟩

/-! ### slices_Contains_string_string: function 33 -/
def slices_Contains_string_string.f (k : Nat) (l0 : List ByteArray) (a1 : ByteArray) : Option (Bool) := (slices_Index_string_string.f k l0 a1).bind fun t166 => (some (decide (t166 ≥ 0)))
theorem slices_Contains_string_string.mono : ∀ a0 a1 k, LeO (slices_Contains_string_string.f k a0 a1) (slices_Contains_string_string.f (k + 1) a0 a1) := by
  intro a0 a1 k
  unfold slices_Contains_string_string.f
  repeat' first
      | (with_reducible exact slices_Index_string_string.mono _ _ _)
      | (with_reducible exact LeO.refl _)
      | (with_reducible exact LeO.none _)
      | (with_reducible refine LeO.ite ?_ ?_)
      | (with_reducible refine LeO.bind ?_ (fun _ => ?_))
      | exact slices_Index_string_string.mono _ _ _
      | exact LeO.none _
      | refine LeO.ite ?_ ?_
      | refine LeO.bind ?_ (fun _ => ?_)
set_option maxHeartbeats 8000000 in
set_option maxRecDepth 100000 in
theorem slices_Contains_string_string.calls (k : Nat) (A0 : Option Addr) (c0 : Nat) (l0 : List ByteArray) (a1 : ByteArray) (r : Bool) (w : World) (hr0 : Kd.C Kd.string w A0 l0.length l0) (hc0 : l0.length ≤ c0) (h : slices_Contains_string_string.f k l0 a1 = some r) :
    Calls Tryd.prog 33 #[.slice A0 l0.length c0, .string a1] w fun e w' => e = .returned (.bool r) ∧ Drawn0 w w' := by
  have HR0 := Aside0.mk hr0
  have HC0 := Aside0.mk hc0
  clear hr0 hc0
  have H : ((slices_Index_string_string.f k l0 a1).bind fun t166 => (some (decide (t166 ≥ 0)))) = some r := h
  clear h
  replace H := Option.bind_eq_some_iff.mp H
  obtain ⟨t166, A30, H⟩ := H
  replace H : (some (decide (t166 ≥ 0))) = some r := H
  have A3 := Aside0.mk A30
  clear A30
  obtain rfl := Option.some.inj H
  go_enter Tryd.func33, Tryd.ntmps33
  go_wp2_with (first | ((with_reducible refine gate_callee (f := 53) rfl ?_); refine goesL_ (some 7) rfl rfl Tryd.func53 (by kernel_rfl) rfl #[.slice A0 l0.length c0, .string a1] rfl (by (try simp only [List.map_toArray, List.map_cons, List.map_nil]); first | done | rfl | (simp only [List.length_drop, List.length_take]; rfl)) ?_; (with_reducible refine (slices_Index_string_string.calls k _ _ l0 a1 t166 _ ?side1 ?side2 A3.out).mono ?_); (case side1 => repeat (first | exact HR0.out | (with_reducible refine Kd.C_alloc ?_ _) | (with_reducible refine Kd.C_drewN ?_ _) | (with_reducible refine Kd.C_drew ?_))); (case side2 => exact HC0.out); rintro e w' ⟨rfl, ⟨nd, rfl⟩⟩; refine ⟨_, rfl, ?_⟩))
  go_ret
  exact ⟨by first | rfl | (simp; done) | (simp [*]; done), by repeat (first | exact Drawn0.refl _ | apply Drawn0.step)⟩

end Go.Proofs.YtghdimmomnfakaaDoor.X
