-- Written by xprint.py, a program of this session, by way of the kit's print.py. Lean checks it.
import Derived.Test.YtghdimmomnfakaaDoorGvValid
import Derived.Test.YtghdimmomnfakaaDoorGivenB
import Derived.Test.YtghdimmomnfakaaDoorXx0
namespace Go.Proofs.YtghdimmomnfakaaDoor.X
open Go.Proofs.YtghdimmomnfakaaDoor.Gv
open Go.RowKit Go.Proofs.YtghdimmomnfakaaDoorW.PrintWords Go.Proofs.YtghdimmomnfakaaDoorW.PrintLast Go.Proofs.YtghdimmomnfakaaDoorW.PrintMore
attribute [local go_sem] max2_int min2_int max_two min_two max_three min_three max_four min_four   -- for this text's walks alone
set_option linter.unusedVariables false
set_option linter.unusedSimpArgs false

/-! ### vinculumlaw49_awake: function 8 -/
def vinculumlaw49_awake.f (k : Nat)  : Option (Bool) := (some (([(⟨1, (⟨#[43]⟩ : ByteArray), (⟨#[112, 108, 117, 115]⟩ : ByteArray), 40, 40, 41⟩ : S38)] : List (S38)) : List (S38))).bind fun y109 => ((grammar_Valid.f k y109).bind fun t112 => (if t112 = true then ((grammar_Text.f k y109).bind fun t113 => (some (t113.toList == ([105, 110, 102, 105, 120, 32, 43, 32, 112, 108, 117, 115, 32, 52, 48, 32, 52, 48, 32, 52, 49, 10] : List UInt8)))) else (some false)))
theorem vinculumlaw49_awake.mono : ∀ k, LeO (vinculumlaw49_awake.f k ) (vinculumlaw49_awake.f (k + 1) ) := by
  intro  k
  unfold vinculumlaw49_awake.f
  repeat' first
      | (with_reducible exact grammar_Text.mono _ _)
      | (with_reducible exact grammar_Valid.mono _ _)
      | (with_reducible exact LeO.refl _)
      | (with_reducible exact LeO.none _)
      | (with_reducible refine LeO.ite ?_ ?_)
      | (with_reducible refine LeO.bind ?_ (fun _ => ?_))
      | exact grammar_Text.mono _ _
      | exact grammar_Valid.mono _ _
      | exact LeO.none _
      | refine LeO.ite ?_ ?_
      | refine LeO.bind ?_ (fun _ => ?_)
set_option maxHeartbeats 8000000 in
set_option maxRecDepth 100000 in
theorem vinculumlaw49_awake.calls (k : Nat)  (r : Bool) (w : World) (hG : Gw w) (h : vinculumlaw49_awake.f k  = some r) :
    Calls Tryd.prog 8 #[] w fun e w' => e = .returned (.bool r) ∧ Below w.heap.size w w' := by
  have hu38 := Tryd.underlying38
  have HB := Aside0.mk (Below.refl w.heap.size w)
  have HG := Aside0.mk hG
  clear hG
  have H : ((some (([(⟨1, (⟨#[43]⟩ : ByteArray), (⟨#[112, 108, 117, 115]⟩ : ByteArray), 40, 40, 41⟩ : S38)] : List (S38)) : List (S38))).bind fun y109 => ((grammar_Valid.f k y109).bind fun t112 => (if t112 = true then ((grammar_Text.f k y109).bind fun t113 => (some (t113.toList == ([105, 110, 102, 105, 120, 32, 43, 32, 112, 108, 117, 115, 32, 52, 48, 32, 52, 48, 32, 52, 49, 10] : List UInt8)))) else (some false)))) = some r := h
  clear h
  obtain ⟨y109, hy109⟩ : ∃ y_ : List (S38), y_ = (([(⟨1, (⟨#[43]⟩ : ByteArray), (⟨#[112, 108, 117, 115]⟩ : ByteArray), 40, 40, 41⟩ : S38)] : List (S38))) := ⟨_, rfl⟩
  replace H : ((grammar_Valid.f k y109).bind fun t112 => (if t112 = true then ((grammar_Text.f k y109).bind fun t113 => (some (t113.toList == ([105, 110, 102, 105, 120, 32, 43, 32, 112, 108, 117, 115, 32, 52, 48, 32, 52, 48, 32, 52, 49, 10] : List UInt8)))) else (some false))) = some r := by first | (rw [hy109]; with_reducible exact H) | (have H2_ := (Option.bind_some _ _).symm.trans H; rw [hy109]; with_reducible exact H2_) | (have H2_ := (Option.bind_some _ _).symm.trans H; with_reducible exact H2_) | with_reducible exact H | (rw [hy109]; exact H) | exact H
  have Ny109 := Aside0.mk hy109
  clear hy109
  replace H := Option.bind_eq_some_iff.mp H
  obtain ⟨t112, A10, H⟩ := H
  replace H : (if t112 = true then ((grammar_Text.f k y109).bind fun t113 => (some (t113.toList == ([105, 110, 102, 105, 120, 32, 43, 32, 112, 108, 117, 115, 32, 52, 48, 32, 52, 48, 32, 52, 49, 10] : List UInt8)))) else (some false)) = some r := H
  have A1 := Aside0.mk A10
  clear A10
  by_cases c2 : t112 = true
  · subst c2
    have H1 : ((grammar_Text.f k y109).bind fun t113 => (some (t113.toList == ([105, 110, 102, 105, 120, 32, 43, 32, 112, 108, 117, 115, 32, 52, 48, 32, 52, 48, 32, 52, 49, 10] : List UInt8)))) = some r := by rw [if_pos rfl] at H; exact H
    clear H
    have H := H1
    clear H1
    replace H := Option.bind_eq_some_iff.mp H
    obtain ⟨t113, A30, H⟩ := H
    replace H : (some (t113.toList == ([105, 110, 102, 105, 120, 32, 43, 32, 112, 108, 117, 115, 32, 52, 48, 32, 52, 48, 32, 52, 49, 10] : List UInt8))) = some r := H
    have A3 := Aside0.mk A30
    clear A30
    obtain rfl := Option.some.inj H
    go_enter Tryd.func8, Tryd.ntmps8
    go_wp2_with (first | ((with_reducible refine gate_dst (N := 3) rfl ?_); refine Kd.R_lit k38 _ 38 ?hg (N := 3) ?hd (xs := ([(⟨1, (⟨#[43]⟩ : ByteArray), (⟨#[112, 108, 117, 115]⟩ : ByteArray), 40, 40, 41⟩ : S38)] : List (S38))) (inner := [.int .i64 1, .string (⟨#[43]⟩ : ByteArray), .string (⟨#[112, 108, 117, 115]⟩ : ByteArray), .int .i64 40, .int .i64 40, .int .i64 41]) (ok := fun _ => True) (okp := fun _ => True) ?hr ?hp (fun _ hk => hk) trivial (Below.refl _ _) (Nat.le_refl _) (by simp) ?_; (case hd => rfl); (case hg => rfl); (case hr => first | (go_simp; done) | (go_simp; rfl)); (case hp => exact (Reps.c6 (show Kd.M k38 _ _ _ (⟨1, (⟨#[43]⟩ : ByteArray), (⟨#[112, 108, 117, 115]⟩ : ByteArray), 40, 40, 41⟩ : S38) [.int .i64 1, .string (⟨#[43]⟩ : ByteArray), .string (⟨#[112, 108, 117, 115]⟩ : ByteArray), .int .i64 40, .int .i64 40, .int .i64 41] from (k38_mkM _ _ _ (⟨1, (⟨#[43]⟩ : ByteArray), (⟨#[112, 108, 117, 115]⟩ : ByteArray), 40, 40, 41⟩ : S38) )) (Reps.none _ _))); intro v110 w4 ho5 hb hg_ hnew_; clear hg_ hnew_; (first | rw [← Ny109.out] at ho5 | (simp only [Int.reduceToNat] at ho5; rw [← Ny109.out] at ho5)); have n0_ := Aside0.mk (Kd.R_lower ho5 (below_size (by repeat (first | (with_reducible first | exact HB.out | apply below_alloc | apply pw_below_drewN | apply below_drew1) | exact HB.out)))); have n1_ := Aside0.mk (below_step (by repeat (first | (with_reducible first | exact HB.out | apply below_alloc | apply pw_below_drewN | apply below_drew1) | exact HB.out)) hb); clear HB; have HO111 := n0_; have HB := n1_; clear n0_ n1_; clear hb ho5; obtain ⟨Ao6, co6, eo6⟩ := Kd.R_slice HO111.out; subst eo6) | ((with_reducible refine gate_callee (f := 12) rfl ?_); refine goesL_ (some 5) rfl rfl Tryd.func12 (by kernel_rfl) rfl #[.slice Ao6 y109.length co6] rfl (by (try simp only [List.map_toArray, List.map_cons, List.map_nil]); first | done | rfl | (simp only [List.length_drop, List.length_take]; rfl)) ?_; (with_reducible refine (grammar_Valid.calls k _ _ y109 true _ ?side3 ?side1 ?side2 A1.out).mono ?_); (case side1 => repeat (first | exact (Kd.R_reads' HO111.out).2.2 | (with_reducible refine Kd.C_alloc ?_ _) | (with_reducible refine Kd.C_drewN ?_ _) | (with_reducible refine Kd.C_drew ?_))); (case side2 => exact (Kd.R_reads' HO111.out).2.1); (case side3 => first | exact HG.out | (with_reducible exact Gw.drewN HG.out _) | exact Gw.below HG.out (by repeat (first | (with_reducible first | exact HB.out | apply below_alloc | apply pw_below_drewN | apply below_drew1) | exact HB.out)) | ((repeat (first | (with_reducible exact HG.out) | (with_reducible apply Gw.drewN) | (with_reducible apply Gw.drew))); done)); rintro e w7 ⟨rfl, hb⟩; refine ⟨_, rfl, ?_⟩; have n0_ := Aside0.mk (Kd.R_below (by (with_reducible repeat (first | apply Kd.R_alloc | apply Kd.R_drewN | apply Kd.R_drew)); exact HO111.out) hb); have n1_ := Aside0.mk (below_step (by repeat (first | (with_reducible first | exact HB.out | apply below_alloc | apply pw_below_drewN | apply below_drew1) | exact HB.out)) hb); clear HO111; clear HB; have HO111 := n0_; have HB := n1_; clear n0_ n1_; (try clear hb); (try clear hb2); (try clear hk); (try clear hi)) | (go_at_call 11; (with_reducible refine (grammar_Text.calls k _ _ y109 t113 _ ?side3 ?side1 ?side2 A3.out).mono ?_); (case side1 => repeat (first | exact (Kd.R_reads' HO111.out).2.2 | (with_reducible refine Kd.C_alloc ?_ _) | (with_reducible refine Kd.C_drewN ?_ _) | (with_reducible refine Kd.C_drew ?_))); (case side2 => exact (Kd.R_reads' HO111.out).2.1); (case side3 => first | exact HG.out | (with_reducible exact Gw.drewN HG.out _) | exact Gw.below HG.out (by repeat (first | (with_reducible first | exact HB.out | apply below_alloc | apply pw_below_drewN | apply below_drew1) | exact HB.out)) | ((repeat (first | (with_reducible exact HG.out) | (with_reducible apply Gw.drewN) | (with_reducible apply Gw.drew))); done)); rintro e w8 ⟨rfl, hb⟩; have n0_ := Aside0.mk (Kd.R_below (by (with_reducible repeat (first | apply Kd.R_alloc | apply Kd.R_drewN | apply Kd.R_drew)); exact HO111.out) hb); have n1_ := Aside0.mk (below_step (by repeat (first | (with_reducible first | exact HB.out | apply below_alloc | apply pw_below_drewN | apply below_drew1) | exact HB.out)) hb); clear HO111; clear HB; have HO111 := n0_; have HB := n1_; clear n0_ n1_; (try clear hb); (try clear hb2); (try clear hk); (try clear hi)))
    go_ret
    exact ⟨by first | rfl | (simp [errW_none, errW_some] <;> rfl) | (simp [*, errW_none, errW_some] <;> rfl), by repeat (first | (with_reducible first | exact HB.out | apply below_alloc | apply pw_below_drewN | apply below_drew1) | exact HB.out)⟩
  · replace c2 := Bool.eq_false_iff.mpr c2
    subst c2
    have H1 : (some false) = some r := by rw [if_neg (show ¬ (false = true) by decide)] at H; exact H
    clear H
    have H := H1
    clear H1
    obtain rfl := Option.some.inj H
    go_enter Tryd.func8, Tryd.ntmps8
    go_wp2_with (first | ((with_reducible refine gate_dst (N := 3) rfl ?_); refine Kd.R_lit k38 _ 38 ?hg (N := 3) ?hd (xs := ([(⟨1, (⟨#[43]⟩ : ByteArray), (⟨#[112, 108, 117, 115]⟩ : ByteArray), 40, 40, 41⟩ : S38)] : List (S38))) (inner := [.int .i64 1, .string (⟨#[43]⟩ : ByteArray), .string (⟨#[112, 108, 117, 115]⟩ : ByteArray), .int .i64 40, .int .i64 40, .int .i64 41]) (ok := fun _ => True) (okp := fun _ => True) ?hr ?hp (fun _ hk => hk) trivial (Below.refl _ _) (Nat.le_refl _) (by simp) ?_; (case hd => rfl); (case hg => rfl); (case hr => first | (go_simp; done) | (go_simp; rfl)); (case hp => exact (Reps.c6 (show Kd.M k38 _ _ _ (⟨1, (⟨#[43]⟩ : ByteArray), (⟨#[112, 108, 117, 115]⟩ : ByteArray), 40, 40, 41⟩ : S38) [.int .i64 1, .string (⟨#[43]⟩ : ByteArray), .string (⟨#[112, 108, 117, 115]⟩ : ByteArray), .int .i64 40, .int .i64 40, .int .i64 41] from (k38_mkM _ _ _ (⟨1, (⟨#[43]⟩ : ByteArray), (⟨#[112, 108, 117, 115]⟩ : ByteArray), 40, 40, 41⟩ : S38) )) (Reps.none _ _))); intro v110 w9 ho10 hb hg_ hnew_; clear hg_ hnew_; (first | rw [← Ny109.out] at ho10 | (simp only [Int.reduceToNat] at ho10; rw [← Ny109.out] at ho10)); have n0_ := Aside0.mk (Kd.R_lower ho10 (below_size (by repeat (first | (with_reducible first | exact HB.out | apply below_alloc | apply pw_below_drewN | apply below_drew1) | exact HB.out)))); have n1_ := Aside0.mk (below_step (by repeat (first | (with_reducible first | exact HB.out | apply below_alloc | apply pw_below_drewN | apply below_drew1) | exact HB.out)) hb); clear HB; have HO111 := n0_; have HB := n1_; clear n0_ n1_; clear hb ho10; obtain ⟨Ao11, co11, eo11⟩ := Kd.R_slice HO111.out; subst eo11) | ((with_reducible refine gate_callee (f := 12) rfl ?_); refine goesL_ (some 5) rfl rfl Tryd.func12 (by kernel_rfl) rfl #[.slice Ao11 y109.length co11] rfl (by (try simp only [List.map_toArray, List.map_cons, List.map_nil]); first | done | rfl | (simp only [List.length_drop, List.length_take]; rfl)) ?_; (with_reducible refine (grammar_Valid.calls k _ _ y109 false _ ?side3 ?side1 ?side2 A1.out).mono ?_); (case side1 => repeat (first | exact (Kd.R_reads' HO111.out).2.2 | (with_reducible refine Kd.C_alloc ?_ _) | (with_reducible refine Kd.C_drewN ?_ _) | (with_reducible refine Kd.C_drew ?_))); (case side2 => exact (Kd.R_reads' HO111.out).2.1); (case side3 => first | exact HG.out | (with_reducible exact Gw.drewN HG.out _) | exact Gw.below HG.out (by repeat (first | (with_reducible first | exact HB.out | apply below_alloc | apply pw_below_drewN | apply below_drew1) | exact HB.out)) | ((repeat (first | (with_reducible exact HG.out) | (with_reducible apply Gw.drewN) | (with_reducible apply Gw.drew))); done)); rintro e w12 ⟨rfl, hb⟩; refine ⟨_, rfl, ?_⟩; have n0_ := Aside0.mk (Kd.R_below (by (with_reducible repeat (first | apply Kd.R_alloc | apply Kd.R_drewN | apply Kd.R_drew)); exact HO111.out) hb); have n1_ := Aside0.mk (below_step (by repeat (first | (with_reducible first | exact HB.out | apply below_alloc | apply pw_below_drewN | apply below_drew1) | exact HB.out)) hb); clear HO111; clear HB; have HO111 := n0_; have HB := n1_; clear n0_ n1_; (try clear hb); (try clear hb2); (try clear hk); (try clear hi)))
    go_ret
    exact ⟨by first | rfl | (simp [errW_none, errW_some] <;> rfl) | (simp [*, errW_none, errW_some] <;> rfl), by repeat (first | (with_reducible first | exact HB.out | apply below_alloc | apply pw_below_drewN | apply below_drew1) | exact HB.out)⟩

/-! ### vinculumlaw49_short: function 9 -/
def vinculumlaw49_short.l0 : Nat → List (S38) → Int → Option (Bool)
  | 0, _, _ => none
  | k + 1, x0, x3 => if x3 < (x0.length : Int) then (if 0 ≤ x3 then (if (((rd_T38 x0 x3).f1).size : Int) > 100 then (some false) else (if (((rd_T38 x0 x3).f2).size : Int) > 100 then (some false) else (vinculumlaw49_short.l0 k x0 (wrap64 (x3 + 1))))) else (none)) else (some (decide ((x0.length : Int) ≤ 80)))
def vinculumlaw49_short.f (k : Nat) (l0 : List (S38)) : Option (Bool) := vinculumlaw49_short.l0 k l0 0
theorem vinculumlaw49_short.mono_l : ∀ k, (∀ y0 y1, LeO (vinculumlaw49_short.l0 k y0 y1) (vinculumlaw49_short.l0 (k + 1) y0 y1))
  | 0 => fun _ _ r h => by simp [vinculumlaw49_short.l0] at h
  | k + 1 => by
    have ih0 := vinculumlaw49_short.mono_l k
    · intro y0 y1
      unfold vinculumlaw49_short.l0
      repeat' first
      | (with_reducible exact ih0 _ _)
      | (with_reducible exact LeO.refl _)
      | (with_reducible exact LeO.none _)
      | (with_reducible refine LeO.ite ?_ ?_)
      | (with_reducible refine LeO.bind ?_ (fun _ => ?_))
      | exact ih0 _ _
      | exact LeO.none _
      | refine LeO.ite ?_ ?_
      | refine LeO.bind ?_ (fun _ => ?_)
theorem vinculumlaw49_short.mono : ∀ a0 k, LeO (vinculumlaw49_short.f k a0) (vinculumlaw49_short.f (k + 1) a0) := by
  intro a0 k
  have ih0 := vinculumlaw49_short.mono_l k
  unfold vinculumlaw49_short.f
  repeat' first
      | (with_reducible exact ih0 _ _)
      | (with_reducible exact LeO.refl _)
      | (with_reducible exact LeO.none _)
      | (with_reducible refine LeO.ite ?_ ?_)
      | (with_reducible refine LeO.bind ?_ (fun _ => ?_))
      | exact ih0 _ _
      | exact LeO.none _
      | refine LeO.ite ?_ ?_
      | refine LeO.bind ?_ (fun _ => ?_)
set_option maxHeartbeats 8000000 in
set_option maxRecDepth 100000 in
theorem vinculumlaw49_short.calls (k : Nat) (A0 : Option Addr) (c0 : Nat) (l0 : List (S38)) (r : Bool) (w : World) (hr0 : Kd.C k38 w A0 l0.length l0) (hc0 : l0.length ≤ c0) (h : vinculumlaw49_short.f k l0 = some r) :
    Calls Tryd.prog 9 #[.slice A0 l0.length c0] w fun e w' => e = .returned (.bool r) ∧ Drawn0 w w' := by
  have HR0 := Aside0.mk hr0
  have HC0 := Aside0.mk hc0
  clear hr0 hc0
  have H : (vinculumlaw49_short.l0 k l0 0) = some r := h
  clear h
  have H' := Aside0.mk H
  clear H
  go_enter Tryd.func9, Tryd.ntmps9
  go_wp2
  go_loopg [3] k (fun kq v3 w' => ∃ (x3_1 : Int), v3 = .int .i64 x3_1 ∧ Aside0 (vinculumlaw49_short.l0 kq l0 x3_1 = some r) ∧ Aside0 (kq ≤ k) ∧ Drawn0 w w')
  case atStart => exact ⟨(0), (by first | rfl | (simp; done) | (simp [*]; done)), H', ⟨Nat.le_refl _⟩, by repeat (first | exact Drawn0.refl _ | apply Drawn0.step)⟩
  case round =>
    clear H'
    obtain ⟨x3_1, rfl, HA, HK1, ⟨m1, rfl⟩⟩ := hrel
    cases gk with
    | zero => exact absurd HA.out (by simp [vinculumlaw49_short.l0])
    | succ k1 =>
      have H := HA.out
      clear HA
      simp only [vinculumlaw49_short.l0] at H
      by_cases c2 : x3_1 < (l0.length : Int)
      · rw [if_pos c2] at H
        have c2b0 : decide (x3_1 < (l0.length : Int)) = true := decide_eq_true c2
        clear c2
        by_cases c3 : 0 ≤ x3_1
        · rw [if_pos c3] at H
          have c3b0 : decide (0 ≤ x3_1) = true := decide_eq_true c3
          clear c3
          by_cases c4 : (((rd_T38 l0 x3_1).f1).size : Int) > 100
          · rw [if_pos c4] at H
            have c4b0 : decide (100 < (((rd_T38 l0 x3_1).f1).size : Int)) = true := decide_eq_true c4
            have c4b1 : decide (100 < ((rd_T38 l0 x3_1).f1).size) = true := decide_eq_true (by omega)
            clear c4
            obtain rfl := Option.some.inj H
            have p114 : 0 ≤ (x3_1 : Int) := of_decide_eq_true (by first | (with_reducible assumption) | assumption)
            have q114 : x3_1 < (l0.length : Int) := of_decide_eq_true (by first | (with_reducible assumption) | assumption)
            obtain ⟨ad114, e114, hx114_0, hx114_1, hx114_2, hx114_3, hx114_4, hx114_5⟩ := at_T38 HR0.out x3_1 p114 q114
            cases e114
            replace p114 := eq_true p114
            replace q114 := eq_true q114
            go_wp2
            go_ret
            exact ⟨by first | rfl | (simp; done) | (simp [*]; done), by repeat (first | exact Drawn0.refl _ | apply Drawn0.step)⟩
          · rw [if_neg c4] at H
            have c4b0 : decide (100 < (((rd_T38 l0 x3_1).f1).size : Int)) = false := decide_eq_false c4
            have c4b1 : decide (100 < ((rd_T38 l0 x3_1).f1).size) = false := decide_eq_false (by omega)
            clear c4
            by_cases c5 : (((rd_T38 l0 x3_1).f2).size : Int) > 100
            · rw [if_pos c5] at H
              have c5b0 : decide (100 < (((rd_T38 l0 x3_1).f2).size : Int)) = true := decide_eq_true c5
              have c5b1 : decide (100 < ((rd_T38 l0 x3_1).f2).size) = true := decide_eq_true (by omega)
              clear c5
              obtain rfl := Option.some.inj H
              have p114 : 0 ≤ (x3_1 : Int) := of_decide_eq_true (by first | (with_reducible assumption) | assumption)
              have q114 : x3_1 < (l0.length : Int) := of_decide_eq_true (by first | (with_reducible assumption) | assumption)
              obtain ⟨ad114, e114, hx114_0, hx114_1, hx114_2, hx114_3, hx114_4, hx114_5⟩ := at_T38 HR0.out x3_1 p114 q114
              cases e114
              replace p114 := eq_true p114
              replace q114 := eq_true q114
              have p115 : 0 ≤ (x3_1 : Int) := of_decide_eq_true (by first | (with_reducible assumption) | assumption)
              have q115 : x3_1 < (l0.length : Int) := of_decide_eq_true (by first | (with_reducible assumption) | assumption)
              obtain ⟨ad115, e115, hx115_0, hx115_1, hx115_2, hx115_3, hx115_4, hx115_5⟩ := at_T38 HR0.out x3_1 p115 q115
              obtain rfl : ad114 = ad115 := (by injection e115)
              replace p115 := eq_true p115
              replace q115 := eq_true q115
              go_wp2
              go_ret
              exact ⟨by first | rfl | (simp; done) | (simp [*]; done), by repeat (first | exact Drawn0.refl _ | apply Drawn0.step)⟩
            · rw [if_neg c5] at H
              have c5b0 : decide (100 < (((rd_T38 l0 x3_1).f2).size : Int)) = false := decide_eq_false c5
              have c5b1 : decide (100 < ((rd_T38 l0 x3_1).f2).size) = false := decide_eq_false (by omega)
              clear c5
              have H' := Aside0.mk H
              clear H
              have p114 : 0 ≤ (x3_1 : Int) := of_decide_eq_true (by first | (with_reducible assumption) | assumption)
              have q114 : x3_1 < (l0.length : Int) := of_decide_eq_true (by first | (with_reducible assumption) | assumption)
              obtain ⟨ad114, e114, hx114_0, hx114_1, hx114_2, hx114_3, hx114_4, hx114_5⟩ := at_T38 HR0.out x3_1 p114 q114
              cases e114
              replace p114 := eq_true p114
              replace q114 := eq_true q114
              have p115 : 0 ≤ (x3_1 : Int) := of_decide_eq_true (by first | (with_reducible assumption) | assumption)
              have q115 : x3_1 < (l0.length : Int) := of_decide_eq_true (by first | (with_reducible assumption) | assumption)
              obtain ⟨ad115, e115, hx115_0, hx115_1, hx115_2, hx115_3, hx115_4, hx115_5⟩ := at_T38 HR0.out x3_1 p115 q115
              obtain rfl : ad114 = ad115 := (by injection e115)
              replace p115 := eq_true p115
              replace q115 := eq_true q115
              go_wp2
              go_roundg k1
              case measure => have := HK1.out; omega
              case rel => exact ⟨(wrap64 (x3_1 + 1)), (by first | rfl | (simp; done) | (simp [*]; done)), H', ⟨by have := HK1.out; omega⟩, by repeat (first | exact Drawn0.refl _ | apply Drawn0.step)⟩
        · rw [if_neg c3] at H
          exact absurd H (by simp)
      · rw [if_neg c2] at H
        have c2b0 : decide (x3_1 < (l0.length : Int)) = false := decide_eq_false c2
        clear c2
        obtain rfl := Option.some.inj H
        go_wp2
        go_ret
        exact ⟨by first | rfl | (simp; done) | (simp [*]; done), by repeat (first | exact Drawn0.refl _ | apply Drawn0.step)⟩

end Go.Proofs.YtghdimmomnfakaaDoor.X
