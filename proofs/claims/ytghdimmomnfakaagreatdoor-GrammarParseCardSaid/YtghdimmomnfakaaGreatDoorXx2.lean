-- Written by xprint.py, a program of this session, by way of the kit's print.py. Lean checks it.
import Derived.Test.YtghdimmomnfakaaGreatDoorGvValid
import Derived.Test.YtghdimmomnfakaaGreatDoorTextA
import Derived.Test.YtghdimmomnfakaaGreatDoorXx0
namespace Go.Proofs.YtghdimmomnfakaaGreatDoor.X
open Go.Proofs.YtghdimmomnfakaaGreatDoor.Gv
open Go.RowKit Go.Proofs.YtghdimmomnfakaaGreatDoorW.PrintWords Go.Proofs.YtghdimmomnfakaaGreatDoorW.PrintLast Go.Proofs.YtghdimmomnfakaaGreatDoorW.PrintMore
attribute [local go_sem] max2_int min2_int max_two min_two max_three min_three max_four min_four   -- for this text's walks alone
set_option linter.unusedVariables false
set_option linter.unusedSimpArgs false

/-! ### vinculumlaw49_awake: function 4 -/
def vinculumlaw49_awake.f (k : Nat)  : Option (Bool) := (some (([(⟨1, (⟨#[43]⟩ : ByteArray), (⟨#[112, 108, 117, 115]⟩ : ByteArray), 40, 40, 41⟩ : S31)] : List (S31)) : List (S31))).bind fun y109 => ((grammar_Valid.f k y109).bind fun t112 => (if t112 = true then ((grammar_Text.f k y109).bind fun t113 => (some (t113.toList == ([105, 110, 102, 105, 120, 32, 43, 32, 112, 108, 117, 115, 32, 52, 48, 32, 52, 48, 32, 52, 49, 10] : List UInt8)))) else (some false)))
theorem vinculumlaw49_awake.mono : ∀ k, LeO (vinculumlaw49_awake.f k ) (vinculumlaw49_awake.f (k + 1) ) := by
  intro  k
  unfold vinculumlaw49_awake.f
  repeat' first
      | (with_reducible exact grammar_Text.mono _ _)
      | (with_reducible exact grammar_Valid.mono _ _)
      | (with_reducible exact LeO.refl _)
      | (with_reducible exact LeO.none _)
      | (with_reducible refine LeO.ite ?_ ?_)
      | (with_reducible refine LeO.bind ?_ (fun _ => ?_))
      | exact grammar_Text.mono _ _
      | exact grammar_Valid.mono _ _
      | exact LeO.none _
      | refine LeO.ite ?_ ?_
      | refine LeO.bind ?_ (fun _ => ?_)
set_option maxHeartbeats 8000000 in
set_option maxRecDepth 100000 in
theorem vinculumlaw49_awake.calls (k : Nat)  (r : Bool) (w : World) (hG : Gw w) (h : vinculumlaw49_awake.f k  = some r) :
    Calls Tryz.prog 4 #[] w fun e w' => e = .returned (.bool r) ∧ Below w.heap.size w w' := by
  have hu31 := Tryz.underlying31
  have HB := Aside0.mk (Below.refl w.heap.size w)
  have HG := Aside0.mk hG
  clear hG
  have H : ((some (([(⟨1, (⟨#[43]⟩ : ByteArray), (⟨#[112, 108, 117, 115]⟩ : ByteArray), 40, 40, 41⟩ : S31)] : List (S31)) : List (S31))).bind fun y109 => ((grammar_Valid.f k y109).bind fun t112 => (if t112 = true then ((grammar_Text.f k y109).bind fun t113 => (some (t113.toList == ([105, 110, 102, 105, 120, 32, 43, 32, 112, 108, 117, 115, 32, 52, 48, 32, 52, 48, 32, 52, 49, 10] : List UInt8)))) else (some false)))) = some r := h
  clear h
  obtain ⟨y109, hy109⟩ : ∃ y_ : List (S31), y_ = (([(⟨1, (⟨#[43]⟩ : ByteArray), (⟨#[112, 108, 117, 115]⟩ : ByteArray), 40, 40, 41⟩ : S31)] : List (S31))) := ⟨_, rfl⟩
  replace H : ((grammar_Valid.f k y109).bind fun t112 => (if t112 = true then ((grammar_Text.f k y109).bind fun t113 => (some (t113.toList == ([105, 110, 102, 105, 120, 32, 43, 32, 112, 108, 117, 115, 32, 52, 48, 32, 52, 48, 32, 52, 49, 10] : List UInt8)))) else (some false))) = some r := by first | (rw [hy109]; with_reducible exact H) | (have H2_ := (Option.bind_some _ _).symm.trans H; rw [hy109]; with_reducible exact H2_) | (have H2_ := (Option.bind_some _ _).symm.trans H; with_reducible exact H2_) | with_reducible exact H | (rw [hy109]; exact H) | exact H
  have Ny109 := Aside0.mk hy109
  clear hy109
  replace H := Option.bind_eq_some_iff.mp H
  obtain ⟨t112, A10, H⟩ := H
  replace H : (if t112 = true then ((grammar_Text.f k y109).bind fun t113 => (some (t113.toList == ([105, 110, 102, 105, 120, 32, 43, 32, 112, 108, 117, 115, 32, 52, 48, 32, 52, 48, 32, 52, 49, 10] : List UInt8)))) else (some false)) = some r := H
  have A1 := Aside0.mk A10
  clear A10
  by_cases c2 : t112 = true
  · subst c2
    have H1 : ((grammar_Text.f k y109).bind fun t113 => (some (t113.toList == ([105, 110, 102, 105, 120, 32, 43, 32, 112, 108, 117, 115, 32, 52, 48, 32, 52, 48, 32, 52, 49, 10] : List UInt8)))) = some r := by rw [if_pos rfl] at H; exact H
    clear H
    have H := H1
    clear H1
    replace H := Option.bind_eq_some_iff.mp H
    obtain ⟨t113, A30, H⟩ := H
    replace H : (some (t113.toList == ([105, 110, 102, 105, 120, 32, 43, 32, 112, 108, 117, 115, 32, 52, 48, 32, 52, 48, 32, 52, 49, 10] : List UInt8))) = some r := H
    have A3 := Aside0.mk A30
    clear A30
    obtain rfl := Option.some.inj H
    go_enter Tryz.func4, Tryz.ntmps4
    go_wp2_with (first | ((with_reducible refine gate_dst (N := 3) rfl ?_); refine Kd.R_lit k31 _ 31 ?hg (N := 3) ?hd (xs := ([(⟨1, (⟨#[43]⟩ : ByteArray), (⟨#[112, 108, 117, 115]⟩ : ByteArray), 40, 40, 41⟩ : S31)] : List (S31))) (inner := [.int .i64 1, .string (⟨#[43]⟩ : ByteArray), .string (⟨#[112, 108, 117, 115]⟩ : ByteArray), .int .i64 40, .int .i64 40, .int .i64 41]) (ok := fun _ => True) (okp := fun _ => True) ?hr ?hp (fun _ hk => hk) trivial (Below.refl _ _) (Nat.le_refl _) (by simp) ?_; (case hd => rfl); (case hg => rfl); (case hr => first | (go_simp; done) | (go_simp; rfl)); (case hp => exact (Reps.c6 (show Kd.M k31 _ _ _ (⟨1, (⟨#[43]⟩ : ByteArray), (⟨#[112, 108, 117, 115]⟩ : ByteArray), 40, 40, 41⟩ : S31) [.int .i64 1, .string (⟨#[43]⟩ : ByteArray), .string (⟨#[112, 108, 117, 115]⟩ : ByteArray), .int .i64 40, .int .i64 40, .int .i64 41] from (k31_mkM _ _ _ (⟨1, (⟨#[43]⟩ : ByteArray), (⟨#[112, 108, 117, 115]⟩ : ByteArray), 40, 40, 41⟩ : S31) )) (Reps.none _ _))); intro v110 w4 ho5 hb hg_ hnew_; clear hg_ hnew_; (first | rw [← Ny109.out] at ho5 | (simp only [Int.reduceToNat] at ho5; rw [← Ny109.out] at ho5)); have n0_ := Aside0.mk (Kd.R_lower ho5 (below_size (by repeat (first | (with_reducible first | exact HB.out | apply below_alloc | apply pw_below_drewN | apply below_drew1) | exact HB.out)))); have n1_ := Aside0.mk (below_step (by repeat (first | (with_reducible first | exact HB.out | apply below_alloc | apply pw_below_drewN | apply below_drew1) | exact HB.out)) hb); clear HB; have HO111 := n0_; have HB := n1_; clear n0_ n1_; clear hb ho5; obtain ⟨Ao6, co6, eo6⟩ := Kd.R_slice HO111.out; subst eo6) | ((with_reducible refine gate_callee (f := 9) rfl ?_); refine goesL_ (some 5) rfl rfl Tryz.func9 (by kernel_rfl) rfl #[.slice Ao6 y109.length co6] rfl (by (try simp only [List.map_toArray, List.map_cons, List.map_nil]); first | done | rfl | (simp only [List.length_drop, List.length_take]; rfl)) ?_; (with_reducible refine (grammar_Valid.calls k _ _ y109 true _ ?side3 ?side1 ?side2 A1.out).mono ?_); (case side1 => repeat (first | exact (Kd.R_reads' HO111.out).2.2 | (with_reducible refine Kd.C_alloc ?_ _) | (with_reducible refine Kd.C_drewN ?_ _) | (with_reducible refine Kd.C_drew ?_))); (case side2 => exact (Kd.R_reads' HO111.out).2.1); (case side3 => first | exact HG.out | (with_reducible exact Gw.drewN HG.out _) | exact Gw.below HG.out (by repeat (first | (with_reducible first | exact HB.out | apply below_alloc | apply pw_below_drewN | apply below_drew1) | exact HB.out)) | ((repeat (first | (with_reducible exact HG.out) | (with_reducible apply Gw.drewN) | (with_reducible apply Gw.drew))); done)); rintro e w7 ⟨rfl, hb⟩; refine ⟨_, rfl, ?_⟩; have n0_ := Aside0.mk (Kd.R_below (by (with_reducible repeat (first | apply Kd.R_alloc | apply Kd.R_drewN | apply Kd.R_drew)); exact HO111.out) hb); have n1_ := Aside0.mk (below_step (by repeat (first | (with_reducible first | exact HB.out | apply below_alloc | apply pw_below_drewN | apply below_drew1) | exact HB.out)) hb); clear HO111; clear HB; have HO111 := n0_; have HB := n1_; clear n0_ n1_; (try clear hb); (try clear hb2); (try clear hk); (try clear hi)) | (go_at_call 8; (with_reducible refine (grammar_Text.calls k _ _ y109 t113 _ ?side3 ?side1 ?side2 A3.out).mono ?_); (case side1 => repeat (first | exact (Kd.R_reads' HO111.out).2.2 | (with_reducible refine Kd.C_alloc ?_ _) | (with_reducible refine Kd.C_drewN ?_ _) | (with_reducible refine Kd.C_drew ?_))); (case side2 => exact (Kd.R_reads' HO111.out).2.1); (case side3 => first | exact HG.out | (with_reducible exact Gw.drewN HG.out _) | exact Gw.below HG.out (by repeat (first | (with_reducible first | exact HB.out | apply below_alloc | apply pw_below_drewN | apply below_drew1) | exact HB.out)) | ((repeat (first | (with_reducible exact HG.out) | (with_reducible apply Gw.drewN) | (with_reducible apply Gw.drew))); done)); rintro e w8 ⟨rfl, hb⟩; have n0_ := Aside0.mk (Kd.R_below (by (with_reducible repeat (first | apply Kd.R_alloc | apply Kd.R_drewN | apply Kd.R_drew)); exact HO111.out) hb); have n1_ := Aside0.mk (below_step (by repeat (first | (with_reducible first | exact HB.out | apply below_alloc | apply pw_below_drewN | apply below_drew1) | exact HB.out)) hb); clear HO111; clear HB; have HO111 := n0_; have HB := n1_; clear n0_ n1_; (try clear hb); (try clear hb2); (try clear hk); (try clear hi)))
    go_ret
    exact ⟨by first | rfl | (simp [errW_none, errW_some] <;> rfl) | (simp [*, errW_none, errW_some] <;> rfl), by repeat (first | (with_reducible first | exact HB.out | apply below_alloc | apply pw_below_drewN | apply below_drew1) | exact HB.out)⟩
  · replace c2 := Bool.eq_false_iff.mpr c2
    subst c2
    have H1 : (some false) = some r := by rw [if_neg (show ¬ (false = true) by decide)] at H; exact H
    clear H
    have H := H1
    clear H1
    obtain rfl := Option.some.inj H
    go_enter Tryz.func4, Tryz.ntmps4
    go_wp2_with (first | ((with_reducible refine gate_dst (N := 3) rfl ?_); refine Kd.R_lit k31 _ 31 ?hg (N := 3) ?hd (xs := ([(⟨1, (⟨#[43]⟩ : ByteArray), (⟨#[112, 108, 117, 115]⟩ : ByteArray), 40, 40, 41⟩ : S31)] : List (S31))) (inner := [.int .i64 1, .string (⟨#[43]⟩ : ByteArray), .string (⟨#[112, 108, 117, 115]⟩ : ByteArray), .int .i64 40, .int .i64 40, .int .i64 41]) (ok := fun _ => True) (okp := fun _ => True) ?hr ?hp (fun _ hk => hk) trivial (Below.refl _ _) (Nat.le_refl _) (by simp) ?_; (case hd => rfl); (case hg => rfl); (case hr => first | (go_simp; done) | (go_simp; rfl)); (case hp => exact (Reps.c6 (show Kd.M k31 _ _ _ (⟨1, (⟨#[43]⟩ : ByteArray), (⟨#[112, 108, 117, 115]⟩ : ByteArray), 40, 40, 41⟩ : S31) [.int .i64 1, .string (⟨#[43]⟩ : ByteArray), .string (⟨#[112, 108, 117, 115]⟩ : ByteArray), .int .i64 40, .int .i64 40, .int .i64 41] from (k31_mkM _ _ _ (⟨1, (⟨#[43]⟩ : ByteArray), (⟨#[112, 108, 117, 115]⟩ : ByteArray), 40, 40, 41⟩ : S31) )) (Reps.none _ _))); intro v110 w9 ho10 hb hg_ hnew_; clear hg_ hnew_; (first | rw [← Ny109.out] at ho10 | (simp only [Int.reduceToNat] at ho10; rw [← Ny109.out] at ho10)); have n0_ := Aside0.mk (Kd.R_lower ho10 (below_size (by repeat (first | (with_reducible first | exact HB.out | apply below_alloc | apply pw_below_drewN | apply below_drew1) | exact HB.out)))); have n1_ := Aside0.mk (below_step (by repeat (first | (with_reducible first | exact HB.out | apply below_alloc | apply pw_below_drewN | apply below_drew1) | exact HB.out)) hb); clear HB; have HO111 := n0_; have HB := n1_; clear n0_ n1_; clear hb ho10; obtain ⟨Ao11, co11, eo11⟩ := Kd.R_slice HO111.out; subst eo11) | ((with_reducible refine gate_callee (f := 9) rfl ?_); refine goesL_ (some 5) rfl rfl Tryz.func9 (by kernel_rfl) rfl #[.slice Ao11 y109.length co11] rfl (by (try simp only [List.map_toArray, List.map_cons, List.map_nil]); first | done | rfl | (simp only [List.length_drop, List.length_take]; rfl)) ?_; (with_reducible refine (grammar_Valid.calls k _ _ y109 false _ ?side3 ?side1 ?side2 A1.out).mono ?_); (case side1 => repeat (first | exact (Kd.R_reads' HO111.out).2.2 | (with_reducible refine Kd.C_alloc ?_ _) | (with_reducible refine Kd.C_drewN ?_ _) | (with_reducible refine Kd.C_drew ?_))); (case side2 => exact (Kd.R_reads' HO111.out).2.1); (case side3 => first | exact HG.out | (with_reducible exact Gw.drewN HG.out _) | exact Gw.below HG.out (by repeat (first | (with_reducible first | exact HB.out | apply below_alloc | apply pw_below_drewN | apply below_drew1) | exact HB.out)) | ((repeat (first | (with_reducible exact HG.out) | (with_reducible apply Gw.drewN) | (with_reducible apply Gw.drew))); done)); rintro e w12 ⟨rfl, hb⟩; refine ⟨_, rfl, ?_⟩; have n0_ := Aside0.mk (Kd.R_below (by (with_reducible repeat (first | apply Kd.R_alloc | apply Kd.R_drewN | apply Kd.R_drew)); exact HO111.out) hb); have n1_ := Aside0.mk (below_step (by repeat (first | (with_reducible first | exact HB.out | apply below_alloc | apply pw_below_drewN | apply below_drew1) | exact HB.out)) hb); clear HO111; clear HB; have HO111 := n0_; have HB := n1_; clear n0_ n1_; (try clear hb); (try clear hb2); (try clear hk); (try clear hi)))
    go_ret
    exact ⟨by first | rfl | (simp [errW_none, errW_some] <;> rfl) | (simp [*, errW_none, errW_some] <;> rfl), by repeat (first | (with_reducible first | exact HB.out | apply below_alloc | apply pw_below_drewN | apply below_drew1) | exact HB.out)⟩

/-! ### vinculumref48_letter: function 63 -/
def vinculumref48_letter.j0 : Nat → Int → Bool → Option (Int)
  | 0, _, _ => none
  | k + 1, x0, x3 => if x3 = true then (some ((x0 - 97) % 256)) else (if x0 ≥ 65 then (if x0 ≤ 90 then (some (26 + ((x0 - 65) % 256))) else (some (-1))) else (some (-1)))
def vinculumref48_letter.f (k : Nat) (a0 : Int) : Option (Int) := if a0 ≥ 97 then (vinculumref48_letter.j0 k a0 (decide (a0 ≤ 122))) else (vinculumref48_letter.j0 k a0 false)
theorem vinculumref48_letter.mono_l : ∀ k, (∀ y0 y1, LeO (vinculumref48_letter.j0 k y0 y1) (vinculumref48_letter.j0 (k + 1) y0 y1))
  | 0 => fun _ _ r h => by simp [vinculumref48_letter.j0] at h
  | k + 1 => by
    have ih0 := vinculumref48_letter.mono_l k
    · intro y0 y1
      unfold vinculumref48_letter.j0
      repeat' first
      | (with_reducible exact ih0 _ _)
      | (with_reducible exact LeO.refl _)
      | (with_reducible exact LeO.none _)
      | (with_reducible refine LeO.ite ?_ ?_)
      | (with_reducible refine LeO.bind ?_ (fun _ => ?_))
      | exact ih0 _ _
      | exact LeO.none _
      | refine LeO.ite ?_ ?_
      | refine LeO.bind ?_ (fun _ => ?_)
theorem vinculumref48_letter.mono : ∀ a0 k, LeO (vinculumref48_letter.f k a0) (vinculumref48_letter.f (k + 1) a0) := by
  intro a0 k
  have ih0 := vinculumref48_letter.mono_l k
  unfold vinculumref48_letter.f
  repeat' first
      | (with_reducible exact ih0 _ _)
      | (with_reducible exact LeO.refl _)
      | (with_reducible exact LeO.none _)
      | (with_reducible refine LeO.ite ?_ ?_)
      | (with_reducible refine LeO.bind ?_ (fun _ => ?_))
      | exact ih0 _ _
      | exact LeO.none _
      | refine LeO.ite ?_ ?_
      | refine LeO.bind ?_ (fun _ => ?_)
set_option maxHeartbeats 8000000 in
set_option maxRecDepth 100000 in
theorem vinculumref48_letter.calls (k : Nat) (a0 : Int) (r : Int) (w : World) (h : vinculumref48_letter.f k a0 = some r) :
    Calls Tryz.prog 63 #[.int .u8 a0] w fun e w' => e = .returned (.int .i64 r) ∧ Drawn0 w w' := by
  have H : (if a0 ≥ 97 then (vinculumref48_letter.j0 k a0 (decide (a0 ≤ 122))) else (vinculumref48_letter.j0 k a0 false)) = some r := h
  clear h
  have HC2 := Aside0.mk H
  clear H
  go_enter Tryz.func63, Tryz.ntmps63
  go_upto_region 1 with (fail)
  go_cut [3] (fun v3 wc => ∃ (kq : Nat) (x3_1 : Bool), v3 = .bool x3_1 ∧ Aside0 (vinculumref48_letter.j0 kq a0 x3_1 = some r) ∧ Aside0 (kq ≤ k) ∧ Drawn0 w wc)
  case first =>
    have H := HC2.out
    clear HC2
    by_cases c3 : a0 ≥ 97
    · rw [if_pos c3] at H
      have c3b0 : decide (97 ≤ a0) = true := decide_eq_true c3
      clear c3
      (first | rw [c3b0] | (simp only [i64_w, i32_w]; rw [c3b0]) | skip)
      have H' := Aside0.mk H
      clear H
      go_wp2
      go_meet
      case rel => exact ⟨_, (decide (a0 ≤ 122)), (by first | rfl | (simp; done) | (simp [*]; done)), H', ⟨by first | omega | exact Nat.le_refl _⟩, by repeat (first | exact Drawn0.refl _ | apply Drawn0.step)⟩
    · rw [if_neg c3] at H
      have c3b0 : decide (97 ≤ a0) = false := decide_eq_false c3
      clear c3
      (first | rw [c3b0] | (simp only [i64_w, i32_w]; rw [c3b0]) | skip)
      have H' := Aside0.mk H
      clear H
      go_wp2
      go_meet
      case rel => exact ⟨_, (false), (by first | rfl | (simp; done) | (simp [*]; done)), H', ⟨by first | omega | exact Nat.le_refl _⟩, by repeat (first | exact Drawn0.refl _ | apply Drawn0.step)⟩
  case rest =>
    clear HC2
    try clear p2
    try clear c3
    try clear c3b0
    obtain ⟨kq, x3_1, rfl, HA, HJ1, ⟨mc1, rfl⟩⟩ := hcut
    cases kq with
    | zero => exact absurd HA.out (by simp [vinculumref48_letter.j0])
    | succ kj1 =>
      have H := HA.out
      clear HA
      simp only [vinculumref48_letter.j0] at H
      by_cases c4 : x3_1 = true
      · subst c4
        have H1 : (some ((a0 - 97) % 256)) = some r := by rw [if_pos rfl] at H; exact H
        clear H
        have H := H1
        clear H1
        obtain rfl := Option.some.inj H
        go_wp2
        go_ret
        exact ⟨by first | rfl | (simp; done) | (simp [*]; done), by repeat (first | exact Drawn0.refl _ | apply Drawn0.step)⟩
      · replace c4 := Bool.eq_false_iff.mpr c4
        subst c4
        have H1 : (if a0 ≥ 65 then (if a0 ≤ 90 then (some (26 + ((a0 - 65) % 256))) else (some (-1))) else (some (-1))) = some r := by rw [if_neg (show ¬ (false = true) by decide)] at H; exact H
        clear H
        have H := H1
        clear H1
        by_cases c5 : a0 ≥ 65
        · rw [if_pos c5] at H
          have c5b0 : decide (65 ≤ a0) = true := decide_eq_true c5
          clear c5
          by_cases c6 : a0 ≤ 90
          · rw [if_pos c6] at H
            have c6b0 : decide (a0 ≤ 90) = true := decide_eq_true c6
            clear c6
            obtain rfl := Option.some.inj H
            go_wp2
            go_ret
            exact ⟨by first | rfl | (simp; done) | (simp [*]; done), by repeat (first | exact Drawn0.refl _ | apply Drawn0.step)⟩
          · rw [if_neg c6] at H
            have c6b0 : decide (a0 ≤ 90) = false := decide_eq_false c6
            clear c6
            obtain rfl := Option.some.inj H
            go_wp2
            go_ret
            exact ⟨by first | rfl | (simp; done) | (simp [*]; done), by repeat (first | exact Drawn0.refl _ | apply Drawn0.step)⟩
        · rw [if_neg c5] at H
          have c5b0 : decide (65 ≤ a0) = false := decide_eq_false c5
          clear c5
          obtain rfl := Option.some.inj H
          go_wp2
          go_ret
          exact ⟨by first | rfl | (simp; done) | (simp [*]; done), by repeat (first | exact Drawn0.refl _ | apply Drawn0.step)⟩

end Go.Proofs.YtghdimmomnfakaaGreatDoor.X
