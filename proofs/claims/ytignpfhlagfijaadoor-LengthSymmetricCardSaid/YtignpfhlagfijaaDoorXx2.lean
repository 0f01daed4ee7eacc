-- Written by xprint.py, a program of this session, by way of the kit's print.py. Lean checks it.
import Derived.Test.YtignpfhlagfijaaDoorXx0
import Derived.Test.YtignpfhlagfijaaDoorXx1
namespace Go.Proofs.YtignpfhlagfijaaDoor.X
open Go.Proofs.YtignpfhlagfijaaDoor.Gv
open Go.RowKit Go.Proofs.YtignpfhlagfijaaDoorW.PrintWords Go.Proofs.YtignpfhlagfijaaDoorW.PrintLast Go.Proofs.YtignpfhlagfijaaDoorW.PrintMore
attribute [local go_sem] max2_int min2_int max_two min_two max_three min_three max_four min_four   -- for this text's walks alone
set_option linter.unusedVariables false
set_option linter.unusedSimpArgs false

/-! ### length_MulDiv: function 17 -/
def length_MulDiv.f (k : Nat) (a0 : Int) (a1 : Int) (a2 : Int) : Option (Int) := (length_Valid.f a0).bind fun t125 => (if t125 = true then ((length_Valid.f a1).bind fun t126 => (if t126 = true then ((length_Valid.f a2).bind fun t127 => (if t127 = true then (if a2 = 0 then (some 0) else ((length_round.f k (wrap64 (a0 * a1)) a2).bind fun t128 => (some t128))) else (some 0))) else (some 0))) else (some 0))
theorem length_MulDiv.mono : ∀ a0 a1 a2 k, LeO (length_MulDiv.f k a0 a1 a2) (length_MulDiv.f (k + 1) a0 a1 a2) := by
  intro a0 a1 a2 k
  unfold length_MulDiv.f
  repeat' first
      | (with_reducible exact length_round.mono _ _ _)
      | (with_reducible exact LeO.refl _)
      | (with_reducible exact LeO.none _)
      | (with_reducible refine LeO.ite ?_ ?_)
      | (with_reducible refine LeO.bind ?_ (fun _ => ?_))
      | exact length_round.mono _ _ _
      | exact LeO.none _
      | refine LeO.ite ?_ ?_
      | refine LeO.bind ?_ (fun _ => ?_)
set_option maxHeartbeats 8000000 in
set_option maxRecDepth 100000 in
theorem length_MulDiv.calls (k : Nat) (a0 : Int) (a1 : Int) (a2 : Int) (r : Int) (w : World) (h : length_MulDiv.f k a0 a1 a2 = some r) :
    Calls Tryd.prog 17 #[.int .i64 a0, .int .i64 a1, .int .i64 a2] w fun e w' => e = .returned (.int .i64 r) ∧ Drawn0 w w' := by
  have H : ((length_Valid.f a0).bind fun t125 => (if t125 = true then ((length_Valid.f a1).bind fun t126 => (if t126 = true then ((length_Valid.f a2).bind fun t127 => (if t127 = true then (if a2 = 0 then (some 0) else ((length_round.f k (wrap64 (a0 * a1)) a2).bind fun t128 => (some t128))) else (some 0))) else (some 0))) else (some 0))) = some r := h
  clear h
  replace H := Option.bind_eq_some_iff.mp H
  obtain ⟨t125, A40, H⟩ := H
  replace H : (if t125 = true then ((length_Valid.f a1).bind fun t126 => (if t126 = true then ((length_Valid.f a2).bind fun t127 => (if t127 = true then (if a2 = 0 then (some 0) else ((length_round.f k (wrap64 (a0 * a1)) a2).bind fun t128 => (some t128))) else (some 0))) else (some 0))) else (some 0)) = some r := H
  have A4 := Aside0.mk A40
  clear A40
  by_cases c5 : t125 = true
  · subst c5
    have H1 : ((length_Valid.f a1).bind fun t126 => (if t126 = true then ((length_Valid.f a2).bind fun t127 => (if t127 = true then (if a2 = 0 then (some 0) else ((length_round.f k (wrap64 (a0 * a1)) a2).bind fun t128 => (some t128))) else (some 0))) else (some 0))) = some r := by rw [if_pos rfl] at H; exact H
    clear H
    have H := H1
    clear H1
    replace H := Option.bind_eq_some_iff.mp H
    obtain ⟨t126, A60, H⟩ := H
    replace H : (if t126 = true then ((length_Valid.f a2).bind fun t127 => (if t127 = true then (if a2 = 0 then (some 0) else ((length_round.f k (wrap64 (a0 * a1)) a2).bind fun t128 => (some t128))) else (some 0))) else (some 0)) = some r := H
    have A6 := Aside0.mk A60
    clear A60
    by_cases c7 : t126 = true
    · subst c7
      have H1 : ((length_Valid.f a2).bind fun t127 => (if t127 = true then (if a2 = 0 then (some 0) else ((length_round.f k (wrap64 (a0 * a1)) a2).bind fun t128 => (some t128))) else (some 0))) = some r := by rw [if_pos rfl] at H; exact H
      clear H
      have H := H1
      clear H1
      replace H := Option.bind_eq_some_iff.mp H
      obtain ⟨t127, A80, H⟩ := H
      replace H : (if t127 = true then (if a2 = 0 then (some 0) else ((length_round.f k (wrap64 (a0 * a1)) a2).bind fun t128 => (some t128))) else (some 0)) = some r := H
      have A8 := Aside0.mk A80
      clear A80
      by_cases c9 : t127 = true
      · subst c9
        have H1 : (if a2 = 0 then (some 0) else ((length_round.f k (wrap64 (a0 * a1)) a2).bind fun t128 => (some t128))) = some r := by rw [if_pos rfl] at H; exact H
        clear H
        have H := H1
        clear H1
        by_cases c10 : a2 = 0
        · rw [if_pos c10] at H
          have c10b0 : (a2 == 0) = true := beq_iff_eq.mpr c10
          have c10b1 : (a2 != 0) = false := bne_eq_false_iff_eq.mpr c10
          clear c10
          obtain rfl := Option.some.inj H
          go_enter Tryd.func17, Tryd.ntmps17
          go_wp2_with (first | ((with_reducible refine gate_callee (f := 11) rfl ?_); refine goesL_ (some 8) rfl rfl Tryd.func11 (by kernel_rfl) rfl #[.int .i64 a0] rfl (by (try simp only [List.map_toArray, List.map_cons, List.map_nil]); first | done | rfl | (simp only [List.length_drop, List.length_take]; rfl)) ?_; (with_reducible refine (length_Valid.calls a0 true _ A4.out).mono ?_); rintro e w' ⟨rfl, ⟨nd, rfl⟩⟩; refine ⟨_, rfl, ?_⟩) | (go_at_call 11; (with_reducible refine (length_Valid.calls a1 true _ A6.out).mono ?_); rintro e w' ⟨rfl, ⟨nd, rfl⟩⟩) | (go_at_call 11; (with_reducible refine (length_Valid.calls a2 true _ A8.out).mono ?_); rintro e w' ⟨rfl, ⟨nd, rfl⟩⟩))
          go_ret
          exact ⟨by first | rfl | (simp; done) | (simp [*]; done), by repeat (first | exact Drawn0.refl _ | apply Drawn0.step)⟩
        · rw [if_neg c10] at H
          have c10b0 : (a2 == 0) = false := beq_eq_false_iff_ne.mpr c10
          have c10b1 : (a2 != 0) = true := bne_iff_ne.mpr c10
          replace H := Option.bind_eq_some_iff.mp H
          obtain ⟨t128, A110, H⟩ := H
          replace H : (some t128) = some r := H
          have A11 := Aside0.mk A110
          clear A110
          obtain rfl := Option.some.inj H
          go_enter Tryd.func17, Tryd.ntmps17
          go_wp2_with (first | ((with_reducible refine gate_callee (f := 11) rfl ?_); refine goesL_ (some 8) rfl rfl Tryd.func11 (by kernel_rfl) rfl #[.int .i64 a0] rfl (by (try simp only [List.map_toArray, List.map_cons, List.map_nil]); first | done | rfl | (simp only [List.length_drop, List.length_take]; rfl)) ?_; (with_reducible refine (length_Valid.calls a0 true _ A4.out).mono ?_); rintro e w' ⟨rfl, ⟨nd, rfl⟩⟩; refine ⟨_, rfl, ?_⟩) | (go_at_call 11; (with_reducible refine (length_Valid.calls a1 true _ A6.out).mono ?_); rintro e w' ⟨rfl, ⟨nd, rfl⟩⟩) | (go_at_call 11; (with_reducible refine (length_Valid.calls a2 true _ A8.out).mono ?_); rintro e w' ⟨rfl, ⟨nd, rfl⟩⟩) | ((with_reducible refine gate_callee (f := 27) rfl ?_); refine goesL_ (some 28) rfl rfl Tryd.func27 (by kernel_rfl) rfl #[.int .i64 (wrap64 (a0 * a1)), .int .i64 a2] rfl (by (try simp only [List.map_toArray, List.map_cons, List.map_nil]); first | done | rfl | (simp only [List.length_drop, List.length_take]; rfl)) ?_; (with_reducible refine (length_round.calls k (wrap64 (a0 * a1)) a2 t128 _ A11.out).mono ?_); rintro e w' ⟨rfl, ⟨nd, rfl⟩⟩; refine ⟨_, rfl, ?_⟩))
          go_ret
          exact ⟨by first | rfl | (simp; done) | (simp [*]; done), by repeat (first | exact Drawn0.refl _ | apply Drawn0.step)⟩
      · replace c9 := Bool.eq_false_iff.mpr c9
        subst c9
        have H1 : (some 0) = some r := by rw [if_neg (show ¬ (false = true) by decide)] at H; exact H
        clear H
        have H := H1
        clear H1
        obtain rfl := Option.some.inj H
        go_enter Tryd.func17, Tryd.ntmps17
        go_wp2_with (first | ((with_reducible refine gate_callee (f := 11) rfl ?_); refine goesL_ (some 8) rfl rfl Tryd.func11 (by kernel_rfl) rfl #[.int .i64 a0] rfl (by (try simp only [List.map_toArray, List.map_cons, List.map_nil]); first | done | rfl | (simp only [List.length_drop, List.length_take]; rfl)) ?_; (with_reducible refine (length_Valid.calls a0 true _ A4.out).mono ?_); rintro e w' ⟨rfl, ⟨nd, rfl⟩⟩; refine ⟨_, rfl, ?_⟩) | (go_at_call 11; (with_reducible refine (length_Valid.calls a1 true _ A6.out).mono ?_); rintro e w' ⟨rfl, ⟨nd, rfl⟩⟩) | (go_at_call 11; (with_reducible refine (length_Valid.calls a2 false _ A8.out).mono ?_); rintro e w' ⟨rfl, ⟨nd, rfl⟩⟩))
        go_ret
        exact ⟨by first | rfl | (simp; done) | (simp [*]; done), by repeat (first | exact Drawn0.refl _ | apply Drawn0.step)⟩
    · replace c7 := Bool.eq_false_iff.mpr c7
      subst c7
      have H1 : (some 0) = some r := by rw [if_neg (show ¬ (false = true) by decide)] at H; exact H
      clear H
      have H := H1
      clear H1
      obtain rfl := Option.some.inj H
      go_enter Tryd.func17, Tryd.ntmps17
      go_wp2_with (first | ((with_reducible refine gate_callee (f := 11) rfl ?_); refine goesL_ (some 8) rfl rfl Tryd.func11 (by kernel_rfl) rfl #[.int .i64 a0] rfl (by (try simp only [List.map_toArray, List.map_cons, List.map_nil]); first | done | rfl | (simp only [List.length_drop, List.length_take]; rfl)) ?_; (with_reducible refine (length_Valid.calls a0 true _ A4.out).mono ?_); rintro e w' ⟨rfl, ⟨nd, rfl⟩⟩; refine ⟨_, rfl, ?_⟩) | (go_at_call 11; (with_reducible refine (length_Valid.calls a1 false _ A6.out).mono ?_); rintro e w' ⟨rfl, ⟨nd, rfl⟩⟩))
      go_ret
      exact ⟨by first | rfl | (simp; done) | (simp [*]; done), by repeat (first | exact Drawn0.refl _ | apply Drawn0.step)⟩
  · replace c5 := Bool.eq_false_iff.mpr c5
    subst c5
    have H1 : (some 0) = some r := by rw [if_neg (show ¬ (false = true) by decide)] at H; exact H
    clear H
    have H := H1
    clear H1
    obtain rfl := Option.some.inj H
    go_enter Tryd.func17, Tryd.ntmps17
    go_wp2_with (first | ((with_reducible refine gate_callee (f := 11) rfl ?_); refine goesL_ (some 8) rfl rfl Tryd.func11 (by kernel_rfl) rfl #[.int .i64 a0] rfl (by (try simp only [List.map_toArray, List.map_cons, List.map_nil]); first | done | rfl | (simp only [List.length_drop, List.length_take]; rfl)) ?_; (with_reducible refine (length_Valid.calls a0 false _ A4.out).mono ?_); rintro e w' ⟨rfl, ⟨nd, rfl⟩⟩; refine ⟨_, rfl, ?_⟩))
    go_ret
    exact ⟨by first | rfl | (simp; done) | (simp [*]; done), by repeat (first | exact Drawn0.refl _ | apply Drawn0.step)⟩

/-! ### vinculumref01_MulDiv: function 18 -/
def vinculumref01_MulDiv.f (a0 : Int) (a1 : Int) (a2 : Int) : Option (Int) := (vinculumref01_Valid.f a0).bind fun t129 => (if t129 = true then ((vinculumref01_Valid.f a1).bind fun t130 => (if t130 = true then ((vinculumref01_Valid.f a2).bind fun t131 => (if t131 = true then (if a2 = 0 then (some 0) else ((vinculumref01_round.f (wrap64 (a0 * a1)) a2).bind fun t132 => (some t132))) else (some 0))) else (some 0))) else (some 0))
set_option maxHeartbeats 8000000 in
set_option maxRecDepth 100000 in
theorem vinculumref01_MulDiv.calls (a0 : Int) (a1 : Int) (a2 : Int) (r : Int) (w : World) (h : vinculumref01_MulDiv.f a0 a1 a2 = some r) :
    Calls Tryd.prog 18 #[.int .i64 a0, .int .i64 a1, .int .i64 a2] w fun e w' => e = .returned (.int .i64 r) ∧ Drawn0 w w' := by
  have H : ((vinculumref01_Valid.f a0).bind fun t129 => (if t129 = true then ((vinculumref01_Valid.f a1).bind fun t130 => (if t130 = true then ((vinculumref01_Valid.f a2).bind fun t131 => (if t131 = true then (if a2 = 0 then (some 0) else ((vinculumref01_round.f (wrap64 (a0 * a1)) a2).bind fun t132 => (some t132))) else (some 0))) else (some 0))) else (some 0))) = some r := h
  clear h
  replace H := Option.bind_eq_some_iff.mp H
  obtain ⟨t129, A40, H⟩ := H
  replace H : (if t129 = true then ((vinculumref01_Valid.f a1).bind fun t130 => (if t130 = true then ((vinculumref01_Valid.f a2).bind fun t131 => (if t131 = true then (if a2 = 0 then (some 0) else ((vinculumref01_round.f (wrap64 (a0 * a1)) a2).bind fun t132 => (some t132))) else (some 0))) else (some 0))) else (some 0)) = some r := H
  have A4 := Aside0.mk A40
  clear A40
  by_cases c5 : t129 = true
  · subst c5
    have H1 : ((vinculumref01_Valid.f a1).bind fun t130 => (if t130 = true then ((vinculumref01_Valid.f a2).bind fun t131 => (if t131 = true then (if a2 = 0 then (some 0) else ((vinculumref01_round.f (wrap64 (a0 * a1)) a2).bind fun t132 => (some t132))) else (some 0))) else (some 0))) = some r := by rw [if_pos rfl] at H; exact H
    clear H
    have H := H1
    clear H1
    replace H := Option.bind_eq_some_iff.mp H
    obtain ⟨t130, A60, H⟩ := H
    replace H : (if t130 = true then ((vinculumref01_Valid.f a2).bind fun t131 => (if t131 = true then (if a2 = 0 then (some 0) else ((vinculumref01_round.f (wrap64 (a0 * a1)) a2).bind fun t132 => (some t132))) else (some 0))) else (some 0)) = some r := H
    have A6 := Aside0.mk A60
    clear A60
    by_cases c7 : t130 = true
    · subst c7
      have H1 : ((vinculumref01_Valid.f a2).bind fun t131 => (if t131 = true then (if a2 = 0 then (some 0) else ((vinculumref01_round.f (wrap64 (a0 * a1)) a2).bind fun t132 => (some t132))) else (some 0))) = some r := by rw [if_pos rfl] at H; exact H
      clear H
      have H := H1
      clear H1
      replace H := Option.bind_eq_some_iff.mp H
      obtain ⟨t131, A80, H⟩ := H
      replace H : (if t131 = true then (if a2 = 0 then (some 0) else ((vinculumref01_round.f (wrap64 (a0 * a1)) a2).bind fun t132 => (some t132))) else (some 0)) = some r := H
      have A8 := Aside0.mk A80
      clear A80
      by_cases c9 : t131 = true
      · subst c9
        have H1 : (if a2 = 0 then (some 0) else ((vinculumref01_round.f (wrap64 (a0 * a1)) a2).bind fun t132 => (some t132))) = some r := by rw [if_pos rfl] at H; exact H
        clear H
        have H := H1
        clear H1
        by_cases c10 : a2 = 0
        · rw [if_pos c10] at H
          have c10b0 : (a2 == 0) = true := beq_iff_eq.mpr c10
          have c10b1 : (a2 != 0) = false := bne_eq_false_iff_eq.mpr c10
          clear c10
          obtain rfl := Option.some.inj H
          go_enter Tryd.func18, Tryd.ntmps18
          go_wp2_with (first | ((with_reducible refine gate_callee (f := 12) rfl ?_); refine goesL_ (some 8) rfl rfl Tryd.func12 (by kernel_rfl) rfl #[.int .i64 a0] rfl (by (try simp only [List.map_toArray, List.map_cons, List.map_nil]); first | done | rfl | (simp only [List.length_drop, List.length_take]; rfl)) ?_; (with_reducible refine (vinculumref01_Valid.calls a0 true _ A4.out).mono ?_); rintro e w' ⟨rfl, ⟨nd, rfl⟩⟩; refine ⟨_, rfl, ?_⟩) | (go_at_call 12; (with_reducible refine (vinculumref01_Valid.calls a1 true _ A6.out).mono ?_); rintro e w' ⟨rfl, ⟨nd, rfl⟩⟩) | (go_at_call 12; (with_reducible refine (vinculumref01_Valid.calls a2 true _ A8.out).mono ?_); rintro e w' ⟨rfl, ⟨nd, rfl⟩⟩))
          go_ret
          exact ⟨by first | rfl | (simp; done) | (simp [*]; done), by repeat (first | exact Drawn0.refl _ | apply Drawn0.step)⟩
        · rw [if_neg c10] at H
          have c10b0 : (a2 == 0) = false := beq_eq_false_iff_ne.mpr c10
          have c10b1 : (a2 != 0) = true := bne_iff_ne.mpr c10
          replace H := Option.bind_eq_some_iff.mp H
          obtain ⟨t132, A110, H⟩ := H
          replace H : (some t132) = some r := H
          have A11 := Aside0.mk A110
          clear A110
          obtain rfl := Option.some.inj H
          go_enter Tryd.func18, Tryd.ntmps18
          go_wp2_with (first | ((with_reducible refine gate_callee (f := 12) rfl ?_); refine goesL_ (some 8) rfl rfl Tryd.func12 (by kernel_rfl) rfl #[.int .i64 a0] rfl (by (try simp only [List.map_toArray, List.map_cons, List.map_nil]); first | done | rfl | (simp only [List.length_drop, List.length_take]; rfl)) ?_; (with_reducible refine (vinculumref01_Valid.calls a0 true _ A4.out).mono ?_); rintro e w' ⟨rfl, ⟨nd, rfl⟩⟩; refine ⟨_, rfl, ?_⟩) | (go_at_call 12; (with_reducible refine (vinculumref01_Valid.calls a1 true _ A6.out).mono ?_); rintro e w' ⟨rfl, ⟨nd, rfl⟩⟩) | (go_at_call 12; (with_reducible refine (vinculumref01_Valid.calls a2 true _ A8.out).mono ?_); rintro e w' ⟨rfl, ⟨nd, rfl⟩⟩) | ((with_reducible refine gate_callee (f := 28) rfl ?_); refine goesL_ (some 28) rfl rfl Tryd.func28 (by kernel_rfl) rfl #[.int .i64 (wrap64 (a0 * a1)), .int .i64 a2] rfl (by (try simp only [List.map_toArray, List.map_cons, List.map_nil]); first | done | rfl | (simp only [List.length_drop, List.length_take]; rfl)) ?_; (with_reducible refine (vinculumref01_round.calls (wrap64 (a0 * a1)) a2 t132 _ A11.out).mono ?_); rintro e w' ⟨rfl, ⟨nd, rfl⟩⟩; refine ⟨_, rfl, ?_⟩))
          go_ret
          exact ⟨by first | rfl | (simp; done) | (simp [*]; done), by repeat (first | exact Drawn0.refl _ | apply Drawn0.step)⟩
      · replace c9 := Bool.eq_false_iff.mpr c9
        subst c9
        have H1 : (some 0) = some r := by rw [if_neg (show ¬ (false = true) by decide)] at H; exact H
        clear H
        have H := H1
        clear H1
        obtain rfl := Option.some.inj H
        go_enter Tryd.func18, Tryd.ntmps18
        go_wp2_with (first | ((with_reducible refine gate_callee (f := 12) rfl ?_); refine goesL_ (some 8) rfl rfl Tryd.func12 (by kernel_rfl) rfl #[.int .i64 a0] rfl (by (try simp only [List.map_toArray, List.map_cons, List.map_nil]); first | done | rfl | (simp only [List.length_drop, List.length_take]; rfl)) ?_; (with_reducible refine (vinculumref01_Valid.calls a0 true _ A4.out).mono ?_); rintro e w' ⟨rfl, ⟨nd, rfl⟩⟩; refine ⟨_, rfl, ?_⟩) | (go_at_call 12; (with_reducible refine (vinculumref01_Valid.calls a1 true _ A6.out).mono ?_); rintro e w' ⟨rfl, ⟨nd, rfl⟩⟩) | (go_at_call 12; (with_reducible refine (vinculumref01_Valid.calls a2 false _ A8.out).mono ?_); rintro e w' ⟨rfl, ⟨nd, rfl⟩⟩))
        go_ret
        exact ⟨by first | rfl | (simp; done) | (simp [*]; done), by repeat (first | exact Drawn0.refl _ | apply Drawn0.step)⟩
    · replace c7 := Bool.eq_false_iff.mpr c7
      subst c7
      have H1 : (some 0) = some r := by rw [if_neg (show ¬ (false = true) by decide)] at H; exact H
      clear H
      have H := H1
      clear H1
      obtain rfl := Option.some.inj H
      go_enter Tryd.func18, Tryd.ntmps18
      go_wp2_with (first | ((with_reducible refine gate_callee (f := 12) rfl ?_); refine goesL_ (some 8) rfl rfl Tryd.func12 (by kernel_rfl) rfl #[.int .i64 a0] rfl (by (try simp only [List.map_toArray, List.map_cons, List.map_nil]); first | done | rfl | (simp only [List.length_drop, List.length_take]; rfl)) ?_; (with_reducible refine (vinculumref01_Valid.calls a0 true _ A4.out).mono ?_); rintro e w' ⟨rfl, ⟨nd, rfl⟩⟩; refine ⟨_, rfl, ?_⟩) | (go_at_call 12; (with_reducible refine (vinculumref01_Valid.calls a1 false _ A6.out).mono ?_); rintro e w' ⟨rfl, ⟨nd, rfl⟩⟩))
      go_ret
      exact ⟨by first | rfl | (simp; done) | (simp [*]; done), by repeat (first | exact Drawn0.refl _ | apply Drawn0.step)⟩
  · replace c5 := Bool.eq_false_iff.mpr c5
    subst c5
    have H1 : (some 0) = some r := by rw [if_neg (show ¬ (false = true) by decide)] at H; exact H
    clear H
    have H := H1
    clear H1
    obtain rfl := Option.some.inj H
    go_enter Tryd.func18, Tryd.ntmps18
    go_wp2_with (first | ((with_reducible refine gate_callee (f := 12) rfl ?_); refine goesL_ (some 8) rfl rfl Tryd.func12 (by kernel_rfl) rfl #[.int .i64 a0] rfl (by (try simp only [List.map_toArray, List.map_cons, List.map_nil]); first | done | rfl | (simp only [List.length_drop, List.length_take]; rfl)) ?_; (with_reducible refine (vinculumref01_Valid.calls a0 false _ A4.out).mono ?_); rintro e w' ⟨rfl, ⟨nd, rfl⟩⟩; refine ⟨_, rfl, ?_⟩))
    go_ret
    exact ⟨by first | rfl | (simp; done) | (simp [*]; done), by repeat (first | exact Drawn0.refl _ | apply Drawn0.step)⟩

/-! ### vinculumlaw01_LengthMulDiv: function 4 -/
def vinculumlaw01_LengthMulDiv.f (k : Nat) (a0 : Int) (a1 : Int) (a2 : Int) : Option (Bool) := (vinculumlaw01_awake.f k).bind fun t133 => (if t133 = true then ((length_MulDiv.f k a0 a1 a2).bind fun t134 => ((vinculumref01_MulDiv.f a0 a1 a2).bind fun t135 => (some (t134 == t135)))) else (some false))
theorem vinculumlaw01_LengthMulDiv.mono : ∀ a0 a1 a2 k, LeO (vinculumlaw01_LengthMulDiv.f k a0 a1 a2) (vinculumlaw01_LengthMulDiv.f (k + 1) a0 a1 a2) := by
  intro a0 a1 a2 k
  unfold vinculumlaw01_LengthMulDiv.f
  repeat' first
      | (with_reducible exact length_MulDiv.mono _ _ _ _)
      | (with_reducible exact vinculumlaw01_awake.mono _)
      | (with_reducible exact LeO.refl _)
      | (with_reducible exact LeO.none _)
      | (with_reducible refine LeO.ite ?_ ?_)
      | (with_reducible refine LeO.bind ?_ (fun _ => ?_))
      | exact length_MulDiv.mono _ _ _ _
      | exact vinculumlaw01_awake.mono _
      | exact LeO.none _
      | refine LeO.ite ?_ ?_
      | refine LeO.bind ?_ (fun _ => ?_)
set_option maxHeartbeats 8000000 in
set_option maxRecDepth 100000 in
theorem vinculumlaw01_LengthMulDiv.calls (k : Nat) (a0 : Int) (a1 : Int) (a2 : Int) (r : Bool) (w : World) (hG : Gw w) (h : vinculumlaw01_LengthMulDiv.f k a0 a1 a2 = some r) :
    Calls Tryd.prog 4 #[.int .i64 a0, .int .i64 a1, .int .i64 a2] w fun e w' => e = .returned (.bool r) ∧ Below w.heap.size w w' := by
  have HB := Aside0.mk (Below.refl w.heap.size w)
  have HG := Aside0.mk hG
  clear hG
  have H : ((vinculumlaw01_awake.f k).bind fun t133 => (if t133 = true then ((length_MulDiv.f k a0 a1 a2).bind fun t134 => ((vinculumref01_MulDiv.f a0 a1 a2).bind fun t135 => (some (t134 == t135)))) else (some false))) = some r := h
  clear h
  replace H := Option.bind_eq_some_iff.mp H
  obtain ⟨t133, A40, H⟩ := H
  replace H : (if t133 = true then ((length_MulDiv.f k a0 a1 a2).bind fun t134 => ((vinculumref01_MulDiv.f a0 a1 a2).bind fun t135 => (some (t134 == t135)))) else (some false)) = some r := H
  have A4 := Aside0.mk A40
  clear A40
  by_cases c5 : t133 = true
  · subst c5
    have H1 : ((length_MulDiv.f k a0 a1 a2).bind fun t134 => ((vinculumref01_MulDiv.f a0 a1 a2).bind fun t135 => (some (t134 == t135)))) = some r := by rw [if_pos rfl] at H; exact H
    clear H
    have H := H1
    clear H1
    replace H := Option.bind_eq_some_iff.mp H
    obtain ⟨t134, A60, H⟩ := H
    replace H : ((vinculumref01_MulDiv.f a0 a1 a2).bind fun t135 => (some (t134 == t135))) = some r := H
    have A6 := Aside0.mk A60
    clear A60
    replace H := Option.bind_eq_some_iff.mp H
    obtain ⟨t135, A70, H⟩ := H
    replace H : (some (t134 == t135)) = some r := H
    have A7 := Aside0.mk A70
    clear A70
    obtain rfl := Option.some.inj H
    go_enter Tryd.func4, Tryd.ntmps4
    go_wp2_with (first | ((with_reducible refine gate_callee (f := 10) rfl ?_); refine goesL_ (some 7) rfl rfl Tryd.func10 (by kernel_rfl) rfl #[] rfl (by (try simp only [List.map_toArray, List.map_cons, List.map_nil]); first | done | rfl | (simp only [List.length_drop, List.length_take]; rfl)) ?_; (with_reducible refine (vinculumlaw01_awake.calls k  true _ ?side1 A4.out).mono ?_); (case side1 => first | exact HG.out | (with_reducible exact Gw.drewN HG.out _) | exact Gw.below HG.out (by repeat (first | (with_reducible first | exact HB.out | apply below_alloc | apply pw_below_drewN | apply below_drew1) | exact HB.out)) | ((repeat (first | (with_reducible exact HG.out) | (with_reducible apply Gw.drewN) | (with_reducible apply Gw.drew))); done)); rintro e w8 ⟨rfl, hb⟩; refine ⟨_, rfl, ?_⟩; have n0_ := Aside0.mk (below_step (by repeat (first | (with_reducible first | exact HB.out | apply below_alloc | apply pw_below_drewN | apply below_drew1) | exact HB.out)) hb); clear HB; have HB := n0_; clear n0_; (try clear hb); (try clear hb2); (try clear hk); (try clear hi)) | ((with_reducible refine gate_callee (f := 17) rfl ?_); refine goesL_ (some 12) rfl rfl Tryd.func17 (by kernel_rfl) rfl #[.int .i64 a0, .int .i64 a1, .int .i64 a2] rfl (by (try simp only [List.map_toArray, List.map_cons, List.map_nil]); first | done | rfl | (simp only [List.length_drop, List.length_take]; rfl)) ?_; (with_reducible refine (length_MulDiv.calls k a0 a1 a2 t134 _ A6.out).mono ?_); rintro e w' ⟨rfl, ⟨nd, rfl⟩⟩; refine ⟨_, rfl, ?_⟩) | ((with_reducible refine gate_callee (f := 18) rfl ?_); refine goesL_ (some 16) rfl rfl Tryd.func18 (by kernel_rfl) rfl #[.int .i64 a0, .int .i64 a1, .int .i64 a2] rfl (by (try simp only [List.map_toArray, List.map_cons, List.map_nil]); first | done | rfl | (simp only [List.length_drop, List.length_take]; rfl)) ?_; (with_reducible refine (vinculumref01_MulDiv.calls a0 a1 a2 t135 _ A7.out).mono ?_); rintro e w' ⟨rfl, ⟨nd, rfl⟩⟩; refine ⟨_, rfl, ?_⟩))
    go_ret
    exact ⟨by first | rfl | (simp [errW_none, errW_some] <;> rfl) | (simp [*, errW_none, errW_some] <;> rfl), by repeat (first | (with_reducible first | exact HB.out | apply below_alloc | apply pw_below_drewN | apply below_drew1) | exact HB.out)⟩
  · replace c5 := Bool.eq_false_iff.mpr c5
    subst c5
    have H1 : (some false) = some r := by rw [if_neg (show ¬ (false = true) by decide)] at H; exact H
    clear H
    have H := H1
    clear H1
    obtain rfl := Option.some.inj H
    go_enter Tryd.func4, Tryd.ntmps4
    go_wp2_with (first | ((with_reducible refine gate_callee (f := 10) rfl ?_); refine goesL_ (some 7) rfl rfl Tryd.func10 (by kernel_rfl) rfl #[] rfl (by (try simp only [List.map_toArray, List.map_cons, List.map_nil]); first | done | rfl | (simp only [List.length_drop, List.length_take]; rfl)) ?_; (with_reducible refine (vinculumlaw01_awake.calls k  false _ ?side1 A4.out).mono ?_); (case side1 => first | exact HG.out | (with_reducible exact Gw.drewN HG.out _) | exact Gw.below HG.out (by repeat (first | (with_reducible first | exact HB.out | apply below_alloc | apply pw_below_drewN | apply below_drew1) | exact HB.out)) | ((repeat (first | (with_reducible exact HG.out) | (with_reducible apply Gw.drewN) | (with_reducible apply Gw.drew))); done)); rintro e w9 ⟨rfl, hb⟩; refine ⟨_, rfl, ?_⟩; have n0_ := Aside0.mk (below_step (by repeat (first | (with_reducible first | exact HB.out | apply below_alloc | apply pw_below_drewN | apply below_drew1) | exact HB.out)) hb); clear HB; have HB := n0_; clear n0_; (try clear hb); (try clear hb2); (try clear hk); (try clear hi)))
    go_ret
    exact ⟨by first | rfl | (simp [errW_none, errW_some] <;> rfl) | (simp [*, errW_none, errW_some] <;> rfl), by repeat (first | (with_reducible first | exact HB.out | apply below_alloc | apply pw_below_drewN | apply below_drew1) | exact HB.out)⟩

/-! ### vinculumlaw01_LengthError: function 5 -/
mutual
def vinculumlaw01_LengthError.j0 : Nat → Int → Int → Int → Bool → Option (Bool)
  | 0, _, _, _, _ => none
  | k + 1, x0, x1, x2, x22 => if x22 = true then (some true) else ((length_Scale.f k x0 x1).bind fun t138 => ((length_Half.f k x0).bind fun t139 => (if (wrap64 (2 * (wrap64 ((wrap64 (100 * t138)) - (wrap64 (x0 * x1)))))) > 100 then (vinculumlaw01_LengthError.j1 k x0 x1 x2 true) else (if (wrap64 (2 * (wrap64 ((wrap64 (100 * t138)) - (wrap64 (x0 * x1)))))) < (-100) then (vinculumlaw01_LengthError.j1 k x0 x1 x2 true) else (if (wrap64 ((wrap64 (2 * t139)) - x0)) > 1 then (vinculumlaw01_LengthError.j1 k x0 x1 x2 true) else (vinculumlaw01_LengthError.j1 k x0 x1 x2 (decide ((wrap64 ((wrap64 (2 * t139)) - x0)) < (-1)))))))))
def vinculumlaw01_LengthError.j1 : Nat → Int → Int → Int → Bool → Option (Bool)
  | 0, _, _, _, _ => none
  | k + 1, x0, x1, x2, x51 => if x51 = true then (some false) else ((vinculumref01_Valid.f (wrap64 (x0 + (wrap64 (x2))))).bind fun t140 => (if t140 = true then ((length_Scale.f k (wrap64 (x0 + (wrap64 (x2)))) x1).bind fun t141 => ((length_Scale.f k x0 x1).bind fun t142 => (if t141 ≥ t142 then ((length_Half.f k (wrap64 (x0 + (wrap64 (x2))))).bind fun t143 => ((length_Half.f k x0).bind fun t144 => (some (decide (t143 ≥ t144))))) else (some false)))) else (some true)))
end
def vinculumlaw01_LengthError.f (k : Nat) (a0 : Int) (a1 : Int) (a2 : Int) : Option (Bool) := (vinculumlaw01_awake.f k).bind fun t136 => (if t136 = true then ((vinculumref01_Valid.f a0).bind fun t137 => (if t137 = true then (if a1 < 0 then (vinculumlaw01_LengthError.j0 k a0 a1 a2 true) else (vinculumlaw01_LengthError.j0 k a0 a1 a2 (decide (a1 > 10000)))) else (vinculumlaw01_LengthError.j0 k a0 a1 a2 true))) else (some false))
theorem vinculumlaw01_LengthError.mono_l : ∀ k, (∀ y0 y1 y2 y3, LeO (vinculumlaw01_LengthError.j0 k y0 y1 y2 y3) (vinculumlaw01_LengthError.j0 (k + 1) y0 y1 y2 y3)) ∧ (∀ y0 y1 y2 y3, LeO (vinculumlaw01_LengthError.j1 k y0 y1 y2 y3) (vinculumlaw01_LengthError.j1 (k + 1) y0 y1 y2 y3))
  | 0 => ⟨fun _ _ _ _ r h => by simp [vinculumlaw01_LengthError.j0] at h, fun _ _ _ _ r h => by simp [vinculumlaw01_LengthError.j1] at h⟩
  | k + 1 => by
    obtain ⟨ih0, ih1⟩ := vinculumlaw01_LengthError.mono_l k
    refine ⟨?_, ?_⟩
    · intro y0 y1 y2 y3
      unfold vinculumlaw01_LengthError.j0
      repeat' first
      | (with_reducible exact ih0 _ _ _ _)
      | (with_reducible exact ih1 _ _ _ _)
      | (with_reducible exact length_Half.mono _ _)
      | (with_reducible exact length_Scale.mono _ _ _)
      | (with_reducible exact vinculumlaw01_awake.mono _)
      | (with_reducible exact LeO.refl _)
      | (with_reducible exact LeO.none _)
      | (with_reducible refine LeO.ite ?_ ?_)
      | (with_reducible refine LeO.bind ?_ (fun _ => ?_))
      | exact ih0 _ _ _ _
      | exact ih1 _ _ _ _
      | exact length_Half.mono _ _
      | exact length_Scale.mono _ _ _
      | exact vinculumlaw01_awake.mono _
      | exact LeO.none _
      | refine LeO.ite ?_ ?_
      | refine LeO.bind ?_ (fun _ => ?_)
    · intro y0 y1 y2 y3
      unfold vinculumlaw01_LengthError.j1
      repeat' first
      | (with_reducible exact ih0 _ _ _ _)
      | (with_reducible exact ih1 _ _ _ _)
      | (with_reducible exact length_Half.mono _ _)
      | (with_reducible exact length_Scale.mono _ _ _)
      | (with_reducible exact vinculumlaw01_awake.mono _)
      | (with_reducible exact LeO.refl _)
      | (with_reducible exact LeO.none _)
      | (with_reducible refine LeO.ite ?_ ?_)
      | (with_reducible refine LeO.bind ?_ (fun _ => ?_))
      | exact ih0 _ _ _ _
      | exact ih1 _ _ _ _
      | exact length_Half.mono _ _
      | exact length_Scale.mono _ _ _
      | exact vinculumlaw01_awake.mono _
      | exact LeO.none _
      | refine LeO.ite ?_ ?_
      | refine LeO.bind ?_ (fun _ => ?_)
theorem vinculumlaw01_LengthError.mono : ∀ a0 a1 a2 k, LeO (vinculumlaw01_LengthError.f k a0 a1 a2) (vinculumlaw01_LengthError.f (k + 1) a0 a1 a2) := by
  intro a0 a1 a2 k
  obtain ⟨ih0, ih1⟩ := vinculumlaw01_LengthError.mono_l k
  unfold vinculumlaw01_LengthError.f
  repeat' first
      | (with_reducible exact ih0 _ _ _ _)
      | (with_reducible exact ih1 _ _ _ _)
      | (with_reducible exact length_Half.mono _ _)
      | (with_reducible exact length_Scale.mono _ _ _)
      | (with_reducible exact vinculumlaw01_awake.mono _)
      | (with_reducible exact LeO.refl _)
      | (with_reducible exact LeO.none _)
      | (with_reducible refine LeO.ite ?_ ?_)
      | (with_reducible refine LeO.bind ?_ (fun _ => ?_))
      | exact ih0 _ _ _ _
      | exact ih1 _ _ _ _
      | exact length_Half.mono _ _
      | exact length_Scale.mono _ _ _
      | exact vinculumlaw01_awake.mono _
      | exact LeO.none _
      | refine LeO.ite ?_ ?_
      | refine LeO.bind ?_ (fun _ => ?_)
set_option maxHeartbeats 8000000 in
set_option maxRecDepth 100000 in
theorem vinculumlaw01_LengthError.calls (k : Nat) (a0 : Int) (a1 : Int) (a2 : Int) (r : Bool) (w : World) (hG : Gw w) (h : vinculumlaw01_LengthError.f k a0 a1 a2 = some r) :
    Calls Tryd.prog 5 #[.int .i64 a0, .int .i64 a1, .int .u16 a2] w fun e w' => e = .returned (.bool r) ∧ Below w.heap.size w w' := by
  have HB := Aside0.mk (Below.refl w.heap.size w)
  have HG := Aside0.mk hG
  clear hG
  have H : ((vinculumlaw01_awake.f k).bind fun t136 => (if t136 = true then ((vinculumref01_Valid.f a0).bind fun t137 => (if t137 = true then (if a1 < 0 then (vinculumlaw01_LengthError.j0 k a0 a1 a2 true) else (vinculumlaw01_LengthError.j0 k a0 a1 a2 (decide (a1 > 10000)))) else (vinculumlaw01_LengthError.j0 k a0 a1 a2 true))) else (some false))) = some r := h
  clear h
  replace H := Option.bind_eq_some_iff.mp H
  obtain ⟨t136, A40, H⟩ := H
  replace H : (if t136 = true then ((vinculumref01_Valid.f a0).bind fun t137 => (if t137 = true then (if a1 < 0 then (vinculumlaw01_LengthError.j0 k a0 a1 a2 true) else (vinculumlaw01_LengthError.j0 k a0 a1 a2 (decide (a1 > 10000)))) else (vinculumlaw01_LengthError.j0 k a0 a1 a2 true))) else (some false)) = some r := H
  have A4 := Aside0.mk A40
  clear A40
  by_cases c5 : t136 = true
  · subst c5
    have H1 : ((vinculumref01_Valid.f a0).bind fun t137 => (if t137 = true then (if a1 < 0 then (vinculumlaw01_LengthError.j0 k a0 a1 a2 true) else (vinculumlaw01_LengthError.j0 k a0 a1 a2 (decide (a1 > 10000)))) else (vinculumlaw01_LengthError.j0 k a0 a1 a2 true))) = some r := by rw [if_pos rfl] at H; exact H
    clear H
    have H := H1
    clear H1
    have HC6 := Aside0.mk H
    clear H
    go_enter Tryd.func5, Tryd.ntmps5
    go_upto_region 3 with (first | ((with_reducible refine gate_callee (f := 10) rfl ?_); refine goesL_ (some 10) rfl rfl Tryd.func10 (by kernel_rfl) rfl #[] rfl (by (try simp only [List.map_toArray, List.map_cons, List.map_nil]); first | done | rfl | (simp only [List.length_drop, List.length_take]; rfl)) ?_; (with_reducible refine (vinculumlaw01_awake.calls k  true _ ?side1 A4.out).mono ?_); (case side1 => first | exact HG.out | (with_reducible exact Gw.drewN HG.out _) | exact Gw.below HG.out (by repeat (first | (with_reducible first | exact HB.out | apply below_alloc | apply pw_below_drewN | apply below_drew1) | exact HB.out)) | ((repeat (first | (with_reducible exact HG.out) | (with_reducible apply Gw.drewN) | (with_reducible apply Gw.drew))); done)); rintro e w7 ⟨rfl, hb⟩; refine ⟨_, rfl, ?_⟩; have n0_ := Aside0.mk (below_step (by repeat (first | (with_reducible first | exact HB.out | apply below_alloc | apply pw_below_drewN | apply below_drew1) | exact HB.out)) hb); clear HB; have HB := n0_; clear n0_; (try clear hb); (try clear hb2); (try clear hk); (try clear hi)))
    (try simp only [Act.put, List.setIfInBounds_toArray, List.set_cons_zero, List.set_cons_succ])
    go_cut [22] (fun v22 wc => ∃ (kq : Nat) (x22_5 : Bool), v22 = .bool x22_5 ∧ Aside0 (vinculumlaw01_LengthError.j0 kq a0 a1 a2 x22_5 = some r) ∧ Aside0 (kq ≤ k) ∧ Aside0 (Below w.heap.size w wc))
    case first =>
      have H := HC6.out
      clear HC6
      replace H := Option.bind_eq_some_iff.mp H
      obtain ⟨t137, A80, H⟩ := H
      replace H : (if t137 = true then (if a1 < 0 then (vinculumlaw01_LengthError.j0 k a0 a1 a2 true) else (vinculumlaw01_LengthError.j0 k a0 a1 a2 (decide (a1 > 10000)))) else (vinculumlaw01_LengthError.j0 k a0 a1 a2 true)) = some r := H
      have A8 := Aside0.mk A80
      clear A80
      by_cases c9 : t137 = true
      · subst c9
        have H1 : (if a1 < 0 then (vinculumlaw01_LengthError.j0 k a0 a1 a2 true) else (vinculumlaw01_LengthError.j0 k a0 a1 a2 (decide (a1 > 10000)))) = some r := by rw [if_pos rfl] at H; exact H
        clear H
        have H := H1
        clear H1
        by_cases c10 : a1 < 0
        · rw [if_pos c10] at H
          have c10b0 : decide (a1 < 0) = true := decide_eq_true c10
          clear c10
          (first | rw [c10b0] | (simp only [i64_w, i32_w]; rw [c10b0]) | skip)
          have H' := Aside0.mk H
          clear H
          go_wp2_with (first | ((with_reducible refine gate_callee (f := 12) rfl ?_); refine goesL_ (some 13) rfl rfl Tryd.func12 (by kernel_rfl) rfl #[.int .i64 a0] rfl (by (try simp only [List.map_toArray, List.map_cons, List.map_nil]); first | done | rfl | (simp only [List.length_drop, List.length_take]; rfl)) ?_; (with_reducible refine (vinculumref01_Valid.calls a0 true _ A8.out).mono ?_); rintro e w' ⟨rfl, ⟨nd, rfl⟩⟩; refine ⟨_, rfl, ?_⟩))
          go_meet
          case rel => exact ⟨_, (true), (by first | rfl | (simp; done) | (simp [*]; done)), H', ⟨by first | omega | exact Nat.le_refl _⟩, ⟨by repeat (first | (with_reducible first | exact HB.out | apply below_alloc | apply pw_below_drewN | apply below_drew1) | exact HB.out)⟩⟩
        · rw [if_neg c10] at H
          have c10b0 : decide (a1 < 0) = false := decide_eq_false c10
          clear c10
          (first | rw [c10b0] | (simp only [i64_w, i32_w]; rw [c10b0]) | skip)
          have H' := Aside0.mk H
          clear H
          go_wp2_with (first | ((with_reducible refine gate_callee (f := 12) rfl ?_); refine goesL_ (some 13) rfl rfl Tryd.func12 (by kernel_rfl) rfl #[.int .i64 a0] rfl (by (try simp only [List.map_toArray, List.map_cons, List.map_nil]); first | done | rfl | (simp only [List.length_drop, List.length_take]; rfl)) ?_; (with_reducible refine (vinculumref01_Valid.calls a0 true _ A8.out).mono ?_); rintro e w' ⟨rfl, ⟨nd, rfl⟩⟩; refine ⟨_, rfl, ?_⟩))
          go_meet
          case rel => exact ⟨_, (decide (a1 > 10000)), (by first | rfl | (simp; done) | (simp [*]; done)), H', ⟨by first | omega | exact Nat.le_refl _⟩, ⟨by repeat (first | (with_reducible first | exact HB.out | apply below_alloc | apply pw_below_drewN | apply below_drew1) | exact HB.out)⟩⟩
      · replace c9 := Bool.eq_false_iff.mpr c9
        subst c9
        have H1 : (vinculumlaw01_LengthError.j0 k a0 a1 a2 true) = some r := by rw [if_neg (show ¬ (false = true) by decide)] at H; exact H
        clear H
        have H := H1
        clear H1
        have H' := Aside0.mk H
        clear H
        go_wp2_with (first | ((with_reducible refine gate_callee (f := 12) rfl ?_); refine goesL_ (some 13) rfl rfl Tryd.func12 (by kernel_rfl) rfl #[.int .i64 a0] rfl (by (try simp only [List.map_toArray, List.map_cons, List.map_nil]); first | done | rfl | (simp only [List.length_drop, List.length_take]; rfl)) ?_; (with_reducible refine (vinculumref01_Valid.calls a0 false _ A8.out).mono ?_); rintro e w' ⟨rfl, ⟨nd, rfl⟩⟩; refine ⟨_, rfl, ?_⟩))
        go_meet
        case rel => exact ⟨_, (true), (by first | rfl | (simp; done) | (simp [*]; done)), H', ⟨by first | omega | exact Nat.le_refl _⟩, ⟨by repeat (first | (with_reducible first | exact HB.out | apply below_alloc | apply pw_below_drewN | apply below_drew1) | exact HB.out)⟩⟩
    case rest =>
      clear HC6
      try clear c1
      try clear p2
      try clear c5
      try clear c9
      try clear c10
      try clear c10b0
      obtain ⟨kq, x22_5, rfl, HA, HJ5, HB⟩ := hcut
      cases kq with
      | zero => exact absurd HA.out (by simp [vinculumlaw01_LengthError.j0])
      | succ kj5 =>
        have H := HA.out
        clear HA
        simp only [vinculumlaw01_LengthError.j0] at H
        by_cases c11 : x22_5 = true
        · subst c11
          have H1 : (some true) = some r := by rw [if_pos rfl] at H; exact H
          clear H
          have H := H1
          clear H1
          obtain rfl := Option.some.inj H
          go_wp2
          go_ret
          exact ⟨by first | rfl | (simp [errW_none, errW_some] <;> rfl) | (simp [*, errW_none, errW_some] <;> rfl), by repeat (first | (with_reducible first | exact HB.out | apply below_alloc | apply pw_below_drewN | apply below_drew1) | exact HB.out)⟩
        · replace c11 := Bool.eq_false_iff.mpr c11
          subst c11
          have H1 : ((length_Scale.f kj5 a0 a1).bind fun t138 => ((length_Half.f kj5 a0).bind fun t139 => (if (wrap64 (2 * (wrap64 ((wrap64 (100 * t138)) - (wrap64 (a0 * a1)))))) > 100 then (vinculumlaw01_LengthError.j1 kj5 a0 a1 a2 true) else (if (wrap64 (2 * (wrap64 ((wrap64 (100 * t138)) - (wrap64 (a0 * a1)))))) < (-100) then (vinculumlaw01_LengthError.j1 kj5 a0 a1 a2 true) else (if (wrap64 ((wrap64 (2 * t139)) - a0)) > 1 then (vinculumlaw01_LengthError.j1 kj5 a0 a1 a2 true) else (vinculumlaw01_LengthError.j1 kj5 a0 a1 a2 (decide ((wrap64 ((wrap64 (2 * t139)) - a0)) < (-1))))))))) = some r := by rw [if_neg (show ¬ (false = true) by decide)] at H; exact H
          clear H
          have H := H1
          clear H1
          replace H := Option.bind_eq_some_iff.mp H
          obtain ⟨t138, A120, H⟩ := H
          replace H : ((length_Half.f kj5 a0).bind fun t139 => (if (wrap64 (2 * (wrap64 ((wrap64 (100 * t138)) - (wrap64 (a0 * a1)))))) > 100 then (vinculumlaw01_LengthError.j1 kj5 a0 a1 a2 true) else (if (wrap64 (2 * (wrap64 ((wrap64 (100 * t138)) - (wrap64 (a0 * a1)))))) < (-100) then (vinculumlaw01_LengthError.j1 kj5 a0 a1 a2 true) else (if (wrap64 ((wrap64 (2 * t139)) - a0)) > 1 then (vinculumlaw01_LengthError.j1 kj5 a0 a1 a2 true) else (vinculumlaw01_LengthError.j1 kj5 a0 a1 a2 (decide ((wrap64 ((wrap64 (2 * t139)) - a0)) < (-1)))))))) = some r := H
          have A12 := Aside0.mk A120
          clear A120
          replace H := Option.bind_eq_some_iff.mp H
          obtain ⟨t139, A130, H⟩ := H
          replace H : (if (wrap64 (2 * (wrap64 ((wrap64 (100 * t138)) - (wrap64 (a0 * a1)))))) > 100 then (vinculumlaw01_LengthError.j1 kj5 a0 a1 a2 true) else (if (wrap64 (2 * (wrap64 ((wrap64 (100 * t138)) - (wrap64 (a0 * a1)))))) < (-100) then (vinculumlaw01_LengthError.j1 kj5 a0 a1 a2 true) else (if (wrap64 ((wrap64 (2 * t139)) - a0)) > 1 then (vinculumlaw01_LengthError.j1 kj5 a0 a1 a2 true) else (vinculumlaw01_LengthError.j1 kj5 a0 a1 a2 (decide ((wrap64 ((wrap64 (2 * t139)) - a0)) < (-1))))))) = some r := H
          have A13 := Aside0.mk A130
          clear A130
          have HC14 := Aside0.mk H
          clear H
          go_upto_region 7 with (first | ((with_reducible refine gate_callee (f := 13) rfl ?_); refine goesL_ (some 25) rfl rfl Tryd.func13 (by kernel_rfl) rfl #[.int .i64 a0, .int .i64 a1] rfl (by (try simp only [List.map_toArray, List.map_cons, List.map_nil]); first | done | rfl | (simp only [List.length_drop, List.length_take]; rfl)) ?_; (with_reducible refine (length_Scale.calls kj5 a0 a1 t138 _ A12.out).mono ?_); rintro e w' ⟨rfl, ⟨nd, rfl⟩⟩; refine ⟨_, rfl, ?_⟩) | ((with_reducible refine gate_callee (f := 15) rfl ?_); refine goesL_ (some 32) rfl rfl Tryd.func15 (by kernel_rfl) rfl #[.int .i64 a0] rfl (by (try simp only [List.map_toArray, List.map_cons, List.map_nil]); first | done | rfl | (simp only [List.length_drop, List.length_take]; rfl)) ?_; (with_reducible refine (length_Half.calls kj5 a0 t139 _ A13.out).mono ?_); rintro e w' ⟨rfl, ⟨nd, rfl⟩⟩; refine ⟨_, rfl, ?_⟩))
          (try simp only [Act.put, List.setIfInBounds_toArray, List.set_cons_zero, List.set_cons_succ])
          go_cut [51] (fun v51 wc => ∃ (kq : Nat) (x51_13 : Bool), v51 = .bool x51_13 ∧ Aside0 (vinculumlaw01_LengthError.j1 kq a0 a1 a2 x51_13 = some r) ∧ Aside0 (kq ≤ kj5) ∧ Aside0 (Below w.heap.size w wc))
          case first =>
            have H := HC14.out
            clear HC14
            by_cases c15 : (wrap64 (2 * (wrap64 ((wrap64 (100 * t138)) - (wrap64 (a0 * a1)))))) > 100
            · rw [if_pos c15] at H
              have c15b0 : decide (100 < (wrap64 (2 * (wrap64 ((wrap64 (100 * t138)) - (wrap64 (a0 * a1))))))) = true := decide_eq_true c15
              clear c15
              (first | rw [c15b0] | (simp only [i64_w, i32_w]; rw [c15b0]) | skip)
              have H' := Aside0.mk H
              clear H
              go_wp2
              go_meet
              case rel => exact ⟨_, (true), (by first | rfl | (simp; done) | (simp [*]; done)), H', ⟨by have := HJ5.out; first | omega | exact Nat.le_refl _⟩, ⟨by repeat (first | (with_reducible first | exact HB.out | apply below_alloc | apply pw_below_drewN | apply below_drew1) | exact HB.out)⟩⟩
            · rw [if_neg c15] at H
              have c15b0 : decide (100 < (wrap64 (2 * (wrap64 ((wrap64 (100 * t138)) - (wrap64 (a0 * a1))))))) = false := decide_eq_false c15
              clear c15
              (first | rw [c15b0] | (simp only [i64_w, i32_w]; rw [c15b0]) | skip)
              by_cases c16 : (wrap64 (2 * (wrap64 ((wrap64 (100 * t138)) - (wrap64 (a0 * a1)))))) < (-100)
              · rw [if_pos c16] at H
                have c16b0 : decide ((wrap64 (2 * (wrap64 ((wrap64 (100 * t138)) - (wrap64 (a0 * a1)))))) < (-100)) = true := decide_eq_true c16
                clear c16
                have H' := Aside0.mk H
                clear H
                go_wp2
                go_meet
                case rel => exact ⟨_, (true), (by first | rfl | (simp; done) | (simp [*]; done)), H', ⟨by have := HJ5.out; first | omega | exact Nat.le_refl _⟩, ⟨by repeat (first | (with_reducible first | exact HB.out | apply below_alloc | apply pw_below_drewN | apply below_drew1) | exact HB.out)⟩⟩
              · rw [if_neg c16] at H
                have c16b0 : decide ((wrap64 (2 * (wrap64 ((wrap64 (100 * t138)) - (wrap64 (a0 * a1)))))) < (-100)) = false := decide_eq_false c16
                clear c16
                by_cases c17 : (wrap64 ((wrap64 (2 * t139)) - a0)) > 1
                · rw [if_pos c17] at H
                  have c17b0 : decide (1 < (wrap64 ((wrap64 (2 * t139)) - a0))) = true := decide_eq_true c17
                  clear c17
                  have H' := Aside0.mk H
                  clear H
                  go_wp2
                  go_meet
                  case rel => exact ⟨_, (true), (by first | rfl | (simp; done) | (simp [*]; done)), H', ⟨by have := HJ5.out; first | omega | exact Nat.le_refl _⟩, ⟨by repeat (first | (with_reducible first | exact HB.out | apply below_alloc | apply pw_below_drewN | apply below_drew1) | exact HB.out)⟩⟩
                · rw [if_neg c17] at H
                  have c17b0 : decide (1 < (wrap64 ((wrap64 (2 * t139)) - a0))) = false := decide_eq_false c17
                  clear c17
                  have H' := Aside0.mk H
                  clear H
                  go_wp2
                  go_meet
                  case rel => exact ⟨_, (decide ((wrap64 ((wrap64 (2 * t139)) - a0)) < (-1))), (by first | rfl | (simp; done) | (simp [*]; done)), H', ⟨by have := HJ5.out; first | omega | exact Nat.le_refl _⟩, ⟨by repeat (first | (with_reducible first | exact HB.out | apply below_alloc | apply pw_below_drewN | apply below_drew1) | exact HB.out)⟩⟩
          case rest =>
            clear HC14
            try clear c1
            try clear p2
            try clear c5
            try clear p6
            try clear c9
            try clear c10
            try clear c10b0
            try clear c11
            try clear c12
            try clear c13
            try clear c15
            try clear c15b0
            try clear c16
            try clear c16b0
            try clear c17
            try clear c17b0
            try clear p2
            obtain ⟨kq, x51_13, rfl, HA, HJ13, HB⟩ := hcut
            cases kq with
            | zero => exact absurd HA.out (by simp [vinculumlaw01_LengthError.j1])
            | succ kj13 =>
              have H := HA.out
              clear HA
              simp only [vinculumlaw01_LengthError.j1] at H
              by_cases c18 : x51_13 = true
              · subst c18
                have H1 : (some false) = some r := by rw [if_pos rfl] at H; exact H
                clear H
                have H := H1
                clear H1
                obtain rfl := Option.some.inj H
                go_wp2
                go_ret
                exact ⟨by first | rfl | (simp [errW_none, errW_some] <;> rfl) | (simp [*, errW_none, errW_some] <;> rfl), by repeat (first | (with_reducible first | exact HB.out | apply below_alloc | apply pw_below_drewN | apply below_drew1) | exact HB.out)⟩
              · replace c18 := Bool.eq_false_iff.mpr c18
                subst c18
                have H1 : ((vinculumref01_Valid.f (wrap64 (a0 + (wrap64 (a2))))).bind fun t140 => (if t140 = true then ((length_Scale.f kj13 (wrap64 (a0 + (wrap64 (a2)))) a1).bind fun t141 => ((length_Scale.f kj13 a0 a1).bind fun t142 => (if t141 ≥ t142 then ((length_Half.f kj13 (wrap64 (a0 + (wrap64 (a2))))).bind fun t143 => ((length_Half.f kj13 a0).bind fun t144 => (some (decide (t143 ≥ t144))))) else (some false)))) else (some true))) = some r := by rw [if_neg (show ¬ (false = true) by decide)] at H; exact H
                clear H
                have H := H1
                clear H1
                replace H := Option.bind_eq_some_iff.mp H
                obtain ⟨t140, A190, H⟩ := H
                replace H : (if t140 = true then ((length_Scale.f kj13 (wrap64 (a0 + (wrap64 (a2)))) a1).bind fun t141 => ((length_Scale.f kj13 a0 a1).bind fun t142 => (if t141 ≥ t142 then ((length_Half.f kj13 (wrap64 (a0 + (wrap64 (a2))))).bind fun t143 => ((length_Half.f kj13 a0).bind fun t144 => (some (decide (t143 ≥ t144))))) else (some false)))) else (some true)) = some r := H
                have A19 := Aside0.mk A190
                clear A190
                by_cases c20 : t140 = true
                · subst c20
                  have H1 : ((length_Scale.f kj13 (wrap64 (a0 + (wrap64 (a2)))) a1).bind fun t141 => ((length_Scale.f kj13 a0 a1).bind fun t142 => (if t141 ≥ t142 then ((length_Half.f kj13 (wrap64 (a0 + (wrap64 (a2))))).bind fun t143 => ((length_Half.f kj13 a0).bind fun t144 => (some (decide (t143 ≥ t144))))) else (some false)))) = some r := by rw [if_pos rfl] at H; exact H
                  clear H
                  have H := H1
                  clear H1
                  replace H := Option.bind_eq_some_iff.mp H
                  obtain ⟨t141, A210, H⟩ := H
                  replace H : ((length_Scale.f kj13 a0 a1).bind fun t142 => (if t141 ≥ t142 then ((length_Half.f kj13 (wrap64 (a0 + (wrap64 (a2))))).bind fun t143 => ((length_Half.f kj13 a0).bind fun t144 => (some (decide (t143 ≥ t144))))) else (some false))) = some r := H
                  have A21 := Aside0.mk A210
                  clear A210
                  replace H := Option.bind_eq_some_iff.mp H
                  obtain ⟨t142, A220, H⟩ := H
                  replace H : (if t141 ≥ t142 then ((length_Half.f kj13 (wrap64 (a0 + (wrap64 (a2))))).bind fun t143 => ((length_Half.f kj13 a0).bind fun t144 => (some (decide (t143 ≥ t144))))) else (some false)) = some r := H
                  have A22 := Aside0.mk A220
                  clear A220
                  by_cases c23 : t141 ≥ t142
                  · rw [if_pos c23] at H
                    have c23b0 : decide (t142 ≤ t141) = true := decide_eq_true c23
                    clear c23
                    replace H := Option.bind_eq_some_iff.mp H
                    obtain ⟨t143, A240, H⟩ := H
                    replace H : ((length_Half.f kj13 a0).bind fun t144 => (some (decide (t143 ≥ t144)))) = some r := H
                    have A24 := Aside0.mk A240
                    clear A240
                    replace H := Option.bind_eq_some_iff.mp H
                    obtain ⟨t144, A250, H⟩ := H
                    replace H : (some (decide (t143 ≥ t144))) = some r := H
                    have A25 := Aside0.mk A250
                    clear A250
                    obtain rfl := Option.some.inj H
                    go_wp2_with (first | ((with_reducible refine gate_callee (f := 12) rfl ?_); refine goesL_ (some 57) rfl rfl Tryd.func12 (by kernel_rfl) rfl #[.int .i64 (wrap64 (a0 + (wrap64 (a2))))] rfl (by (try simp only [List.map_toArray, List.map_cons, List.map_nil]); first | done | rfl | (simp only [List.length_drop, List.length_take]; rfl)) ?_; (with_reducible refine (vinculumref01_Valid.calls (wrap64 (a0 + (wrap64 (a2)))) true _ A19.out).mono ?_); rintro e w' ⟨rfl, ⟨nd, rfl⟩⟩; refine ⟨_, rfl, ?_⟩) | (go_at_call 13; (with_reducible refine (length_Scale.calls kj13 (wrap64 (a0 + (wrap64 (a2)))) a1 t141 _ A21.out).mono ?_); rintro e w' ⟨rfl, ⟨nd, rfl⟩⟩) | (go_at_call 13; (with_reducible refine (length_Scale.calls kj13 a0 a1 t142 _ A22.out).mono ?_); rintro e w' ⟨rfl, ⟨nd, rfl⟩⟩) | (go_at_call 15; (with_reducible refine (length_Half.calls kj13 (wrap64 (a0 + (wrap64 (a2)))) t143 _ A24.out).mono ?_); rintro e w' ⟨rfl, ⟨nd, rfl⟩⟩) | (go_at_call 15; (with_reducible refine (length_Half.calls kj13 a0 t144 _ A25.out).mono ?_); rintro e w' ⟨rfl, ⟨nd, rfl⟩⟩))
                    go_ret
                    exact ⟨by first | rfl | (simp [errW_none, errW_some] <;> rfl) | (simp [*, errW_none, errW_some] <;> rfl), by repeat (first | (with_reducible first | exact HB.out | apply below_alloc | apply pw_below_drewN | apply below_drew1) | exact HB.out)⟩
                  · rw [if_neg c23] at H
                    have c23b0 : decide (t142 ≤ t141) = false := decide_eq_false c23
                    clear c23
                    obtain rfl := Option.some.inj H
                    go_wp2_with (first | ((with_reducible refine gate_callee (f := 12) rfl ?_); refine goesL_ (some 57) rfl rfl Tryd.func12 (by kernel_rfl) rfl #[.int .i64 (wrap64 (a0 + (wrap64 (a2))))] rfl (by (try simp only [List.map_toArray, List.map_cons, List.map_nil]); first | done | rfl | (simp only [List.length_drop, List.length_take]; rfl)) ?_; (with_reducible refine (vinculumref01_Valid.calls (wrap64 (a0 + (wrap64 (a2)))) true _ A19.out).mono ?_); rintro e w' ⟨rfl, ⟨nd, rfl⟩⟩; refine ⟨_, rfl, ?_⟩) | (go_at_call 13; (with_reducible refine (length_Scale.calls kj13 (wrap64 (a0 + (wrap64 (a2)))) a1 t141 _ A21.out).mono ?_); rintro e w' ⟨rfl, ⟨nd, rfl⟩⟩) | (go_at_call 13; (with_reducible refine (length_Scale.calls kj13 a0 a1 t142 _ A22.out).mono ?_); rintro e w' ⟨rfl, ⟨nd, rfl⟩⟩))
                    go_ret
                    exact ⟨by first | rfl | (simp [errW_none, errW_some] <;> rfl) | (simp [*, errW_none, errW_some] <;> rfl), by repeat (first | (with_reducible first | exact HB.out | apply below_alloc | apply pw_below_drewN | apply below_drew1) | exact HB.out)⟩
                · replace c20 := Bool.eq_false_iff.mpr c20
                  subst c20
                  have H1 : (some true) = some r := by rw [if_neg (show ¬ (false = true) by decide)] at H; exact H
                  clear H
                  have H := H1
                  clear H1
                  obtain rfl := Option.some.inj H
                  go_wp2_with (first | ((with_reducible refine gate_callee (f := 12) rfl ?_); refine goesL_ (some 57) rfl rfl Tryd.func12 (by kernel_rfl) rfl #[.int .i64 (wrap64 (a0 + (wrap64 (a2))))] rfl (by (try simp only [List.map_toArray, List.map_cons, List.map_nil]); first | done | rfl | (simp only [List.length_drop, List.length_take]; rfl)) ?_; (with_reducible refine (vinculumref01_Valid.calls (wrap64 (a0 + (wrap64 (a2)))) false _ A19.out).mono ?_); rintro e w' ⟨rfl, ⟨nd, rfl⟩⟩; refine ⟨_, rfl, ?_⟩))
                  go_ret
                  exact ⟨by first | rfl | (simp [errW_none, errW_some] <;> rfl) | (simp [*, errW_none, errW_some] <;> rfl), by repeat (first | (with_reducible first | exact HB.out | apply below_alloc | apply pw_below_drewN | apply below_drew1) | exact HB.out)⟩
  · replace c5 := Bool.eq_false_iff.mpr c5
    subst c5
    have H1 : (some false) = some r := by rw [if_neg (show ¬ (false = true) by decide)] at H; exact H
    clear H
    have H := H1
    clear H1
    obtain rfl := Option.some.inj H
    go_enter Tryd.func5, Tryd.ntmps5
    go_wp2_with (first | ((with_reducible refine gate_callee (f := 10) rfl ?_); refine goesL_ (some 10) rfl rfl Tryd.func10 (by kernel_rfl) rfl #[] rfl (by (try simp only [List.map_toArray, List.map_cons, List.map_nil]); first | done | rfl | (simp only [List.length_drop, List.length_take]; rfl)) ?_; (with_reducible refine (vinculumlaw01_awake.calls k  false _ ?side1 A4.out).mono ?_); (case side1 => first | exact HG.out | (with_reducible exact Gw.drewN HG.out _) | exact Gw.below HG.out (by repeat (first | (with_reducible first | exact HB.out | apply below_alloc | apply pw_below_drewN | apply below_drew1) | exact HB.out)) | ((repeat (first | (with_reducible exact HG.out) | (with_reducible apply Gw.drewN) | (with_reducible apply Gw.drew))); done)); rintro e w26 ⟨rfl, hb⟩; refine ⟨_, rfl, ?_⟩; have n0_ := Aside0.mk (below_step (by repeat (first | (with_reducible first | exact HB.out | apply below_alloc | apply pw_below_drewN | apply below_drew1) | exact HB.out)) hb); clear HB; have HB := n0_; clear n0_; (try clear hb); (try clear hb2); (try clear hk); (try clear hi)))
    go_ret
    exact ⟨by first | rfl | (simp [errW_none, errW_some] <;> rfl) | (simp [*, errW_none, errW_some] <;> rfl), by repeat (first | (with_reducible first | exact HB.out | apply below_alloc | apply pw_below_drewN | apply below_drew1) | exact HB.out)⟩

end Go.Proofs.YtignpfhlagfijaaDoor.X
