-- Written by xprint.py, a program of this session, by way of the kit's print.py. Lean checks it.
import Derived.Test.YtignpfhlagfijaaDoorXx0
namespace Go.Proofs.YtignpfhlagfijaaDoor.X
open Go.Proofs.YtignpfhlagfijaaDoor.Gv
open Go.RowKit Go.Proofs.YtignpfhlagfijaaDoorW.PrintWords Go.Proofs.YtignpfhlagfijaaDoorW.PrintLast Go.Proofs.YtignpfhlagfijaaDoorW.PrintMore
attribute [local go_sem] max2_int min2_int max_two min_two max_three min_three max_four min_four   -- for this text's walks alone
set_option linter.unusedVariables false
set_option linter.unusedSimpArgs false

/-! ### length_Valid: function 11 -/
def length_Valid.f (a0 : Int) : Option (Bool) := if a0 ≥ (-1073741824) then (some (decide (a0 ≤ 1073741824))) else (some false)
set_option maxHeartbeats 8000000 in
set_option maxRecDepth 100000 in
theorem length_Valid.calls (a0 : Int) (r : Bool) (w : World) (h : length_Valid.f a0 = some r) :
    Calls Tryd.prog 11 #[.int .i64 a0] w fun e w' => e = .returned (.bool r) ∧ Drawn0 w w' := by
  have H : (if a0 ≥ (-1073741824) then (some (decide (a0 ≤ 1073741824))) else (some false)) = some r := h
  clear h
  by_cases c2 : a0 ≥ (-1073741824)
  · rw [if_pos c2] at H
    have c2b0 : decide ((-1073741824) ≤ a0) = true := decide_eq_true c2
    clear c2
    obtain rfl := Option.some.inj H
    go_enter Tryd.func11, Tryd.ntmps11
    go_wp2
    go_ret
    exact ⟨by first | rfl | (simp; done) | (simp [*]; done), by repeat (first | exact Drawn0.refl _ | apply Drawn0.step)⟩
  · rw [if_neg c2] at H
    have c2b0 : decide ((-1073741824) ≤ a0) = false := decide_eq_false c2
    clear c2
    obtain rfl := Option.some.inj H
    go_enter Tryd.func11, Tryd.ntmps11
    go_wp2
    go_ret
    exact ⟨by first | rfl | (simp; done) | (simp [*]; done), by repeat (first | exact Drawn0.refl _ | apply Drawn0.step)⟩

/-! ### length_round: function 27 -/
def length_round.j0 : Nat → Int → Int → Option (Int)
  | 0, _, _ => none
  | k + 1, x0, x1 => if x1 = 0 then (none) else (if (wrap64 (2 * (Int.tmod x0 x1))) ≥ x1 then (some (wrap64 ((wrap64 (Int.tdiv x0 x1)) + 1))) else (if (wrap64 ((-2) * (Int.tmod x0 x1))) ≥ x1 then (some (wrap64 ((wrap64 (Int.tdiv x0 x1)) - 1))) else (some (wrap64 (Int.tdiv x0 x1)))))
def length_round.f (k : Nat) (a0 : Int) (a1 : Int) : Option (Int) := if a1 < 0 then (length_round.j0 k (wrap64 (-a0)) (wrap64 (-a1))) else (length_round.j0 k a0 a1)
theorem length_round.mono_l : ∀ k, (∀ y0 y1, LeO (length_round.j0 k y0 y1) (length_round.j0 (k + 1) y0 y1))
  | 0 => fun _ _ r h => by simp [length_round.j0] at h
  | k + 1 => by
    have ih0 := length_round.mono_l k
    · intro y0 y1
      unfold length_round.j0
      repeat' first
      | (with_reducible exact ih0 _ _)
      | (with_reducible exact LeO.refl _)
      | (with_reducible exact LeO.none _)
      | (with_reducible refine LeO.ite ?_ ?_)
      | (with_reducible refine LeO.bind ?_ (fun _ => ?_))
      | exact ih0 _ _
      | exact LeO.none _
      | refine LeO.ite ?_ ?_
      | refine LeO.bind ?_ (fun _ => ?_)
theorem length_round.mono : ∀ a0 a1 k, LeO (length_round.f k a0 a1) (length_round.f (k + 1) a0 a1) := by
  intro a0 a1 k
  have ih0 := length_round.mono_l k
  unfold length_round.f
  repeat' first
      | (with_reducible exact ih0 _ _)
      | (with_reducible exact LeO.refl _)
      | (with_reducible exact LeO.none _)
      | (with_reducible refine LeO.ite ?_ ?_)
      | (with_reducible refine LeO.bind ?_ (fun _ => ?_))
      | exact ih0 _ _
      | exact LeO.none _
      | refine LeO.ite ?_ ?_
      | refine LeO.bind ?_ (fun _ => ?_)
set_option maxHeartbeats 8000000 in
set_option maxRecDepth 100000 in
theorem length_round.calls (k : Nat) (a0 : Int) (a1 : Int) (r : Int) (w : World) (h : length_round.f k a0 a1 = some r) :
    Calls Tryd.prog 27 #[.int .i64 a0, .int .i64 a1] w fun e w' => e = .returned (.int .i64 r) ∧ Drawn0 w w' := by
  have H : (if a1 < 0 then (length_round.j0 k (wrap64 (-a0)) (wrap64 (-a1))) else (length_round.j0 k a0 a1)) = some r := h
  clear h
  have HC3 := Aside0.mk H
  clear H
  go_enter Tryd.func27, Tryd.ntmps27
  go_upto_if 8 with (fail)
  repeat (go_quiet (fail); go_upto_if 8 with (fail))
  go_cut [0, 1] (fun v0 v1 wc => ∃ (kq : Nat) (x0_2 : Int) (x1_2 : Int), v0 = .int .i64 x0_2 ∧ v1 = .int .i64 x1_2 ∧ Aside0 (length_round.j0 kq x0_2 x1_2 = some r) ∧ Aside0 (kq ≤ k) ∧ Drawn0 w wc)
  case first =>
    have H := HC3.out
    clear HC3
    by_cases c4 : a1 < 0
    · rw [if_pos c4] at H
      have c4b0 : decide (a1 < 0) = true := decide_eq_true c4
      clear c4
      (first | rw [c4b0] | (simp only [i64_w, i32_w]; rw [c4b0]) | skip)
      have H' := Aside0.mk H
      clear H
      go_wp2
      repeat (go_quiet (fail); try go_wp2)
      go_meet
      case rel => exact ⟨_, (wrap64 (-a0)), (wrap64 (-a1)), (by first | rfl | (simp; done) | (simp [*]; done)), (by first | rfl | (simp; done) | (simp [*]; done)), H', ⟨by first | omega | exact Nat.le_refl _⟩, by repeat (first | exact Drawn0.refl _ | apply Drawn0.step)⟩
    · rw [if_neg c4] at H
      have c4b0 : decide (a1 < 0) = false := decide_eq_false c4
      clear c4
      (first | rw [c4b0] | (simp only [i64_w, i32_w]; rw [c4b0]) | skip)
      have H' := Aside0.mk H
      clear H
      go_wp2
      repeat (go_quiet (fail); try go_wp2)
      go_meet
      case rel => exact ⟨_, (a0), (a1), (by first | rfl | (simp; done) | (simp [*]; done)), (by first | rfl | (simp; done) | (simp [*]; done)), H', ⟨by first | omega | exact Nat.le_refl _⟩, by repeat (first | exact Drawn0.refl _ | apply Drawn0.step)⟩
  case rest =>
    clear HC3
    try clear c2
    try clear p2
    try clear c4
    try clear c4b0
    obtain ⟨kq, x0_2, x1_2, rfl, rfl, HA, HJ2, ⟨mc2, rfl⟩⟩ := hcut
    cases kq with
    | zero => exact absurd HA.out (by simp [length_round.j0])
    | succ kj2 =>
      have H := HA.out
      clear HA
      simp only [length_round.j0] at H
      by_cases c5 : x1_2 = 0
      · rw [if_pos c5] at H
        exact absurd H (by simp)
      · rw [if_neg c5] at H
        have c5b0 : (x1_2 == 0) = false := beq_eq_false_iff_ne.mpr c5
        have c5b1 : (x1_2 != 0) = true := bne_iff_ne.mpr c5
        by_cases c6 : (wrap64 (2 * (Int.tmod x0_2 x1_2))) ≥ x1_2
        · rw [if_pos c6] at H
          have c6b0 : decide (x1_2 ≤ (wrap64 (2 * (Int.tmod x0_2 x1_2)))) = true := decide_eq_true c6
          clear c6
          obtain rfl := Option.some.inj H
          go_wp2
          repeat (go_quiet (fail); try go_wp2)
          go_ret
          exact ⟨by first | rfl | (simp; done) | (simp [*]; done), by repeat (first | exact Drawn0.refl _ | apply Drawn0.step)⟩
        · rw [if_neg c6] at H
          have c6b0 : decide (x1_2 ≤ (wrap64 (2 * (Int.tmod x0_2 x1_2)))) = false := decide_eq_false c6
          clear c6
          by_cases c7 : (wrap64 ((-2) * (Int.tmod x0_2 x1_2))) ≥ x1_2
          · rw [if_pos c7] at H
            have c7b0 : decide (x1_2 ≤ (wrap64 ((-2) * (Int.tmod x0_2 x1_2)))) = true := decide_eq_true c7
            clear c7
            obtain rfl := Option.some.inj H
            go_wp2
            repeat (go_quiet (fail); try go_wp2)
            go_ret
            exact ⟨by first | rfl | (simp; done) | (simp [*]; done), by repeat (first | exact Drawn0.refl _ | apply Drawn0.step)⟩
          · rw [if_neg c7] at H
            have c7b0 : decide (x1_2 ≤ (wrap64 ((-2) * (Int.tmod x0_2 x1_2)))) = false := decide_eq_false c7
            clear c7
            obtain rfl := Option.some.inj H
            go_wp2
            repeat (go_quiet (fail); try go_wp2)
            go_ret
            exact ⟨by first | rfl | (simp; done) | (simp [*]; done), by repeat (first | exact Drawn0.refl _ | apply Drawn0.step)⟩

/-! ### length_Scale: function 13 -/
def length_Scale.f (k : Nat) (a0 : Int) (a1 : Int) : Option (Int) := (length_Valid.f a0).bind fun t101 => (if t101 = true then (if a1 < 0 then (some 0) else (if a1 > 10000 then (some 0) else ((length_round.f k (wrap64 (a0 * a1)) 100).bind fun t102 => (some t102)))) else (some 0))
theorem length_Scale.mono : ∀ a0 a1 k, LeO (length_Scale.f k a0 a1) (length_Scale.f (k + 1) a0 a1) := by
  intro a0 a1 k
  unfold length_Scale.f
  repeat' first
      | (with_reducible exact length_round.mono _ _ _)
      | (with_reducible exact LeO.refl _)
      | (with_reducible exact LeO.none _)
      | (with_reducible refine LeO.ite ?_ ?_)
      | (with_reducible refine LeO.bind ?_ (fun _ => ?_))
      | exact length_round.mono _ _ _
      | exact LeO.none _
      | refine LeO.ite ?_ ?_
      | refine LeO.bind ?_ (fun _ => ?_)
set_option maxHeartbeats 8000000 in
set_option maxRecDepth 100000 in
theorem length_Scale.calls (k : Nat) (a0 : Int) (a1 : Int) (r : Int) (w : World) (h : length_Scale.f k a0 a1 = some r) :
    Calls Tryd.prog 13 #[.int .i64 a0, .int .i64 a1] w fun e w' => e = .returned (.int .i64 r) ∧ Drawn0 w w' := by
  have H : ((length_Valid.f a0).bind fun t101 => (if t101 = true then (if a1 < 0 then (some 0) else (if a1 > 10000 then (some 0) else ((length_round.f k (wrap64 (a0 * a1)) 100).bind fun t102 => (some t102)))) else (some 0))) = some r := h
  clear h
  replace H := Option.bind_eq_some_iff.mp H
  obtain ⟨t101, A30, H⟩ := H
  replace H : (if t101 = true then (if a1 < 0 then (some 0) else (if a1 > 10000 then (some 0) else ((length_round.f k (wrap64 (a0 * a1)) 100).bind fun t102 => (some t102)))) else (some 0)) = some r := H
  have A3 := Aside0.mk A30
  clear A30
  by_cases c4 : t101 = true
  · subst c4
    have H1 : (if a1 < 0 then (some 0) else (if a1 > 10000 then (some 0) else ((length_round.f k (wrap64 (a0 * a1)) 100).bind fun t102 => (some t102)))) = some r := by rw [if_pos rfl] at H; exact H
    clear H
    have H := H1
    clear H1
    by_cases c5 : a1 < 0
    · rw [if_pos c5] at H
      have c5b0 : decide (a1 < 0) = true := decide_eq_true c5
      clear c5
      obtain rfl := Option.some.inj H
      go_enter Tryd.func13, Tryd.ntmps13
      go_wp2_with (first | ((with_reducible refine gate_callee (f := 11) rfl ?_); refine goesL_ (some 6) rfl rfl Tryd.func11 (by kernel_rfl) rfl #[.int .i64 a0] rfl (by (try simp only [List.map_toArray, List.map_cons, List.map_nil]); first | done | rfl | (simp only [List.length_drop, List.length_take]; rfl)) ?_; (with_reducible refine (length_Valid.calls a0 true _ A3.out).mono ?_); rintro e w' ⟨rfl, ⟨nd, rfl⟩⟩; refine ⟨_, rfl, ?_⟩))
      go_ret
      exact ⟨by first | rfl | (simp; done) | (simp [*]; done), by repeat (first | exact Drawn0.refl _ | apply Drawn0.step)⟩
    · rw [if_neg c5] at H
      have c5b0 : decide (a1 < 0) = false := decide_eq_false c5
      clear c5
      by_cases c6 : a1 > 10000
      · rw [if_pos c6] at H
        have c6b0 : decide (10000 < a1) = true := decide_eq_true c6
        clear c6
        obtain rfl := Option.some.inj H
        go_enter Tryd.func13, Tryd.ntmps13
        go_wp2_with (first | ((with_reducible refine gate_callee (f := 11) rfl ?_); refine goesL_ (some 6) rfl rfl Tryd.func11 (by kernel_rfl) rfl #[.int .i64 a0] rfl (by (try simp only [List.map_toArray, List.map_cons, List.map_nil]); first | done | rfl | (simp only [List.length_drop, List.length_take]; rfl)) ?_; (with_reducible refine (length_Valid.calls a0 true _ A3.out).mono ?_); rintro e w' ⟨rfl, ⟨nd, rfl⟩⟩; refine ⟨_, rfl, ?_⟩))
        go_ret
        exact ⟨by first | rfl | (simp; done) | (simp [*]; done), by repeat (first | exact Drawn0.refl _ | apply Drawn0.step)⟩
      · rw [if_neg c6] at H
        have c6b0 : decide (10000 < a1) = false := decide_eq_false c6
        clear c6
        replace H := Option.bind_eq_some_iff.mp H
        obtain ⟨t102, A70, H⟩ := H
        replace H : (some t102) = some r := H
        have A7 := Aside0.mk A70
        clear A70
        obtain rfl := Option.some.inj H
        go_enter Tryd.func13, Tryd.ntmps13
        go_wp2_with (first | ((with_reducible refine gate_callee (f := 11) rfl ?_); refine goesL_ (some 6) rfl rfl Tryd.func11 (by kernel_rfl) rfl #[.int .i64 a0] rfl (by (try simp only [List.map_toArray, List.map_cons, List.map_nil]); first | done | rfl | (simp only [List.length_drop, List.length_take]; rfl)) ?_; (with_reducible refine (length_Valid.calls a0 true _ A3.out).mono ?_); rintro e w' ⟨rfl, ⟨nd, rfl⟩⟩; refine ⟨_, rfl, ?_⟩) | ((with_reducible refine gate_callee (f := 27) rfl ?_); refine goesL_ (some 19) rfl rfl Tryd.func27 (by kernel_rfl) rfl #[.int .i64 (wrap64 (a0 * a1)), .int .i64 100] rfl (by (try simp only [List.map_toArray, List.map_cons, List.map_nil]); first | done | rfl | (simp only [List.length_drop, List.length_take]; rfl)) ?_; (with_reducible refine (length_round.calls k (wrap64 (a0 * a1)) 100 t102 _ A7.out).mono ?_); rintro e w' ⟨rfl, ⟨nd, rfl⟩⟩; refine ⟨_, rfl, ?_⟩))
        go_ret
        exact ⟨by first | rfl | (simp; done) | (simp [*]; done), by repeat (first | exact Drawn0.refl _ | apply Drawn0.step)⟩
  · replace c4 := Bool.eq_false_iff.mpr c4
    subst c4
    have H1 : (some 0) = some r := by rw [if_neg (show ¬ (false = true) by decide)] at H; exact H
    clear H
    have H := H1
    clear H1
    obtain rfl := Option.some.inj H
    go_enter Tryd.func13, Tryd.ntmps13
    go_wp2_with (first | ((with_reducible refine gate_callee (f := 11) rfl ?_); refine goesL_ (some 6) rfl rfl Tryd.func11 (by kernel_rfl) rfl #[.int .i64 a0] rfl (by (try simp only [List.map_toArray, List.map_cons, List.map_nil]); first | done | rfl | (simp only [List.length_drop, List.length_take]; rfl)) ?_; (with_reducible refine (length_Valid.calls a0 false _ A3.out).mono ?_); rintro e w' ⟨rfl, ⟨nd, rfl⟩⟩; refine ⟨_, rfl, ?_⟩))
    go_ret
    exact ⟨by first | rfl | (simp; done) | (simp [*]; done), by repeat (first | exact Drawn0.refl _ | apply Drawn0.step)⟩

/-! ### length_Text: function 23 -/
def length_Text.j0 : Nat → Int → ByteArray → Option (ByteArray)
  | 0, _, _ => none
  | k + 1, x0, x3 => (strconv_Itoa.f (wrap64 (Int.tdiv x0 1000))).bind fun t104 => (if x3.size + t104.size ≤ 9223372036854775807 then (if (Int.tmod x0 1000) = 0 then (if (x3 ++ t104).size + 2 ≤ 9223372036854775807 then (some ((x3 ++ t104) ++ (⟨#[112, 116]⟩ : ByteArray))) else (none)) else ((strconv_Itoa.f (wrap64 (1000 + (Int.tmod x0 1000)))).bind fun t105 => (if 1 ≤ (t105.size : Int) then ((strings_TrimRight.f (t105.extract 1 t105.size) (⟨#[48]⟩ : ByteArray)).bind fun t106 => (if 1 + t106.size ≤ 9223372036854775807 then (if (x3 ++ t104).size + ((⟨#[46]⟩ : ByteArray) ++ t106).size ≤ 9223372036854775807 then (if ((x3 ++ t104) ++ ((⟨#[46]⟩ : ByteArray) ++ t106)).size + 2 ≤ 9223372036854775807 then (some (((x3 ++ t104) ++ ((⟨#[46]⟩ : ByteArray) ++ t106)) ++ (⟨#[112, 116]⟩ : ByteArray))) else (none)) else (none)) else (none))) else (none)))) else (none))
def length_Text.f (k : Nat) (a0 : Int) : Option (ByteArray) := (length_Valid.f a0).bind fun t103 => (if t103 = true then (if a0 < 0 then (length_Text.j0 k (wrap64 (-a0)) (⟨#[45]⟩ : ByteArray)) else (length_Text.j0 k a0 (⟨#[]⟩ : ByteArray))) else (some (⟨#[]⟩ : ByteArray)))
theorem length_Text.mono_l : ∀ k, (∀ y0 y1, LeO (length_Text.j0 k y0 y1) (length_Text.j0 (k + 1) y0 y1))
  | 0 => fun _ _ r h => by simp [length_Text.j0] at h
  | k + 1 => by
    have ih0 := length_Text.mono_l k
    · intro y0 y1
      unfold length_Text.j0
      repeat' first
      | (with_reducible exact ih0 _ _)
      | (with_reducible exact LeO.refl _)
      | (with_reducible exact LeO.none _)
      | (with_reducible refine LeO.ite ?_ ?_)
      | (with_reducible refine LeO.bind ?_ (fun _ => ?_))
      | exact ih0 _ _
      | exact LeO.none _
      | refine LeO.ite ?_ ?_
      | refine LeO.bind ?_ (fun _ => ?_)
theorem length_Text.mono : ∀ a0 k, LeO (length_Text.f k a0) (length_Text.f (k + 1) a0) := by
  intro a0 k
  have ih0 := length_Text.mono_l k
  unfold length_Text.f
  repeat' first
      | (with_reducible exact ih0 _ _)
      | (with_reducible exact LeO.refl _)
      | (with_reducible exact LeO.none _)
      | (with_reducible refine LeO.ite ?_ ?_)
      | (with_reducible refine LeO.bind ?_ (fun _ => ?_))
      | exact ih0 _ _
      | exact LeO.none _
      | refine LeO.ite ?_ ?_
      | refine LeO.bind ?_ (fun _ => ?_)
set_option maxHeartbeats 8000000 in
set_option maxRecDepth 100000 in
theorem length_Text.calls (k : Nat) (a0 : Int) (r : ByteArray) (w : World) (hG : Gw w) (h : length_Text.f k a0 = some r) :
    Calls Tryd.prog 23 #[.int .i64 a0] w fun e w' => e = .returned (.string r) ∧ Below w.heap.size w w' := by
  have HB := Aside0.mk (Below.refl w.heap.size w)
  have HG := Aside0.mk hG
  clear hG
  have H : ((length_Valid.f a0).bind fun t103 => (if t103 = true then (if a0 < 0 then (length_Text.j0 k (wrap64 (-a0)) (⟨#[45]⟩ : ByteArray)) else (length_Text.j0 k a0 (⟨#[]⟩ : ByteArray))) else (some (⟨#[]⟩ : ByteArray)))) = some r := h
  clear h
  replace H := Option.bind_eq_some_iff.mp H
  obtain ⟨t103, A20, H⟩ := H
  replace H : (if t103 = true then (if a0 < 0 then (length_Text.j0 k (wrap64 (-a0)) (⟨#[45]⟩ : ByteArray)) else (length_Text.j0 k a0 (⟨#[]⟩ : ByteArray))) else (some (⟨#[]⟩ : ByteArray))) = some r := H
  have A2 := Aside0.mk A20
  clear A20
  by_cases c3 : t103 = true
  · subst c3
    have H1 : (if a0 < 0 then (length_Text.j0 k (wrap64 (-a0)) (⟨#[45]⟩ : ByteArray)) else (length_Text.j0 k a0 (⟨#[]⟩ : ByteArray))) = some r := by rw [if_pos rfl] at H; exact H
    clear H
    have H := H1
    clear H1
    have HC4 := Aside0.mk H
    clear H
    go_enter Tryd.func23, Tryd.ntmps23
    go_upto_if 10 with (first | ((with_reducible refine gate_callee (f := 11) rfl ?_); refine goesL_ (some 7) rfl rfl Tryd.func11 (by kernel_rfl) rfl #[.int .i64 a0] rfl (by (try simp only [List.map_toArray, List.map_cons, List.map_nil]); first | done | rfl | (simp only [List.length_drop, List.length_take]; rfl)) ?_; (with_reducible refine (length_Valid.calls a0 true _ A2.out).mono ?_); rintro e w' ⟨rfl, ⟨nd, rfl⟩⟩; refine ⟨_, rfl, ?_⟩))
    (try simp only [Act.put, List.setIfInBounds_toArray, List.set_cons_zero, List.set_cons_succ])
    go_cut [0, 3] (fun v0 v3 wc => ∃ (kq : Nat) (x0_3 : Int) (x3_3 : ByteArray), v0 = .int .i64 x0_3 ∧ v3 = .string x3_3 ∧ Aside0 (length_Text.j0 kq x0_3 x3_3 = some r) ∧ Aside0 (kq ≤ k) ∧ Aside0 (Below w.heap.size w wc))
    case first =>
      have H := HC4.out
      clear HC4
      by_cases c5 : a0 < 0
      · rw [if_pos c5] at H
        have c5b0 : decide (a0 < 0) = true := decide_eq_true c5
        clear c5
        (first | rw [c5b0] | (simp only [i64_w, i32_w]; rw [c5b0]) | skip)
        have H' := Aside0.mk H
        clear H
        go_wp2
        go_meet
        case rel => exact ⟨_, (wrap64 (-a0)), ((⟨#[45]⟩ : ByteArray)), (by first | rfl | (simp; done) | (simp [*]; done)), (by first | rfl | (simp; done) | (simp [*]; done)), H', ⟨by first | omega | exact Nat.le_refl _⟩, ⟨by repeat (first | (with_reducible first | exact HB.out | apply below_alloc | apply pw_below_drewN | apply below_drew1) | exact HB.out)⟩⟩
      · rw [if_neg c5] at H
        have c5b0 : decide (a0 < 0) = false := decide_eq_false c5
        clear c5
        (first | rw [c5b0] | (simp only [i64_w, i32_w]; rw [c5b0]) | skip)
        have H' := Aside0.mk H
        clear H
        go_wp2
        go_meet
        case rel => exact ⟨_, (a0), ((⟨#[]⟩ : ByteArray)), (by first | rfl | (simp; done) | (simp [*]; done)), (by first | rfl | (simp; done) | (simp [*]; done)), H', ⟨by first | omega | exact Nat.le_refl _⟩, ⟨by repeat (first | (with_reducible first | exact HB.out | apply below_alloc | apply pw_below_drewN | apply below_drew1) | exact HB.out)⟩⟩
    case rest =>
      clear HC4
      try clear c1
      try clear c2
      try clear p2
      try clear c3
      try clear c5
      try clear c5b0
      obtain ⟨kq, x0_3, x3_3, rfl, rfl, HA, HJ3, HB⟩ := hcut
      cases kq with
      | zero => exact absurd HA.out (by simp [length_Text.j0])
      | succ kj3 =>
        have H := HA.out
        clear HA
        simp only [length_Text.j0] at H
        replace H := Option.bind_eq_some_iff.mp H
        obtain ⟨t104, A60, H⟩ := H
        replace H : (if x3_3.size + t104.size ≤ 9223372036854775807 then (if (Int.tmod x0_3 1000) = 0 then (if (x3_3 ++ t104).size + 2 ≤ 9223372036854775807 then (some ((x3_3 ++ t104) ++ (⟨#[112, 116]⟩ : ByteArray))) else (none)) else ((strconv_Itoa.f (wrap64 (1000 + (Int.tmod x0_3 1000)))).bind fun t105 => (if 1 ≤ (t105.size : Int) then ((strings_TrimRight.f (t105.extract 1 t105.size) (⟨#[48]⟩ : ByteArray)).bind fun t106 => (if 1 + t106.size ≤ 9223372036854775807 then (if (x3_3 ++ t104).size + ((⟨#[46]⟩ : ByteArray) ++ t106).size ≤ 9223372036854775807 then (if ((x3_3 ++ t104) ++ ((⟨#[46]⟩ : ByteArray) ++ t106)).size + 2 ≤ 9223372036854775807 then (some (((x3_3 ++ t104) ++ ((⟨#[46]⟩ : ByteArray) ++ t106)) ++ (⟨#[112, 116]⟩ : ByteArray))) else (none)) else (none)) else (none))) else (none)))) else (none)) = some r := H
        have A6 := Aside0.mk A60
        clear A60
        by_cases c7 : x3_3.size + t104.size ≤ 9223372036854775807
        · rw [if_pos c7] at H
          have c7b0 := eq_true c7
          have c7b1 : decide (x3_3.size + t104.size ≤ 9223372036854775807) = true := decide_eq_true c7
          try have c7b2 : (9223372036854775807 < x3_3.size + t104.size) = False := eq_false (Nat.not_lt.2 c7)
          try (have c7b3 : (9223372036854775807 < x3_3.size + t104.size) = False := eq_false (Nat.not_lt.2 c7); simp only [ByteArray.size_append] at c7b3)
          by_cases c8 : (Int.tmod x0_3 1000) = 0
          · rw [if_pos c8] at H
            have c8b0 : ((Int.tmod x0_3 1000) == 0) = true := beq_iff_eq.mpr c8
            have c8b1 : ((Int.tmod x0_3 1000) != 0) = false := bne_eq_false_iff_eq.mpr c8
            clear c8
            by_cases c9 : (x3_3 ++ t104).size + 2 ≤ 9223372036854775807
            · rw [if_pos c9] at H
              have c9b0 := eq_true c9
              have c9b1 : decide ((x3_3 ++ t104).size + 2 ≤ 9223372036854775807) = true := decide_eq_true c9
              try (have c9b1n := c9b1; simp only [ByteArray.size_extract, Nat.min_self, Nat.sub_zero, ByteArray.size_append] at c9b1n)
              try have c9b2 : (9223372036854775807 < (x3_3 ++ t104).size + 2) = False := eq_false (Nat.not_lt.2 c9)
              try (have c9b2n := c9b2; simp only [ByteArray.size_extract, Nat.min_self, Nat.sub_zero, ByteArray.size_append] at c9b2n)
              try (have c9b3 : (9223372036854775807 < (x3_3 ++ t104).size + 2) = False := eq_false (Nat.not_lt.2 c9); simp only [ByteArray.size_append] at c9b3)
              obtain rfl := Option.some.inj H
              try generalize hY11 : x3_3 ++ t104 = Y11 at *
              try generalize hY12 : t105.extract 1 t105.size = Y12 at *
              go_wp2_with (first | ((with_reducible refine gate_callee (f := 29) rfl ?_); refine goesL_ (some 16) rfl rfl Tryd.func29 (by kernel_rfl) rfl #[.int .i64 (wrap64 (Int.tdiv x0_3 1000))] rfl (by (try simp only [List.map_toArray, List.map_cons, List.map_nil]); first | done | rfl | (simp only [List.length_drop, List.length_take]; rfl)) ?_; (with_reducible refine (strconv_Itoa.calls (wrap64 (Int.tdiv x0_3 1000)) t104 _ ?side1 A6.out).mono ?_); (case side1 => first | exact HG.out | (with_reducible exact Gw.drewN HG.out _) | exact Gw.below HG.out (by repeat (first | (with_reducible first | exact HB.out | apply below_alloc | apply pw_below_drewN | apply below_drew1) | exact HB.out)) | ((repeat (first | (with_reducible exact HG.out) | (with_reducible apply Gw.drewN) | (with_reducible apply Gw.drew))); done)); rintro e w10 ⟨rfl, hb⟩; refine ⟨_, rfl, ?_⟩; have n0_ := Aside0.mk (below_step (by repeat (first | (with_reducible first | exact HB.out | apply below_alloc | apply pw_below_drewN | apply below_drew1) | exact HB.out)) hb); clear HB; have HB := n0_; clear n0_; (try clear hb); (try clear hb2); (try clear hk); (try clear hi)))
              all_goals (try subst hY12)
              all_goals (try subst hY11)
              go_ret
              exact ⟨by first | rfl | (simp [errW_none, errW_some] <;> rfl) | (simp [*, errW_none, errW_some] <;> rfl), by repeat (first | (with_reducible first | exact HB.out | apply below_alloc | apply pw_below_drewN | apply below_drew1) | exact HB.out)⟩
            · rw [if_neg c9] at H
              exact absurd H (by simp)
          · rw [if_neg c8] at H
            have c8b0 : ((Int.tmod x0_3 1000) == 0) = false := beq_eq_false_iff_ne.mpr c8
            have c8b1 : ((Int.tmod x0_3 1000) != 0) = true := bne_iff_ne.mpr c8
            replace H := Option.bind_eq_some_iff.mp H
            obtain ⟨t105, A130, H⟩ := H
            replace H : (if 1 ≤ (t105.size : Int) then ((strings_TrimRight.f (t105.extract 1 t105.size) (⟨#[48]⟩ : ByteArray)).bind fun t106 => (if 1 + t106.size ≤ 9223372036854775807 then (if (x3_3 ++ t104).size + ((⟨#[46]⟩ : ByteArray) ++ t106).size ≤ 9223372036854775807 then (if ((x3_3 ++ t104) ++ ((⟨#[46]⟩ : ByteArray) ++ t106)).size + 2 ≤ 9223372036854775807 then (some (((x3_3 ++ t104) ++ ((⟨#[46]⟩ : ByteArray) ++ t106)) ++ (⟨#[112, 116]⟩ : ByteArray))) else (none)) else (none)) else (none))) else (none)) = some r := H
            have A13 := Aside0.mk A130
            clear A130
            by_cases c14 : 1 ≤ (t105.size : Int)
            · rw [if_pos c14] at H
              have c14b0 := eq_true c14
              have c14b1 : decide (1 ≤ (t105.size : Int)) = true := decide_eq_true c14
              clear c14
              replace H := Option.bind_eq_some_iff.mp H
              obtain ⟨t106, A150, H⟩ := H
              replace H : (if 1 + t106.size ≤ 9223372036854775807 then (if (x3_3 ++ t104).size + ((⟨#[46]⟩ : ByteArray) ++ t106).size ≤ 9223372036854775807 then (if ((x3_3 ++ t104) ++ ((⟨#[46]⟩ : ByteArray) ++ t106)).size + 2 ≤ 9223372036854775807 then (some (((x3_3 ++ t104) ++ ((⟨#[46]⟩ : ByteArray) ++ t106)) ++ (⟨#[112, 116]⟩ : ByteArray))) else (none)) else (none)) else (none)) = some r := H
              have A15 := Aside0.mk A150
              clear A150
              by_cases c16 : 1 + t106.size ≤ 9223372036854775807
              · rw [if_pos c16] at H
                have c16b0 := eq_true c16
                have c16b1 : decide (1 + t106.size ≤ 9223372036854775807) = true := decide_eq_true c16
                try have c16b2 : (9223372036854775807 < 1 + t106.size) = False := eq_false (Nat.not_lt.2 c16)
                try (have c16b3 : (9223372036854775807 < 1 + t106.size) = False := eq_false (Nat.not_lt.2 c16); simp only [ByteArray.size_append] at c16b3)
                by_cases c17 : (x3_3 ++ t104).size + ((⟨#[46]⟩ : ByteArray) ++ t106).size ≤ 9223372036854775807
                · rw [if_pos c17] at H
                  have c17b0 := eq_true c17
                  have c17b1 : decide ((x3_3 ++ t104).size + ((⟨#[46]⟩ : ByteArray) ++ t106).size ≤ 9223372036854775807) = true := decide_eq_true c17
                  try (have c17b1n := c17b1; simp only [ByteArray.size_extract, Nat.min_self, Nat.sub_zero, ByteArray.size_append, show (⟨#[46]⟩ : ByteArray).size = 1 from rfl] at c17b1n)
                  try have c17b2 : (9223372036854775807 < (x3_3 ++ t104).size + ((⟨#[46]⟩ : ByteArray) ++ t106).size) = False := eq_false (Nat.not_lt.2 c17)
                  try (have c17b2n := c17b2; simp only [ByteArray.size_extract, Nat.min_self, Nat.sub_zero, ByteArray.size_append, show (⟨#[46]⟩ : ByteArray).size = 1 from rfl] at c17b2n)
                  try (have c17b3 : (9223372036854775807 < (x3_3 ++ t104).size + ((⟨#[46]⟩ : ByteArray) ++ t106).size) = False := eq_false (Nat.not_lt.2 c17); simp only [ByteArray.size_append, show (⟨#[46]⟩ : ByteArray).size = 1 from rfl] at c17b3)
                  by_cases c18 : ((x3_3 ++ t104) ++ ((⟨#[46]⟩ : ByteArray) ++ t106)).size + 2 ≤ 9223372036854775807
                  · rw [if_pos c18] at H
                    have c18b0 := eq_true c18
                    have c18b1 : decide (((x3_3 ++ t104) ++ ((⟨#[46]⟩ : ByteArray) ++ t106)).size + 2 ≤ 9223372036854775807) = true := decide_eq_true c18
                    try (have c18b1n := c18b1; simp only [ByteArray.size_extract, Nat.min_self, Nat.sub_zero, ByteArray.size_append, show (⟨#[46]⟩ : ByteArray).size = 1 from rfl] at c18b1n)
                    try have c18b2 : (9223372036854775807 < ((x3_3 ++ t104) ++ ((⟨#[46]⟩ : ByteArray) ++ t106)).size + 2) = False := eq_false (Nat.not_lt.2 c18)
                    try (have c18b2n := c18b2; simp only [ByteArray.size_extract, Nat.min_self, Nat.sub_zero, ByteArray.size_append, show (⟨#[46]⟩ : ByteArray).size = 1 from rfl] at c18b2n)
                    try (have c18b3 : (9223372036854775807 < ((x3_3 ++ t104) ++ ((⟨#[46]⟩ : ByteArray) ++ t106)).size + 2) = False := eq_false (Nat.not_lt.2 c18); simp only [ByteArray.size_append, show (⟨#[46]⟩ : ByteArray).size = 1 from rfl] at c18b3)
                    obtain rfl := Option.some.inj H
                    try generalize hY21 : x3_3 ++ t104 = Y21 at *
                    try generalize hY22 : t105.extract 1 t105.size = Y22 at *
                    try generalize hY23 : (⟨#[46]⟩ : ByteArray) ++ t106 = Y23 at *
                    try generalize hY24 : Y21 ++ Y23 = Y24 at *
                    go_wp2_with (first | ((with_reducible refine gate_callee (f := 29) rfl ?_); refine goesL_ (some 16) rfl rfl Tryd.func29 (by kernel_rfl) rfl #[.int .i64 (wrap64 (Int.tdiv x0_3 1000))] rfl (by (try simp only [List.map_toArray, List.map_cons, List.map_nil]); first | done | rfl | (simp only [List.length_drop, List.length_take]; rfl)) ?_; (with_reducible refine (strconv_Itoa.calls (wrap64 (Int.tdiv x0_3 1000)) t104 _ ?side1 A6.out).mono ?_); (case side1 => first | exact HG.out | (with_reducible exact Gw.drewN HG.out _) | exact Gw.below HG.out (by repeat (first | (with_reducible first | exact HB.out | apply below_alloc | apply pw_below_drewN | apply below_drew1) | exact HB.out)) | ((repeat (first | (with_reducible exact HG.out) | (with_reducible apply Gw.drewN) | (with_reducible apply Gw.drew))); done)); rintro e w19 ⟨rfl, hb⟩; refine ⟨_, rfl, ?_⟩; have n0_ := Aside0.mk (below_step (by repeat (first | (with_reducible first | exact HB.out | apply below_alloc | apply pw_below_drewN | apply below_drew1) | exact HB.out)) hb); clear HB; have HB := n0_; clear n0_; (try clear hb); (try clear hb2); (try clear hk); (try clear hi)) | ((with_reducible refine gate_callee (f := 29) rfl ?_); refine goesL_ (some 25) rfl rfl Tryd.func29 (by kernel_rfl) rfl #[.int .i64 (wrap64 (1000 + (Int.tmod x0_3 1000)))] rfl (by (try simp only [List.map_toArray, List.map_cons, List.map_nil]); first | done | rfl | (simp only [List.length_drop, List.length_take]; rfl)) ?_; (with_reducible refine (strconv_Itoa.calls (wrap64 (1000 + (Int.tmod x0_3 1000))) t105 _ ?side1 A13.out).mono ?_); (case side1 => first | exact HG.out | (with_reducible exact Gw.drewN HG.out _) | exact Gw.below HG.out (by repeat (first | (with_reducible first | exact HB.out | apply below_alloc | apply pw_below_drewN | apply below_drew1) | exact HB.out)) | ((repeat (first | (with_reducible exact HG.out) | (with_reducible apply Gw.drewN) | (with_reducible apply Gw.drew))); done)); rintro e w20 ⟨rfl, hb⟩; refine ⟨_, rfl, ?_⟩; have n0_ := Aside0.mk (below_step (by repeat (first | (with_reducible first | exact HB.out | apply below_alloc | apply pw_below_drewN | apply below_drew1) | exact HB.out)) hb); clear HB; have HB := n0_; clear n0_; (try clear hb); (try clear hb2); (try clear hk); (try clear hi)) | ((with_reducible refine gate_callee (f := 30) rfl ?_); refine goesL_ (some 27) rfl rfl Tryd.func30 (by kernel_rfl) rfl #[.string Y22, .string (⟨#[48]⟩ : ByteArray)] rfl (by (try simp only [List.map_toArray, List.map_cons, List.map_nil]); first | done | rfl | (simp only [List.length_drop, List.length_take]; rfl)) ?_; (with_reducible refine (strings_TrimRight.calls Y22 (⟨#[48]⟩ : ByteArray) t106 _ A15.out).mono ?_); rintro e w' ⟨rfl, ⟨nd, rfl⟩⟩; refine ⟨_, rfl, ?_⟩))
                    all_goals (try subst hY24)
                    all_goals (try subst hY23)
                    all_goals (try subst hY22)
                    all_goals (try subst hY21)
                    go_ret
                    exact ⟨by first | rfl | (simp [errW_none, errW_some] <;> rfl) | (simp [*, errW_none, errW_some] <;> rfl), by repeat (first | (with_reducible first | exact HB.out | apply below_alloc | apply pw_below_drewN | apply below_drew1) | exact HB.out)⟩
                  · rw [if_neg c18] at H
                    exact absurd H (by simp)
                · rw [if_neg c17] at H
                  exact absurd H (by simp)
              · rw [if_neg c16] at H
                exact absurd H (by simp)
            · rw [if_neg c14] at H
              exact absurd H (by simp)
        · rw [if_neg c7] at H
          exact absurd H (by simp)
  · replace c3 := Bool.eq_false_iff.mpr c3
    subst c3
    have H1 : (some (⟨#[]⟩ : ByteArray)) = some r := by rw [if_neg (show ¬ (false = true) by decide)] at H; exact H
    clear H
    have H := H1
    clear H1
    obtain rfl := Option.some.inj H
    go_enter Tryd.func23, Tryd.ntmps23
    go_wp2_with (first | ((with_reducible refine gate_callee (f := 11) rfl ?_); refine goesL_ (some 7) rfl rfl Tryd.func11 (by kernel_rfl) rfl #[.int .i64 a0] rfl (by (try simp only [List.map_toArray, List.map_cons, List.map_nil]); first | done | rfl | (simp only [List.length_drop, List.length_take]; rfl)) ?_; (with_reducible refine (length_Valid.calls a0 false _ A2.out).mono ?_); rintro e w' ⟨rfl, ⟨nd, rfl⟩⟩; refine ⟨_, rfl, ?_⟩))
    go_ret
    exact ⟨by first | rfl | (simp [errW_none, errW_some] <;> rfl) | (simp [*, errW_none, errW_some] <;> rfl), by repeat (first | (with_reducible first | exact HB.out | apply below_alloc | apply pw_below_drewN | apply below_drew1) | exact HB.out)⟩

/-! ### vinculumlaw01_awake: function 10 -/
def vinculumlaw01_awake.f (k : Nat)  : Option (Bool) := (length_Scale.f k 25 50).bind fun t107 => (if t107 = 13 then ((length_Text.f k 12340).bind fun t108 => (some (t108.toList == ([49, 50, 46, 51, 52, 112, 116] : List UInt8)))) else (some false))
theorem vinculumlaw01_awake.mono : ∀ k, LeO (vinculumlaw01_awake.f k ) (vinculumlaw01_awake.f (k + 1) ) := by
  intro  k
  unfold vinculumlaw01_awake.f
  repeat' first
      | (with_reducible exact length_Scale.mono _ _ _)
      | (with_reducible exact length_Text.mono _ _)
      | (with_reducible exact LeO.refl _)
      | (with_reducible exact LeO.none _)
      | (with_reducible refine LeO.ite ?_ ?_)
      | (with_reducible refine LeO.bind ?_ (fun _ => ?_))
      | exact length_Scale.mono _ _ _
      | exact length_Text.mono _ _
      | exact LeO.none _
      | refine LeO.ite ?_ ?_
      | refine LeO.bind ?_ (fun _ => ?_)
set_option maxHeartbeats 8000000 in
set_option maxRecDepth 100000 in
theorem vinculumlaw01_awake.calls (k : Nat)  (r : Bool) (w : World) (hG : Gw w) (h : vinculumlaw01_awake.f k  = some r) :
    Calls Tryd.prog 10 #[] w fun e w' => e = .returned (.bool r) ∧ Below w.heap.size w w' := by
  have HB := Aside0.mk (Below.refl w.heap.size w)
  have HG := Aside0.mk hG
  clear hG
  have H : ((length_Scale.f k 25 50).bind fun t107 => (if t107 = 13 then ((length_Text.f k 12340).bind fun t108 => (some (t108.toList == ([49, 50, 46, 51, 52, 112, 116] : List UInt8)))) else (some false))) = some r := h
  clear h
  replace H := Option.bind_eq_some_iff.mp H
  obtain ⟨t107, A10, H⟩ := H
  replace H : (if t107 = 13 then ((length_Text.f k 12340).bind fun t108 => (some (t108.toList == ([49, 50, 46, 51, 52, 112, 116] : List UInt8)))) else (some false)) = some r := H
  have A1 := Aside0.mk A10
  clear A10
  by_cases c2 : t107 = 13
  · rw [if_pos c2] at H
    have c2b0 : (t107 == 13) = true := beq_iff_eq.mpr c2
    have c2b1 : (t107 != 13) = false := bne_eq_false_iff_eq.mpr c2
    clear c2
    replace H := Option.bind_eq_some_iff.mp H
    obtain ⟨t108, A30, H⟩ := H
    replace H : (some (t108.toList == ([49, 50, 46, 51, 52, 112, 116] : List UInt8))) = some r := H
    have A3 := Aside0.mk A30
    clear A30
    obtain rfl := Option.some.inj H
    go_enter Tryd.func10, Tryd.ntmps10
    go_wp2_with (first | ((with_reducible refine gate_callee (f := 13) rfl ?_); refine goesL_ (some 1) rfl rfl Tryd.func13 (by kernel_rfl) rfl #[.int .i64 25, .int .i64 50] rfl (by (try simp only [List.map_toArray, List.map_cons, List.map_nil]); first | done | rfl | (simp only [List.length_drop, List.length_take]; rfl)) ?_; (with_reducible refine (length_Scale.calls k 25 50 t107 _ A1.out).mono ?_); rintro e w' ⟨rfl, ⟨nd, rfl⟩⟩; refine ⟨_, rfl, ?_⟩) | (go_at_call 23; (with_reducible refine (length_Text.calls k 12340 t108 _ ?side1 A3.out).mono ?_); (case side1 => first | exact HG.out | (with_reducible exact Gw.drewN HG.out _) | exact Gw.below HG.out (by repeat (first | (with_reducible first | exact HB.out | apply below_alloc | apply pw_below_drewN | apply below_drew1) | exact HB.out)) | ((repeat (first | (with_reducible exact HG.out) | (with_reducible apply Gw.drewN) | (with_reducible apply Gw.drew))); done)); rintro e w4 ⟨rfl, hb⟩; have n0_ := Aside0.mk (below_step (by repeat (first | (with_reducible first | exact HB.out | apply below_alloc | apply pw_below_drewN | apply below_drew1) | exact HB.out)) hb); clear HB; have HB := n0_; clear n0_; (try clear hb); (try clear hb2); (try clear hk); (try clear hi)))
    go_ret
    exact ⟨by first | rfl | (simp [errW_none, errW_some] <;> rfl) | (simp [*, errW_none, errW_some] <;> rfl), by repeat (first | (with_reducible first | exact HB.out | apply below_alloc | apply pw_below_drewN | apply below_drew1) | exact HB.out)⟩
  · rw [if_neg c2] at H
    have c2b0 : (t107 == 13) = false := beq_eq_false_iff_ne.mpr c2
    have c2b1 : (t107 != 13) = true := bne_iff_ne.mpr c2
    obtain rfl := Option.some.inj H
    go_enter Tryd.func10, Tryd.ntmps10
    go_wp2_with (first | ((with_reducible refine gate_callee (f := 13) rfl ?_); refine goesL_ (some 1) rfl rfl Tryd.func13 (by kernel_rfl) rfl #[.int .i64 25, .int .i64 50] rfl (by (try simp only [List.map_toArray, List.map_cons, List.map_nil]); first | done | rfl | (simp only [List.length_drop, List.length_take]; rfl)) ?_; (with_reducible refine (length_Scale.calls k 25 50 t107 _ A1.out).mono ?_); rintro e w' ⟨rfl, ⟨nd, rfl⟩⟩; refine ⟨_, rfl, ?_⟩))
    go_ret
    exact ⟨by first | rfl | (simp [errW_none, errW_some] <;> rfl) | (simp [*, errW_none, errW_some] <;> rfl), by repeat (first | (with_reducible first | exact HB.out | apply below_alloc | apply pw_below_drewN | apply below_drew1) | exact HB.out)⟩

/-! ### vinculumref01_Valid: function 12 -/
def vinculumref01_Valid.f (a0 : Int) : Option (Bool) := if a0 ≥ (-1073741824) then (some (decide (a0 ≤ 1073741824))) else (some false)
set_option maxHeartbeats 8000000 in
set_option maxRecDepth 100000 in
theorem vinculumref01_Valid.calls (a0 : Int) (r : Bool) (w : World) (h : vinculumref01_Valid.f a0 = some r) :
    Calls Tryd.prog 12 #[.int .i64 a0] w fun e w' => e = .returned (.bool r) ∧ Drawn0 w w' := by
  have H : (if a0 ≥ (-1073741824) then (some (decide (a0 ≤ 1073741824))) else (some false)) = some r := h
  clear h
  by_cases c2 : a0 ≥ (-1073741824)
  · rw [if_pos c2] at H
    have c2b0 : decide ((-1073741824) ≤ a0) = true := decide_eq_true c2
    clear c2
    obtain rfl := Option.some.inj H
    go_enter Tryd.func12, Tryd.ntmps12
    go_wp2
    go_ret
    exact ⟨by first | rfl | (simp; done) | (simp [*]; done), by repeat (first | exact Drawn0.refl _ | apply Drawn0.step)⟩
  · rw [if_neg c2] at H
    have c2b0 : decide ((-1073741824) ≤ a0) = false := decide_eq_false c2
    clear c2
    obtain rfl := Option.some.inj H
    go_enter Tryd.func12, Tryd.ntmps12
    go_wp2
    go_ret
    exact ⟨by first | rfl | (simp; done) | (simp [*]; done), by repeat (first | exact Drawn0.refl _ | apply Drawn0.step)⟩

/-! ### vinculumref01_size: function 37 -/
def vinculumref01_size.f (a0 : Int) : Option (Int) := if a0 < 0 then (some (wrap64 (-a0))) else (some a0)
set_option maxHeartbeats 8000000 in
set_option maxRecDepth 100000 in
theorem vinculumref01_size.calls (a0 : Int) (r : Int) (w : World) (h : vinculumref01_size.f a0 = some r) :
    Calls Tryd.prog 37 #[.int .i64 a0] w fun e w' => e = .returned (.int .i64 r) ∧ Drawn0 w w' := by
  have H : (if a0 < 0 then (some (wrap64 (-a0))) else (some a0)) = some r := h
  clear h
  by_cases c2 : a0 < 0
  · rw [if_pos c2] at H
    have c2b0 : decide (a0 < 0) = true := decide_eq_true c2
    clear c2
    obtain rfl := Option.some.inj H
    go_enter Tryd.func37, Tryd.ntmps37
    go_wp2
    go_ret
    exact ⟨by first | rfl | (simp; done) | (simp [*]; done), by repeat (first | exact Drawn0.refl _ | apply Drawn0.step)⟩
  · rw [if_neg c2] at H
    have c2b0 : decide (a0 < 0) = false := decide_eq_false c2
    clear c2
    obtain rfl := Option.some.inj H
    go_enter Tryd.func37, Tryd.ntmps37
    go_wp2
    go_ret
    exact ⟨by first | rfl | (simp; done) | (simp [*]; done), by repeat (first | exact Drawn0.refl _ | apply Drawn0.step)⟩

/-! ### vinculumref01_round: function 28 -/
def vinculumref01_round.f (a0 : Int) (a1 : Int) : Option (Int) := (vinculumref01_size.f a0).bind fun t109 => ((vinculumref01_size.f a1).bind fun t110 => ((vinculumref01_size.f a1).bind fun t111 => (if (wrap64 (2 * t111)) = 0 then (none) else (if ((decide (a0 < 0)) != (decide (a1 < 0))) = true then (some (wrap64 (-(wrap64 (Int.tdiv (wrap64 ((wrap64 (2 * t109)) + t110)) (wrap64 (2 * t111))))))) else (some (wrap64 (Int.tdiv (wrap64 ((wrap64 (2 * t109)) + t110)) (wrap64 (2 * t111)))))))))
set_option maxHeartbeats 8000000 in
set_option maxRecDepth 100000 in
theorem vinculumref01_round.calls (a0 : Int) (a1 : Int) (r : Int) (w : World) (h : vinculumref01_round.f a0 a1 = some r) :
    Calls Tryd.prog 28 #[.int .i64 a0, .int .i64 a1] w fun e w' => e = .returned (.int .i64 r) ∧ Drawn0 w w' := by
  have H : ((vinculumref01_size.f a0).bind fun t109 => ((vinculumref01_size.f a1).bind fun t110 => ((vinculumref01_size.f a1).bind fun t111 => (if (wrap64 (2 * t111)) = 0 then (none) else (if ((decide (a0 < 0)) != (decide (a1 < 0))) = true then (some (wrap64 (-(wrap64 (Int.tdiv (wrap64 ((wrap64 (2 * t109)) + t110)) (wrap64 (2 * t111))))))) else (some (wrap64 (Int.tdiv (wrap64 ((wrap64 (2 * t109)) + t110)) (wrap64 (2 * t111)))))))))) = some r := h
  clear h
  replace H := Option.bind_eq_some_iff.mp H
  obtain ⟨t109, A30, H⟩ := H
  replace H : ((vinculumref01_size.f a1).bind fun t110 => ((vinculumref01_size.f a1).bind fun t111 => (if (wrap64 (2 * t111)) = 0 then (none) else (if ((decide (a0 < 0)) != (decide (a1 < 0))) = true then (some (wrap64 (-(wrap64 (Int.tdiv (wrap64 ((wrap64 (2 * t109)) + t110)) (wrap64 (2 * t111))))))) else (some (wrap64 (Int.tdiv (wrap64 ((wrap64 (2 * t109)) + t110)) (wrap64 (2 * t111))))))))) = some r := H
  have A3 := Aside0.mk A30
  clear A30
  replace H := Option.bind_eq_some_iff.mp H
  obtain ⟨t110, A40, H⟩ := H
  replace H : ((vinculumref01_size.f a1).bind fun t111 => (if (wrap64 (2 * t111)) = 0 then (none) else (if ((decide (a0 < 0)) != (decide (a1 < 0))) = true then (some (wrap64 (-(wrap64 (Int.tdiv (wrap64 ((wrap64 (2 * t109)) + t110)) (wrap64 (2 * t111))))))) else (some (wrap64 (Int.tdiv (wrap64 ((wrap64 (2 * t109)) + t110)) (wrap64 (2 * t111)))))))) = some r := H
  have A4 := Aside0.mk A40
  clear A40
  replace H := Option.bind_eq_some_iff.mp H
  obtain ⟨t111, A50, H⟩ := H
  replace H : (if (wrap64 (2 * t111)) = 0 then (none) else (if ((decide (a0 < 0)) != (decide (a1 < 0))) = true then (some (wrap64 (-(wrap64 (Int.tdiv (wrap64 ((wrap64 (2 * t109)) + t110)) (wrap64 (2 * t111))))))) else (some (wrap64 (Int.tdiv (wrap64 ((wrap64 (2 * t109)) + t110)) (wrap64 (2 * t111))))))) = some r := H
  have A5 := Aside0.mk A50
  clear A50
  by_cases c6 : (wrap64 (2 * t111)) = 0
  · rw [if_pos c6] at H
    exact absurd H (by simp)
  · rw [if_neg c6] at H
    have c6b0 : ((wrap64 (2 * t111)) == 0) = false := beq_eq_false_iff_ne.mpr c6
    have c6b1 : ((wrap64 (2 * t111)) != 0) = true := bne_iff_ne.mpr c6
    by_cases c7 : ((decide (a0 < 0)) != (decide (a1 < 0))) = true
    · rw [if_pos c7] at H
      have c7b0 : ((decide (a0 < 0)) != (decide (a1 < 0))) = true := c7
      (try (have c7b1 : decide ((decide (a0 < 0)) = (decide (a1 < 0))) = false := by simpa using c7))
      (try (have c7b2 : ((decide (a0 < 0)) == (decide (a1 < 0))) = false := by simpa using c7))
      (try (have c7b3 : ¬ ((decide (a0 < 0)) = (decide (a1 < 0))) := by simpa using c7))
      clear c7
      obtain rfl := Option.some.inj H
      go_enter Tryd.func28, Tryd.ntmps28
      go_wp2_with (first | ((with_reducible refine gate_callee (f := 37) rfl ?_); refine goesL_ (some 7) rfl rfl Tryd.func37 (by kernel_rfl) rfl #[.int .i64 a0] rfl (by (try simp only [List.map_toArray, List.map_cons, List.map_nil]); first | done | rfl | (simp only [List.length_drop, List.length_take]; rfl)) ?_; (with_reducible refine (vinculumref01_size.calls a0 t109 _ A3.out).mono ?_); rintro e w' ⟨rfl, ⟨nd, rfl⟩⟩; refine ⟨_, rfl, ?_⟩) | ((with_reducible refine gate_callee (f := 37) rfl ?_); refine goesL_ (some 10) rfl rfl Tryd.func37 (by kernel_rfl) rfl #[.int .i64 a1] rfl (by (try simp only [List.map_toArray, List.map_cons, List.map_nil]); first | done | rfl | (simp only [List.length_drop, List.length_take]; rfl)) ?_; (with_reducible refine (vinculumref01_size.calls a1 t110 _ A4.out).mono ?_); rintro e w' ⟨rfl, ⟨nd, rfl⟩⟩; refine ⟨_, rfl, ?_⟩) | ((with_reducible refine gate_callee (f := 37) rfl ?_); refine goesL_ (some 13) rfl rfl Tryd.func37 (by kernel_rfl) rfl #[.int .i64 a1] rfl (by (try simp only [List.map_toArray, List.map_cons, List.map_nil]); first | done | rfl | (simp only [List.length_drop, List.length_take]; rfl)) ?_; (with_reducible refine (vinculumref01_size.calls a1 t111 _ A5.out).mono ?_); rintro e w' ⟨rfl, ⟨nd, rfl⟩⟩; refine ⟨_, rfl, ?_⟩))
      go_ret
      exact ⟨by first | rfl | (simp; done) | (simp [*]; done), by repeat (first | exact Drawn0.refl _ | apply Drawn0.step)⟩
    · rw [if_neg c7] at H
      have c7b0 : ((decide (a0 < 0)) != (decide (a1 < 0))) = false := by simpa using c7
      (try (have c7b1 : decide ((decide (a0 < 0)) = (decide (a1 < 0))) = true := by simpa using c7))
      (try (have c7b2 : ((decide (a0 < 0)) == (decide (a1 < 0))) = true := by simpa using c7))
      clear c7
      obtain rfl := Option.some.inj H
      go_enter Tryd.func28, Tryd.ntmps28
      go_wp2_with (first | ((with_reducible refine gate_callee (f := 37) rfl ?_); refine goesL_ (some 7) rfl rfl Tryd.func37 (by kernel_rfl) rfl #[.int .i64 a0] rfl (by (try simp only [List.map_toArray, List.map_cons, List.map_nil]); first | done | rfl | (simp only [List.length_drop, List.length_take]; rfl)) ?_; (with_reducible refine (vinculumref01_size.calls a0 t109 _ A3.out).mono ?_); rintro e w' ⟨rfl, ⟨nd, rfl⟩⟩; refine ⟨_, rfl, ?_⟩) | ((with_reducible refine gate_callee (f := 37) rfl ?_); refine goesL_ (some 10) rfl rfl Tryd.func37 (by kernel_rfl) rfl #[.int .i64 a1] rfl (by (try simp only [List.map_toArray, List.map_cons, List.map_nil]); first | done | rfl | (simp only [List.length_drop, List.length_take]; rfl)) ?_; (with_reducible refine (vinculumref01_size.calls a1 t110 _ A4.out).mono ?_); rintro e w' ⟨rfl, ⟨nd, rfl⟩⟩; refine ⟨_, rfl, ?_⟩) | ((with_reducible refine gate_callee (f := 37) rfl ?_); refine goesL_ (some 13) rfl rfl Tryd.func37 (by kernel_rfl) rfl #[.int .i64 a1] rfl (by (try simp only [List.map_toArray, List.map_cons, List.map_nil]); first | done | rfl | (simp only [List.length_drop, List.length_take]; rfl)) ?_; (with_reducible refine (vinculumref01_size.calls a1 t111 _ A5.out).mono ?_); rintro e w' ⟨rfl, ⟨nd, rfl⟩⟩; refine ⟨_, rfl, ?_⟩))
      go_ret
      exact ⟨by first | rfl | (simp; done) | (simp [*]; done), by repeat (first | exact Drawn0.refl _ | apply Drawn0.step)⟩

/-! ### vinculumref01_Scale: function 14 -/
def vinculumref01_Scale.f (a0 : Int) (a1 : Int) : Option (Int) := (vinculumref01_Valid.f a0).bind fun t112 => (if t112 = true then (if a1 < 0 then (some 0) else (if a1 > 10000 then (some 0) else ((vinculumref01_round.f (wrap64 (a0 * a1)) 100).bind fun t113 => (some t113)))) else (some 0))
set_option maxHeartbeats 8000000 in
set_option maxRecDepth 100000 in
theorem vinculumref01_Scale.calls (a0 : Int) (a1 : Int) (r : Int) (w : World) (h : vinculumref01_Scale.f a0 a1 = some r) :
    Calls Tryd.prog 14 #[.int .i64 a0, .int .i64 a1] w fun e w' => e = .returned (.int .i64 r) ∧ Drawn0 w w' := by
  have H : ((vinculumref01_Valid.f a0).bind fun t112 => (if t112 = true then (if a1 < 0 then (some 0) else (if a1 > 10000 then (some 0) else ((vinculumref01_round.f (wrap64 (a0 * a1)) 100).bind fun t113 => (some t113)))) else (some 0))) = some r := h
  clear h
  replace H := Option.bind_eq_some_iff.mp H
  obtain ⟨t112, A30, H⟩ := H
  replace H : (if t112 = true then (if a1 < 0 then (some 0) else (if a1 > 10000 then (some 0) else ((vinculumref01_round.f (wrap64 (a0 * a1)) 100).bind fun t113 => (some t113)))) else (some 0)) = some r := H
  have A3 := Aside0.mk A30
  clear A30
  by_cases c4 : t112 = true
  · subst c4
    have H1 : (if a1 < 0 then (some 0) else (if a1 > 10000 then (some 0) else ((vinculumref01_round.f (wrap64 (a0 * a1)) 100).bind fun t113 => (some t113)))) = some r := by rw [if_pos rfl] at H; exact H
    clear H
    have H := H1
    clear H1
    by_cases c5 : a1 < 0
    · rw [if_pos c5] at H
      have c5b0 : decide (a1 < 0) = true := decide_eq_true c5
      clear c5
      obtain rfl := Option.some.inj H
      go_enter Tryd.func14, Tryd.ntmps14
      go_wp2_with (first | ((with_reducible refine gate_callee (f := 12) rfl ?_); refine goesL_ (some 6) rfl rfl Tryd.func12 (by kernel_rfl) rfl #[.int .i64 a0] rfl (by (try simp only [List.map_toArray, List.map_cons, List.map_nil]); first | done | rfl | (simp only [List.length_drop, List.length_take]; rfl)) ?_; (with_reducible refine (vinculumref01_Valid.calls a0 true _ A3.out).mono ?_); rintro e w' ⟨rfl, ⟨nd, rfl⟩⟩; refine ⟨_, rfl, ?_⟩))
      go_ret
      exact ⟨by first | rfl | (simp; done) | (simp [*]; done), by repeat (first | exact Drawn0.refl _ | apply Drawn0.step)⟩
    · rw [if_neg c5] at H
      have c5b0 : decide (a1 < 0) = false := decide_eq_false c5
      clear c5
      by_cases c6 : a1 > 10000
      · rw [if_pos c6] at H
        have c6b0 : decide (10000 < a1) = true := decide_eq_true c6
        clear c6
        obtain rfl := Option.some.inj H
        go_enter Tryd.func14, Tryd.ntmps14
        go_wp2_with (first | ((with_reducible refine gate_callee (f := 12) rfl ?_); refine goesL_ (some 6) rfl rfl Tryd.func12 (by kernel_rfl) rfl #[.int .i64 a0] rfl (by (try simp only [List.map_toArray, List.map_cons, List.map_nil]); first | done | rfl | (simp only [List.length_drop, List.length_take]; rfl)) ?_; (with_reducible refine (vinculumref01_Valid.calls a0 true _ A3.out).mono ?_); rintro e w' ⟨rfl, ⟨nd, rfl⟩⟩; refine ⟨_, rfl, ?_⟩))
        go_ret
        exact ⟨by first | rfl | (simp; done) | (simp [*]; done), by repeat (first | exact Drawn0.refl _ | apply Drawn0.step)⟩
      · rw [if_neg c6] at H
        have c6b0 : decide (10000 < a1) = false := decide_eq_false c6
        clear c6
        replace H := Option.bind_eq_some_iff.mp H
        obtain ⟨t113, A70, H⟩ := H
        replace H : (some t113) = some r := H
        have A7 := Aside0.mk A70
        clear A70
        obtain rfl := Option.some.inj H
        go_enter Tryd.func14, Tryd.ntmps14
        go_wp2_with (first | ((with_reducible refine gate_callee (f := 12) rfl ?_); refine goesL_ (some 6) rfl rfl Tryd.func12 (by kernel_rfl) rfl #[.int .i64 a0] rfl (by (try simp only [List.map_toArray, List.map_cons, List.map_nil]); first | done | rfl | (simp only [List.length_drop, List.length_take]; rfl)) ?_; (with_reducible refine (vinculumref01_Valid.calls a0 true _ A3.out).mono ?_); rintro e w' ⟨rfl, ⟨nd, rfl⟩⟩; refine ⟨_, rfl, ?_⟩) | ((with_reducible refine gate_callee (f := 28) rfl ?_); refine goesL_ (some 19) rfl rfl Tryd.func28 (by kernel_rfl) rfl #[.int .i64 (wrap64 (a0 * a1)), .int .i64 100] rfl (by (try simp only [List.map_toArray, List.map_cons, List.map_nil]); first | done | rfl | (simp only [List.length_drop, List.length_take]; rfl)) ?_; (with_reducible refine (vinculumref01_round.calls (wrap64 (a0 * a1)) 100 t113 _ A7.out).mono ?_); rintro e w' ⟨rfl, ⟨nd, rfl⟩⟩; refine ⟨_, rfl, ?_⟩))
        go_ret
        exact ⟨by first | rfl | (simp; done) | (simp [*]; done), by repeat (first | exact Drawn0.refl _ | apply Drawn0.step)⟩
  · replace c4 := Bool.eq_false_iff.mpr c4
    subst c4
    have H1 : (some 0) = some r := by rw [if_neg (show ¬ (false = true) by decide)] at H; exact H
    clear H
    have H := H1
    clear H1
    obtain rfl := Option.some.inj H
    go_enter Tryd.func14, Tryd.ntmps14
    go_wp2_with (first | ((with_reducible refine gate_callee (f := 12) rfl ?_); refine goesL_ (some 6) rfl rfl Tryd.func12 (by kernel_rfl) rfl #[.int .i64 a0] rfl (by (try simp only [List.map_toArray, List.map_cons, List.map_nil]); first | done | rfl | (simp only [List.length_drop, List.length_take]; rfl)) ?_; (with_reducible refine (vinculumref01_Valid.calls a0 false _ A3.out).mono ?_); rintro e w' ⟨rfl, ⟨nd, rfl⟩⟩; refine ⟨_, rfl, ?_⟩))
    go_ret
    exact ⟨by first | rfl | (simp; done) | (simp [*]; done), by repeat (first | exact Drawn0.refl _ | apply Drawn0.step)⟩

/-! ### length_Half: function 15 -/
def length_Half.f (k : Nat) (a0 : Int) : Option (Int) := (length_Valid.f a0).bind fun t114 => (if t114 = true then ((length_round.f k a0 2).bind fun t115 => (some t115)) else (some 0))
theorem length_Half.mono : ∀ a0 k, LeO (length_Half.f k a0) (length_Half.f (k + 1) a0) := by
  intro a0 k
  unfold length_Half.f
  repeat' first
      | (with_reducible exact length_round.mono _ _ _)
      | (with_reducible exact LeO.refl _)
      | (with_reducible exact LeO.none _)
      | (with_reducible refine LeO.ite ?_ ?_)
      | (with_reducible refine LeO.bind ?_ (fun _ => ?_))
      | exact length_round.mono _ _ _
      | exact LeO.none _
      | refine LeO.ite ?_ ?_
      | refine LeO.bind ?_ (fun _ => ?_)
set_option maxHeartbeats 8000000 in
set_option maxRecDepth 100000 in
theorem length_Half.calls (k : Nat) (a0 : Int) (r : Int) (w : World) (h : length_Half.f k a0 = some r) :
    Calls Tryd.prog 15 #[.int .i64 a0] w fun e w' => e = .returned (.int .i64 r) ∧ Drawn0 w w' := by
  have H : ((length_Valid.f a0).bind fun t114 => (if t114 = true then ((length_round.f k a0 2).bind fun t115 => (some t115)) else (some 0))) = some r := h
  clear h
  replace H := Option.bind_eq_some_iff.mp H
  obtain ⟨t114, A20, H⟩ := H
  replace H : (if t114 = true then ((length_round.f k a0 2).bind fun t115 => (some t115)) else (some 0)) = some r := H
  have A2 := Aside0.mk A20
  clear A20
  by_cases c3 : t114 = true
  · subst c3
    have H1 : ((length_round.f k a0 2).bind fun t115 => (some t115)) = some r := by rw [if_pos rfl] at H; exact H
    clear H
    have H := H1
    clear H1
    replace H := Option.bind_eq_some_iff.mp H
    obtain ⟨t115, A40, H⟩ := H
    replace H : (some t115) = some r := H
    have A4 := Aside0.mk A40
    clear A40
    obtain rfl := Option.some.inj H
    go_enter Tryd.func15, Tryd.ntmps15
    go_wp2_with (first | ((with_reducible refine gate_callee (f := 11) rfl ?_); refine goesL_ (some 4) rfl rfl Tryd.func11 (by kernel_rfl) rfl #[.int .i64 a0] rfl (by (try simp only [List.map_toArray, List.map_cons, List.map_nil]); first | done | rfl | (simp only [List.length_drop, List.length_take]; rfl)) ?_; (with_reducible refine (length_Valid.calls a0 true _ A2.out).mono ?_); rintro e w' ⟨rfl, ⟨nd, rfl⟩⟩; refine ⟨_, rfl, ?_⟩) | ((with_reducible refine gate_callee (f := 27) rfl ?_); refine goesL_ (some 7) rfl rfl Tryd.func27 (by kernel_rfl) rfl #[.int .i64 a0, .int .i64 2] rfl (by (try simp only [List.map_toArray, List.map_cons, List.map_nil]); first | done | rfl | (simp only [List.length_drop, List.length_take]; rfl)) ?_; (with_reducible refine (length_round.calls k a0 2 t115 _ A4.out).mono ?_); rintro e w' ⟨rfl, ⟨nd, rfl⟩⟩; refine ⟨_, rfl, ?_⟩))
    go_ret
    exact ⟨by first | rfl | (simp; done) | (simp [*]; done), by repeat (first | exact Drawn0.refl _ | apply Drawn0.step)⟩
  · replace c3 := Bool.eq_false_iff.mpr c3
    subst c3
    have H1 : (some 0) = some r := by rw [if_neg (show ¬ (false = true) by decide)] at H; exact H
    clear H
    have H := H1
    clear H1
    obtain rfl := Option.some.inj H
    go_enter Tryd.func15, Tryd.ntmps15
    go_wp2_with (first | ((with_reducible refine gate_callee (f := 11) rfl ?_); refine goesL_ (some 4) rfl rfl Tryd.func11 (by kernel_rfl) rfl #[.int .i64 a0] rfl (by (try simp only [List.map_toArray, List.map_cons, List.map_nil]); first | done | rfl | (simp only [List.length_drop, List.length_take]; rfl)) ?_; (with_reducible refine (length_Valid.calls a0 false _ A2.out).mono ?_); rintro e w' ⟨rfl, ⟨nd, rfl⟩⟩; refine ⟨_, rfl, ?_⟩))
    go_ret
    exact ⟨by first | rfl | (simp; done) | (simp [*]; done), by repeat (first | exact Drawn0.refl _ | apply Drawn0.step)⟩

/-! ### vinculumref01_Half: function 16 -/
def vinculumref01_Half.f (a0 : Int) : Option (Int) := (vinculumref01_Valid.f a0).bind fun t116 => (if t116 = true then ((vinculumref01_round.f a0 2).bind fun t117 => (some t117)) else (some 0))
set_option maxHeartbeats 8000000 in
set_option maxRecDepth 100000 in
theorem vinculumref01_Half.calls (a0 : Int) (r : Int) (w : World) (h : vinculumref01_Half.f a0 = some r) :
    Calls Tryd.prog 16 #[.int .i64 a0] w fun e w' => e = .returned (.int .i64 r) ∧ Drawn0 w w' := by
  have H : ((vinculumref01_Valid.f a0).bind fun t116 => (if t116 = true then ((vinculumref01_round.f a0 2).bind fun t117 => (some t117)) else (some 0))) = some r := h
  clear h
  replace H := Option.bind_eq_some_iff.mp H
  obtain ⟨t116, A20, H⟩ := H
  replace H : (if t116 = true then ((vinculumref01_round.f a0 2).bind fun t117 => (some t117)) else (some 0)) = some r := H
  have A2 := Aside0.mk A20
  clear A20
  by_cases c3 : t116 = true
  · subst c3
    have H1 : ((vinculumref01_round.f a0 2).bind fun t117 => (some t117)) = some r := by rw [if_pos rfl] at H; exact H
    clear H
    have H := H1
    clear H1
    replace H := Option.bind_eq_some_iff.mp H
    obtain ⟨t117, A40, H⟩ := H
    replace H : (some t117) = some r := H
    have A4 := Aside0.mk A40
    clear A40
    obtain rfl := Option.some.inj H
    go_enter Tryd.func16, Tryd.ntmps16
    go_wp2_with (first | ((with_reducible refine gate_callee (f := 12) rfl ?_); refine goesL_ (some 4) rfl rfl Tryd.func12 (by kernel_rfl) rfl #[.int .i64 a0] rfl (by (try simp only [List.map_toArray, List.map_cons, List.map_nil]); first | done | rfl | (simp only [List.length_drop, List.length_take]; rfl)) ?_; (with_reducible refine (vinculumref01_Valid.calls a0 true _ A2.out).mono ?_); rintro e w' ⟨rfl, ⟨nd, rfl⟩⟩; refine ⟨_, rfl, ?_⟩) | ((with_reducible refine gate_callee (f := 28) rfl ?_); refine goesL_ (some 7) rfl rfl Tryd.func28 (by kernel_rfl) rfl #[.int .i64 a0, .int .i64 2] rfl (by (try simp only [List.map_toArray, List.map_cons, List.map_nil]); first | done | rfl | (simp only [List.length_drop, List.length_take]; rfl)) ?_; (with_reducible refine (vinculumref01_round.calls a0 2 t117 _ A4.out).mono ?_); rintro e w' ⟨rfl, ⟨nd, rfl⟩⟩; refine ⟨_, rfl, ?_⟩))
    go_ret
    exact ⟨by first | rfl | (simp; done) | (simp [*]; done), by repeat (first | exact Drawn0.refl _ | apply Drawn0.step)⟩
  · replace c3 := Bool.eq_false_iff.mpr c3
    subst c3
    have H1 : (some 0) = some r := by rw [if_neg (show ¬ (false = true) by decide)] at H; exact H
    clear H
    have H := H1
    clear H1
    obtain rfl := Option.some.inj H
    go_enter Tryd.func16, Tryd.ntmps16
    go_wp2_with (first | ((with_reducible refine gate_callee (f := 12) rfl ?_); refine goesL_ (some 4) rfl rfl Tryd.func12 (by kernel_rfl) rfl #[.int .i64 a0] rfl (by (try simp only [List.map_toArray, List.map_cons, List.map_nil]); first | done | rfl | (simp only [List.length_drop, List.length_take]; rfl)) ?_; (with_reducible refine (vinculumref01_Valid.calls a0 false _ A2.out).mono ?_); rintro e w' ⟨rfl, ⟨nd, rfl⟩⟩; refine ⟨_, rfl, ?_⟩))
    go_ret
    exact ⟨by first | rfl | (simp; done) | (simp [*]; done), by repeat (first | exact Drawn0.refl _ | apply Drawn0.step)⟩

/-! ### vinculumlaw01_LengthScale: function 3 -/
def vinculumlaw01_LengthScale.f (k : Nat) (a0 : Int) (a1 : Int) : Option (Bool) := (vinculumlaw01_awake.f k).bind fun t118 => (if t118 = true then ((length_Valid.f a0).bind fun t119 => ((vinculumref01_Valid.f a0).bind fun t120 => (if (t119 == t120) = true then ((length_Scale.f k a0 a1).bind fun t121 => ((vinculumref01_Scale.f a0 a1).bind fun t122 => (if t121 = t122 then ((length_Half.f k a0).bind fun t123 => ((vinculumref01_Half.f a0).bind fun t124 => (some (t123 == t124)))) else (some false)))) else (some false)))) else (some false))
theorem vinculumlaw01_LengthScale.mono : ∀ a0 a1 k, LeO (vinculumlaw01_LengthScale.f k a0 a1) (vinculumlaw01_LengthScale.f (k + 1) a0 a1) := by
  intro a0 a1 k
  unfold vinculumlaw01_LengthScale.f
  repeat' first
      | (with_reducible exact length_Half.mono _ _)
      | (with_reducible exact length_Scale.mono _ _ _)
      | (with_reducible exact vinculumlaw01_awake.mono _)
      | (with_reducible exact LeO.refl _)
      | (with_reducible exact LeO.none _)
      | (with_reducible refine LeO.ite ?_ ?_)
      | (with_reducible refine LeO.bind ?_ (fun _ => ?_))
      | exact length_Half.mono _ _
      | exact length_Scale.mono _ _ _
      | exact vinculumlaw01_awake.mono _
      | exact LeO.none _
      | refine LeO.ite ?_ ?_
      | refine LeO.bind ?_ (fun _ => ?_)
set_option maxHeartbeats 8000000 in
set_option maxRecDepth 100000 in
theorem vinculumlaw01_LengthScale.calls (k : Nat) (a0 : Int) (a1 : Int) (r : Bool) (w : World) (hG : Gw w) (h : vinculumlaw01_LengthScale.f k a0 a1 = some r) :
    Calls Tryd.prog 3 #[.int .i64 a0, .int .i64 a1] w fun e w' => e = .returned (.bool r) ∧ Below w.heap.size w w' := by
  have HB := Aside0.mk (Below.refl w.heap.size w)
  have HG := Aside0.mk hG
  clear hG
  have H : ((vinculumlaw01_awake.f k).bind fun t118 => (if t118 = true then ((length_Valid.f a0).bind fun t119 => ((vinculumref01_Valid.f a0).bind fun t120 => (if (t119 == t120) = true then ((length_Scale.f k a0 a1).bind fun t121 => ((vinculumref01_Scale.f a0 a1).bind fun t122 => (if t121 = t122 then ((length_Half.f k a0).bind fun t123 => ((vinculumref01_Half.f a0).bind fun t124 => (some (t123 == t124)))) else (some false)))) else (some false)))) else (some false))) = some r := h
  clear h
  replace H := Option.bind_eq_some_iff.mp H
  obtain ⟨t118, A30, H⟩ := H
  replace H : (if t118 = true then ((length_Valid.f a0).bind fun t119 => ((vinculumref01_Valid.f a0).bind fun t120 => (if (t119 == t120) = true then ((length_Scale.f k a0 a1).bind fun t121 => ((vinculumref01_Scale.f a0 a1).bind fun t122 => (if t121 = t122 then ((length_Half.f k a0).bind fun t123 => ((vinculumref01_Half.f a0).bind fun t124 => (some (t123 == t124)))) else (some false)))) else (some false)))) else (some false)) = some r := H
  have A3 := Aside0.mk A30
  clear A30
  by_cases c4 : t118 = true
  · subst c4
    have H1 : ((length_Valid.f a0).bind fun t119 => ((vinculumref01_Valid.f a0).bind fun t120 => (if (t119 == t120) = true then ((length_Scale.f k a0 a1).bind fun t121 => ((vinculumref01_Scale.f a0 a1).bind fun t122 => (if t121 = t122 then ((length_Half.f k a0).bind fun t123 => ((vinculumref01_Half.f a0).bind fun t124 => (some (t123 == t124)))) else (some false)))) else (some false)))) = some r := by rw [if_pos rfl] at H; exact H
    clear H
    have H := H1
    clear H1
    replace H := Option.bind_eq_some_iff.mp H
    obtain ⟨t119, A50, H⟩ := H
    replace H : ((vinculumref01_Valid.f a0).bind fun t120 => (if (t119 == t120) = true then ((length_Scale.f k a0 a1).bind fun t121 => ((vinculumref01_Scale.f a0 a1).bind fun t122 => (if t121 = t122 then ((length_Half.f k a0).bind fun t123 => ((vinculumref01_Half.f a0).bind fun t124 => (some (t123 == t124)))) else (some false)))) else (some false))) = some r := H
    have A5 := Aside0.mk A50
    clear A50
    replace H := Option.bind_eq_some_iff.mp H
    obtain ⟨t120, A60, H⟩ := H
    replace H : (if (t119 == t120) = true then ((length_Scale.f k a0 a1).bind fun t121 => ((vinculumref01_Scale.f a0 a1).bind fun t122 => (if t121 = t122 then ((length_Half.f k a0).bind fun t123 => ((vinculumref01_Half.f a0).bind fun t124 => (some (t123 == t124)))) else (some false)))) else (some false)) = some r := H
    have A6 := Aside0.mk A60
    clear A60
    by_cases c7 : (t119 == t120) = true
    · rw [if_pos c7] at H
      have c7b0 : (t119 == t120) = true := c7
      (try (have c7b1 : decide (t119 = t120) = true := by simpa using c7))
      (try (have c7b2 : (t119 == t120) = true := by simpa using c7))
      clear c7
      replace H := Option.bind_eq_some_iff.mp H
      obtain ⟨t121, A80, H⟩ := H
      replace H : ((vinculumref01_Scale.f a0 a1).bind fun t122 => (if t121 = t122 then ((length_Half.f k a0).bind fun t123 => ((vinculumref01_Half.f a0).bind fun t124 => (some (t123 == t124)))) else (some false))) = some r := H
      have A8 := Aside0.mk A80
      clear A80
      replace H := Option.bind_eq_some_iff.mp H
      obtain ⟨t122, A90, H⟩ := H
      replace H : (if t121 = t122 then ((length_Half.f k a0).bind fun t123 => ((vinculumref01_Half.f a0).bind fun t124 => (some (t123 == t124)))) else (some false)) = some r := H
      have A9 := Aside0.mk A90
      clear A90
      by_cases c10 : t121 = t122
      · rw [if_pos c10] at H
        have c10b0 : (t121 == t122) = true := beq_iff_eq.mpr c10
        have c10b1 : (t121 != t122) = false := bne_eq_false_iff_eq.mpr c10
        clear c10
        replace H := Option.bind_eq_some_iff.mp H
        obtain ⟨t123, A110, H⟩ := H
        replace H : ((vinculumref01_Half.f a0).bind fun t124 => (some (t123 == t124))) = some r := H
        have A11 := Aside0.mk A110
        clear A110
        replace H := Option.bind_eq_some_iff.mp H
        obtain ⟨t124, A120, H⟩ := H
        replace H : (some (t123 == t124)) = some r := H
        have A12 := Aside0.mk A120
        clear A120
        obtain rfl := Option.some.inj H
        go_enter Tryd.func3, Tryd.ntmps3
        go_wp2_with (first | ((with_reducible refine gate_callee (f := 10) rfl ?_); refine goesL_ (some 5) rfl rfl Tryd.func10 (by kernel_rfl) rfl #[] rfl (by (try simp only [List.map_toArray, List.map_cons, List.map_nil]); first | done | rfl | (simp only [List.length_drop, List.length_take]; rfl)) ?_; (with_reducible refine (vinculumlaw01_awake.calls k  true _ ?side1 A3.out).mono ?_); (case side1 => first | exact HG.out | (with_reducible exact Gw.drewN HG.out _) | exact Gw.below HG.out (by repeat (first | (with_reducible first | exact HB.out | apply below_alloc | apply pw_below_drewN | apply below_drew1) | exact HB.out)) | ((repeat (first | (with_reducible exact HG.out) | (with_reducible apply Gw.drewN) | (with_reducible apply Gw.drew))); done)); rintro e w13 ⟨rfl, hb⟩; refine ⟨_, rfl, ?_⟩; have n0_ := Aside0.mk (below_step (by repeat (first | (with_reducible first | exact HB.out | apply below_alloc | apply pw_below_drewN | apply below_drew1) | exact HB.out)) hb); clear HB; have HB := n0_; clear n0_; (try clear hb); (try clear hb2); (try clear hk); (try clear hi)) | ((with_reducible refine gate_callee (f := 11) rfl ?_); refine goesL_ (some 8) rfl rfl Tryd.func11 (by kernel_rfl) rfl #[.int .i64 a0] rfl (by (try simp only [List.map_toArray, List.map_cons, List.map_nil]); first | done | rfl | (simp only [List.length_drop, List.length_take]; rfl)) ?_; (with_reducible refine (length_Valid.calls a0 t119 _ A5.out).mono ?_); rintro e w' ⟨rfl, ⟨nd, rfl⟩⟩; refine ⟨_, rfl, ?_⟩) | ((with_reducible refine gate_callee (f := 12) rfl ?_); refine goesL_ (some 10) rfl rfl Tryd.func12 (by kernel_rfl) rfl #[.int .i64 a0] rfl (by (try simp only [List.map_toArray, List.map_cons, List.map_nil]); first | done | rfl | (simp only [List.length_drop, List.length_take]; rfl)) ?_; (with_reducible refine (vinculumref01_Valid.calls a0 t120 _ A6.out).mono ?_); rintro e w' ⟨rfl, ⟨nd, rfl⟩⟩; refine ⟨_, rfl, ?_⟩) | (go_at_call 13; (with_reducible refine (length_Scale.calls k a0 a1 t121 _ A8.out).mono ?_); rintro e w' ⟨rfl, ⟨nd, rfl⟩⟩) | (go_at_call 14; (with_reducible refine (vinculumref01_Scale.calls a0 a1 t122 _ A9.out).mono ?_); rintro e w' ⟨rfl, ⟨nd, rfl⟩⟩) | (go_at_call 15; (with_reducible refine (length_Half.calls k a0 t123 _ A11.out).mono ?_); rintro e w' ⟨rfl, ⟨nd, rfl⟩⟩) | (go_at_call 16; (with_reducible refine (vinculumref01_Half.calls a0 t124 _ A12.out).mono ?_); rintro e w' ⟨rfl, ⟨nd, rfl⟩⟩))
        go_ret
        exact ⟨by first | rfl | (simp [errW_none, errW_some] <;> rfl) | (simp [*, errW_none, errW_some] <;> rfl), by repeat (first | (with_reducible first | exact HB.out | apply below_alloc | apply pw_below_drewN | apply below_drew1) | exact HB.out)⟩
      · rw [if_neg c10] at H
        have c10b0 : (t121 == t122) = false := beq_eq_false_iff_ne.mpr c10
        have c10b1 : (t121 != t122) = true := bne_iff_ne.mpr c10
        obtain rfl := Option.some.inj H
        go_enter Tryd.func3, Tryd.ntmps3
        go_wp2_with (first | ((with_reducible refine gate_callee (f := 10) rfl ?_); refine goesL_ (some 5) rfl rfl Tryd.func10 (by kernel_rfl) rfl #[] rfl (by (try simp only [List.map_toArray, List.map_cons, List.map_nil]); first | done | rfl | (simp only [List.length_drop, List.length_take]; rfl)) ?_; (with_reducible refine (vinculumlaw01_awake.calls k  true _ ?side1 A3.out).mono ?_); (case side1 => first | exact HG.out | (with_reducible exact Gw.drewN HG.out _) | exact Gw.below HG.out (by repeat (first | (with_reducible first | exact HB.out | apply below_alloc | apply pw_below_drewN | apply below_drew1) | exact HB.out)) | ((repeat (first | (with_reducible exact HG.out) | (with_reducible apply Gw.drewN) | (with_reducible apply Gw.drew))); done)); rintro e w14 ⟨rfl, hb⟩; refine ⟨_, rfl, ?_⟩; have n0_ := Aside0.mk (below_step (by repeat (first | (with_reducible first | exact HB.out | apply below_alloc | apply pw_below_drewN | apply below_drew1) | exact HB.out)) hb); clear HB; have HB := n0_; clear n0_; (try clear hb); (try clear hb2); (try clear hk); (try clear hi)) | ((with_reducible refine gate_callee (f := 11) rfl ?_); refine goesL_ (some 8) rfl rfl Tryd.func11 (by kernel_rfl) rfl #[.int .i64 a0] rfl (by (try simp only [List.map_toArray, List.map_cons, List.map_nil]); first | done | rfl | (simp only [List.length_drop, List.length_take]; rfl)) ?_; (with_reducible refine (length_Valid.calls a0 t119 _ A5.out).mono ?_); rintro e w' ⟨rfl, ⟨nd, rfl⟩⟩; refine ⟨_, rfl, ?_⟩) | ((with_reducible refine gate_callee (f := 12) rfl ?_); refine goesL_ (some 10) rfl rfl Tryd.func12 (by kernel_rfl) rfl #[.int .i64 a0] rfl (by (try simp only [List.map_toArray, List.map_cons, List.map_nil]); first | done | rfl | (simp only [List.length_drop, List.length_take]; rfl)) ?_; (with_reducible refine (vinculumref01_Valid.calls a0 t120 _ A6.out).mono ?_); rintro e w' ⟨rfl, ⟨nd, rfl⟩⟩; refine ⟨_, rfl, ?_⟩) | (go_at_call 13; (with_reducible refine (length_Scale.calls k a0 a1 t121 _ A8.out).mono ?_); rintro e w' ⟨rfl, ⟨nd, rfl⟩⟩) | (go_at_call 14; (with_reducible refine (vinculumref01_Scale.calls a0 a1 t122 _ A9.out).mono ?_); rintro e w' ⟨rfl, ⟨nd, rfl⟩⟩))
        go_ret
        exact ⟨by first | rfl | (simp [errW_none, errW_some] <;> rfl) | (simp [*, errW_none, errW_some] <;> rfl), by repeat (first | (with_reducible first | exact HB.out | apply below_alloc | apply pw_below_drewN | apply below_drew1) | exact HB.out)⟩
    · rw [if_neg c7] at H
      have c7b0 : (t119 == t120) = false := by simpa using c7
      (try (have c7b1 : decide (t119 = t120) = false := by simpa using c7))
      (try (have c7b2 : (t119 == t120) = false := by simpa using c7))
      (try (have c7b3 : ¬ (t119 = t120) := by simpa using c7))
      clear c7
      obtain rfl := Option.some.inj H
      go_enter Tryd.func3, Tryd.ntmps3
      go_wp2_with (first | ((with_reducible refine gate_callee (f := 10) rfl ?_); refine goesL_ (some 5) rfl rfl Tryd.func10 (by kernel_rfl) rfl #[] rfl (by (try simp only [List.map_toArray, List.map_cons, List.map_nil]); first | done | rfl | (simp only [List.length_drop, List.length_take]; rfl)) ?_; (with_reducible refine (vinculumlaw01_awake.calls k  true _ ?side1 A3.out).mono ?_); (case side1 => first | exact HG.out | (with_reducible exact Gw.drewN HG.out _) | exact Gw.below HG.out (by repeat (first | (with_reducible first | exact HB.out | apply below_alloc | apply pw_below_drewN | apply below_drew1) | exact HB.out)) | ((repeat (first | (with_reducible exact HG.out) | (with_reducible apply Gw.drewN) | (with_reducible apply Gw.drew))); done)); rintro e w15 ⟨rfl, hb⟩; refine ⟨_, rfl, ?_⟩; have n0_ := Aside0.mk (below_step (by repeat (first | (with_reducible first | exact HB.out | apply below_alloc | apply pw_below_drewN | apply below_drew1) | exact HB.out)) hb); clear HB; have HB := n0_; clear n0_; (try clear hb); (try clear hb2); (try clear hk); (try clear hi)) | ((with_reducible refine gate_callee (f := 11) rfl ?_); refine goesL_ (some 8) rfl rfl Tryd.func11 (by kernel_rfl) rfl #[.int .i64 a0] rfl (by (try simp only [List.map_toArray, List.map_cons, List.map_nil]); first | done | rfl | (simp only [List.length_drop, List.length_take]; rfl)) ?_; (with_reducible refine (length_Valid.calls a0 t119 _ A5.out).mono ?_); rintro e w' ⟨rfl, ⟨nd, rfl⟩⟩; refine ⟨_, rfl, ?_⟩) | ((with_reducible refine gate_callee (f := 12) rfl ?_); refine goesL_ (some 10) rfl rfl Tryd.func12 (by kernel_rfl) rfl #[.int .i64 a0] rfl (by (try simp only [List.map_toArray, List.map_cons, List.map_nil]); first | done | rfl | (simp only [List.length_drop, List.length_take]; rfl)) ?_; (with_reducible refine (vinculumref01_Valid.calls a0 t120 _ A6.out).mono ?_); rintro e w' ⟨rfl, ⟨nd, rfl⟩⟩; refine ⟨_, rfl, ?_⟩))
      go_ret
      exact ⟨by first | rfl | (simp [errW_none, errW_some] <;> rfl) | (simp [*, errW_none, errW_some] <;> rfl), by repeat (first | (with_reducible first | exact HB.out | apply below_alloc | apply pw_below_drewN | apply below_drew1) | exact HB.out)⟩
  · replace c4 := Bool.eq_false_iff.mpr c4
    subst c4
    have H1 : (some false) = some r := by rw [if_neg (show ¬ (false = true) by decide)] at H; exact H
    clear H
    have H := H1
    clear H1
    obtain rfl := Option.some.inj H
    go_enter Tryd.func3, Tryd.ntmps3
    go_wp2_with (first | ((with_reducible refine gate_callee (f := 10) rfl ?_); refine goesL_ (some 5) rfl rfl Tryd.func10 (by kernel_rfl) rfl #[] rfl (by (try simp only [List.map_toArray, List.map_cons, List.map_nil]); first | done | rfl | (simp only [List.length_drop, List.length_take]; rfl)) ?_; (with_reducible refine (vinculumlaw01_awake.calls k  false _ ?side1 A3.out).mono ?_); (case side1 => first | exact HG.out | (with_reducible exact Gw.drewN HG.out _) | exact Gw.below HG.out (by repeat (first | (with_reducible first | exact HB.out | apply below_alloc | apply pw_below_drewN | apply below_drew1) | exact HB.out)) | ((repeat (first | (with_reducible exact HG.out) | (with_reducible apply Gw.drewN) | (with_reducible apply Gw.drew))); done)); rintro e w16 ⟨rfl, hb⟩; refine ⟨_, rfl, ?_⟩; have n0_ := Aside0.mk (below_step (by repeat (first | (with_reducible first | exact HB.out | apply below_alloc | apply pw_below_drewN | apply below_drew1) | exact HB.out)) hb); clear HB; have HB := n0_; clear n0_; (try clear hb); (try clear hb2); (try clear hk); (try clear hi)))
    go_ret
    exact ⟨by first | rfl | (simp [errW_none, errW_some] <;> rfl) | (simp [*, errW_none, errW_some] <;> rfl), by repeat (first | (with_reducible first | exact HB.out | apply below_alloc | apply pw_below_drewN | apply below_drew1) | exact HB.out)⟩

end Go.Proofs.YtignpfhlagfijaaDoor.X
