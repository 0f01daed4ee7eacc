-- Written by xprint.py, a program of this session, by way of the kit's print.py. Lean checks it.
import Derived.Test.YtignpfhlagfijaaDoorXx0
import Derived.Test.YtignpfhlagfijaaDoorXx1
import Derived.Test.YtignpfhlagfijaaDoorXx7
namespace Go.Proofs.YtignpfhlagfijaaDoor.X
open Go.Proofs.YtignpfhlagfijaaDoor.Gv
open Go.RowKit Go.Proofs.YtignpfhlagfijaaDoorW.PrintWords Go.Proofs.YtignpfhlagfijaaDoorW.PrintLast Go.Proofs.YtignpfhlagfijaaDoorW.PrintMore
attribute [local go_sem] max2_int min2_int max_two min_two max_three min_three max_four min_four   -- for this text's walks alone
set_option linter.unusedVariables false
set_option linter.unusedSimpArgs false

/-! ### vinculumref01_Parse: function 26 -/
mutual
def vinculumref01_Parse.j0 : Nat → ByteArray → Bool → Option (Int × Int)
  | 0, _, _ => none
  | k + 1, x0, x4 => if x4 = true then (if 1 ≤ (x0.size : Int) then (vinculumref01_Parse.j1 k (x0.extract 1 x0.size) x4) else (none)) else (vinculumref01_Parse.j1 k x0 x4)
def vinculumref01_Parse.j1 : Nat → ByteArray → Bool → Option (Int × Int)
  | 0, _, _ => none
  | k + 1, x0, x4 => (vinculumref01_run.f k x0).bind fun t226 => (if t226 = 0 then (vinculumref01_Parse.j2 k x0 x4 t226 true) else (if t226 > 1 then (if 0 < (x0.size : Int) then (vinculumref01_Parse.j2 k x0 x4 t226 ((bt x0 0) == 48)) else (none)) else (vinculumref01_Parse.j2 k x0 x4 t226 false)))
def vinculumref01_Parse.j2 : Nat → ByteArray → Bool → Int → Bool → Option (Int × Int)
  | 0, _, _, _, _ => none
  | k + 1, x0, x4, x5, x36 => if x36 = true then (some (0, 3)) else (if 0 ≤ x5 then (if x5 ≤ (x0.size : Int) then (if ((x0.extract (x5 : Int).toNat x0.size).size : Int) > 0 then (if 0 < ((x0.extract (x5 : Int).toNat x0.size).size : Int) then (vinculumref01_Parse.j3 k x4 (x0.extract 0 (x5 : Int).toNat) (x0.extract (x5 : Int).toNat x0.size) (⟨#[]⟩ : ByteArray) ((bt (x0.extract (x5 : Int).toNat x0.size) 0) == 46)) else (none)) else (vinculumref01_Parse.j3 k x4 (x0.extract 0 (x5 : Int).toNat) (x0.extract (x5 : Int).toNat x0.size) (⟨#[]⟩ : ByteArray) false)) else (none)) else (none))
def vinculumref01_Parse.j3 : Nat → Bool → ByteArray → ByteArray → ByteArray → Bool → Option (Int × Int)
  | 0, _, _, _, _, _ => none
  | k + 1, x4, x6, x7, x8, x50 => if x50 = true then (if 1 ≤ (x7.size : Int) then ((vinculumref01_run.f k (x7.extract 1 x7.size)).bind fun t227 => (if 1 ≤ (wrap64 (1 + t227)) then (if (wrap64 (1 + t227)) ≤ (x7.size : Int) then (if 0 ≤ (wrap64 (1 + t227)) then (if t227 < 1 then (some (0, 3)) else (if t227 > 3 then (some (0, 3)) else (if 0 ≤ (wrap64 (t227 - 1)) then (if (wrap64 (t227 - 1)) < ((x7.extract 1 ((wrap64 (1 + t227)) : Int).toNat).size : Int) then (if (bt (x7.extract 1 ((wrap64 (1 + t227)) : Int).toNat) (wrap64 (t227 - 1))) = 48 then (some (0, 3)) else (vinculumref01_Parse.j4 k x4 x6 (x7.extract ((wrap64 (1 + t227)) : Int).toNat x7.size) (x7.extract 1 ((wrap64 (1 + t227)) : Int).toNat))) else (none)) else (none)))) else (none)) else (none)) else (none))) else (none)) else (vinculumref01_Parse.j4 k x4 x6 x7 x8)
def vinculumref01_Parse.j4 : Nat → Bool → ByteArray → ByteArray → ByteArray → Option (Int × Int)
  | 0, _, _, _, _ => none
  | k + 1, x4, x6, x7, x8 => if x7.toList = ([112, 116] : List UInt8) then (if x4 = true then (if x6.toList = ([48] : List UInt8) then (vinculumref01_Parse.j5 k x4 x6 x8 (x8.toList == ([] : List UInt8))) else (vinculumref01_Parse.j5 k x4 x6 x8 false)) else (vinculumref01_Parse.j5 k x4 x6 x8 false)) else (vinculumref01_Parse.j5 k x4 x6 x8 true)
def vinculumref01_Parse.j5 : Nat → Bool → ByteArray → ByteArray → Bool → Option (Int × Int)
  | 0, _, _, _, _ => none
  | k + 1, x4, x6, x8, x87 => if x87 = true then (some (0, 3)) else (if (x6.size : Int) > 7 then (some (0, 2)) else (if x8.size + 3 ≤ 9223372036854775807 then (if 0 ≤ 3 then (if 3 ≤ ((x8 ++ (⟨#[48, 48, 48]⟩ : ByteArray)).size : Int) then (if x6.size + ((x8 ++ (⟨#[48, 48, 48]⟩ : ByteArray)).extract 0 3).size ≤ 9223372036854775807 then (vinculumref01_Parse.l0 k x4 0 (x6 ++ ((x8 ++ (⟨#[48, 48, 48]⟩ : ByteArray)).extract 0 3)) 0) else (none)) else (none)) else (none)) else (none)))
def vinculumref01_Parse.l0 : Nat → Bool → Int → ByteArray → Int → Option (Int × Int)
  | 0, _, _, _, _ => none
  | k + 1, x4, x10, x11, x12 => if x12 < (x11.size : Int) then (if 0 ≤ x12 then (vinculumref01_Parse.l0 k x4 (wrap64 ((wrap64 (10 * x10)) + (((bt x11 x12) - 48) % 256))) x11 (wrap64 (x12 + 1))) else (none)) else (if x4 = true then ((vinculumref01_Valid.f (wrap64 (-x10))).bind fun t228 => (if t228 = true then (some (wrap64 (-x10), 0)) else (some (0, 2)))) else ((vinculumref01_Valid.f x10).bind fun t229 => (if t229 = true then (some (x10, 0)) else (some (0, 2)))))
end
def vinculumref01_Parse.f (k : Nat) (a0 : ByteArray) : Option (Int × Int) := if (a0.size : Int) > 0 then (if 0 < (a0.size : Int) then (vinculumref01_Parse.j0 k a0 ((bt a0 0) == 45)) else (none)) else (vinculumref01_Parse.j0 k a0 false)
theorem vinculumref01_Parse.mono_l : ∀ k, (∀ y0 y1, LeO (vinculumref01_Parse.j0 k y0 y1) (vinculumref01_Parse.j0 (k + 1) y0 y1)) ∧ (∀ y0 y1, LeO (vinculumref01_Parse.j1 k y0 y1) (vinculumref01_Parse.j1 (k + 1) y0 y1)) ∧ (∀ y0 y1 y2 y3, LeO (vinculumref01_Parse.j2 k y0 y1 y2 y3) (vinculumref01_Parse.j2 (k + 1) y0 y1 y2 y3)) ∧ (∀ y0 y1 y2 y3 y4, LeO (vinculumref01_Parse.j3 k y0 y1 y2 y3 y4) (vinculumref01_Parse.j3 (k + 1) y0 y1 y2 y3 y4)) ∧ (∀ y0 y1 y2 y3, LeO (vinculumref01_Parse.j4 k y0 y1 y2 y3) (vinculumref01_Parse.j4 (k + 1) y0 y1 y2 y3)) ∧ (∀ y0 y1 y2 y3, LeO (vinculumref01_Parse.j5 k y0 y1 y2 y3) (vinculumref01_Parse.j5 (k + 1) y0 y1 y2 y3)) ∧ (∀ y0 y1 y2 y3, LeO (vinculumref01_Parse.l0 k y0 y1 y2 y3) (vinculumref01_Parse.l0 (k + 1) y0 y1 y2 y3))
  | 0 => ⟨fun _ _ r h => by simp [vinculumref01_Parse.j0] at h, fun _ _ r h => by simp [vinculumref01_Parse.j1] at h, fun _ _ _ _ r h => by simp [vinculumref01_Parse.j2] at h, fun _ _ _ _ _ r h => by simp [vinculumref01_Parse.j3] at h, fun _ _ _ _ r h => by simp [vinculumref01_Parse.j4] at h, fun _ _ _ _ r h => by simp [vinculumref01_Parse.j5] at h, fun _ _ _ _ r h => by simp [vinculumref01_Parse.l0] at h⟩
  | k + 1 => by
    obtain ⟨ih0, ih1, ih2, ih3, ih4, ih5, ih6⟩ := vinculumref01_Parse.mono_l k
    refine ⟨?_, ?_, ?_, ?_, ?_, ?_, ?_⟩
    · intro y0 y1
      unfold vinculumref01_Parse.j0
      repeat' first
      | (with_reducible exact ih0 _ _)
      | (with_reducible exact ih1 _ _)
      | (with_reducible exact ih2 _ _ _ _)
      | (with_reducible exact ih3 _ _ _ _ _)
      | (with_reducible exact ih4 _ _ _ _)
      | (with_reducible exact ih5 _ _ _ _)
      | (with_reducible exact ih6 _ _ _ _)
      | (with_reducible exact vinculumref01_run.mono _ _)
      | (with_reducible exact LeO.refl _)
      | (with_reducible exact LeO.none _)
      | (with_reducible refine LeO.ite ?_ ?_)
      | (with_reducible refine LeO.bind ?_ (fun _ => ?_))
      | exact ih0 _ _
      | exact ih1 _ _
      | exact ih2 _ _ _ _
      | exact ih3 _ _ _ _ _
      | exact ih4 _ _ _ _
      | exact ih5 _ _ _ _
      | exact ih6 _ _ _ _
      | exact vinculumref01_run.mono _ _
      | exact LeO.none _
      | refine LeO.ite ?_ ?_
      | refine LeO.bind ?_ (fun _ => ?_)
    · intro y0 y1
      unfold vinculumref01_Parse.j1
      repeat' first
      | (with_reducible exact ih0 _ _)
      | (with_reducible exact ih1 _ _)
      | (with_reducible exact ih2 _ _ _ _)
      | (with_reducible exact ih3 _ _ _ _ _)
      | (with_reducible exact ih4 _ _ _ _)
      | (with_reducible exact ih5 _ _ _ _)
      | (with_reducible exact ih6 _ _ _ _)
      | (with_reducible exact vinculumref01_run.mono _ _)
      | (with_reducible exact LeO.refl _)
      | (with_reducible exact LeO.none _)
      | (with_reducible refine LeO.ite ?_ ?_)
      | (with_reducible refine LeO.bind ?_ (fun _ => ?_))
      | exact ih0 _ _
      | exact ih1 _ _
      | exact ih2 _ _ _ _
      | exact ih3 _ _ _ _ _
      | exact ih4 _ _ _ _
      | exact ih5 _ _ _ _
      | exact ih6 _ _ _ _
      | exact vinculumref01_run.mono _ _
      | exact LeO.none _
      | refine LeO.ite ?_ ?_
      | refine LeO.bind ?_ (fun _ => ?_)
    · intro y0 y1 y2 y3
      unfold vinculumref01_Parse.j2
      repeat' first
      | (with_reducible exact ih0 _ _)
      | (with_reducible exact ih1 _ _)
      | (with_reducible exact ih2 _ _ _ _)
      | (with_reducible exact ih3 _ _ _ _ _)
      | (with_reducible exact ih4 _ _ _ _)
      | (with_reducible exact ih5 _ _ _ _)
      | (with_reducible exact ih6 _ _ _ _)
      | (with_reducible exact vinculumref01_run.mono _ _)
      | (with_reducible exact LeO.refl _)
      | (with_reducible exact LeO.none _)
      | (with_reducible refine LeO.ite ?_ ?_)
      | (with_reducible refine LeO.bind ?_ (fun _ => ?_))
      | exact ih0 _ _
      | exact ih1 _ _
      | exact ih2 _ _ _ _
      | exact ih3 _ _ _ _ _
      | exact ih4 _ _ _ _
      | exact ih5 _ _ _ _
      | exact ih6 _ _ _ _
      | exact vinculumref01_run.mono _ _
      | exact LeO.none _
      | refine LeO.ite ?_ ?_
      | refine LeO.bind ?_ (fun _ => ?_)
    · intro y0 y1 y2 y3 y4
      unfold vinculumref01_Parse.j3
      repeat' first
      | (with_reducible exact ih0 _ _)
      | (with_reducible exact ih1 _ _)
      | (with_reducible exact ih2 _ _ _ _)
      | (with_reducible exact ih3 _ _ _ _ _)
      | (with_reducible exact ih4 _ _ _ _)
      | (with_reducible exact ih5 _ _ _ _)
      | (with_reducible exact ih6 _ _ _ _)
      | (with_reducible exact vinculumref01_run.mono _ _)
      | (with_reducible exact LeO.refl _)
      | (with_reducible exact LeO.none _)
      | (with_reducible refine LeO.ite ?_ ?_)
      | (with_reducible refine LeO.bind ?_ (fun _ => ?_))
      | exact ih0 _ _
      | exact ih1 _ _
      | exact ih2 _ _ _ _
      | exact ih3 _ _ _ _ _
      | exact ih4 _ _ _ _
      | exact ih5 _ _ _ _
      | exact ih6 _ _ _ _
      | exact vinculumref01_run.mono _ _
      | exact LeO.none _
      | refine LeO.ite ?_ ?_
      | refine LeO.bind ?_ (fun _ => ?_)
    · intro y0 y1 y2 y3
      unfold vinculumref01_Parse.j4
      repeat' first
      | (with_reducible exact ih0 _ _)
      | (with_reducible exact ih1 _ _)
      | (with_reducible exact ih2 _ _ _ _)
      | (with_reducible exact ih3 _ _ _ _ _)
      | (with_reducible exact ih4 _ _ _ _)
      | (with_reducible exact ih5 _ _ _ _)
      | (with_reducible exact ih6 _ _ _ _)
      | (with_reducible exact vinculumref01_run.mono _ _)
      | (with_reducible exact LeO.refl _)
      | (with_reducible exact LeO.none _)
      | (with_reducible refine LeO.ite ?_ ?_)
      | (with_reducible refine LeO.bind ?_ (fun _ => ?_))
      | exact ih0 _ _
      | exact ih1 _ _
      | exact ih2 _ _ _ _
      | exact ih3 _ _ _ _ _
      | exact ih4 _ _ _ _
      | exact ih5 _ _ _ _
      | exact ih6 _ _ _ _
      | exact vinculumref01_run.mono _ _
      | exact LeO.none _
      | refine LeO.ite ?_ ?_
      | refine LeO.bind ?_ (fun _ => ?_)
    · intro y0 y1 y2 y3
      unfold vinculumref01_Parse.j5
      repeat' first
      | (with_reducible exact ih0 _ _)
      | (with_reducible exact ih1 _ _)
      | (with_reducible exact ih2 _ _ _ _)
      | (with_reducible exact ih3 _ _ _ _ _)
      | (with_reducible exact ih4 _ _ _ _)
      | (with_reducible exact ih5 _ _ _ _)
      | (with_reducible exact ih6 _ _ _ _)
      | (with_reducible exact vinculumref01_run.mono _ _)
      | (with_reducible exact LeO.refl _)
      | (with_reducible exact LeO.none _)
      | (with_reducible refine LeO.ite ?_ ?_)
      | (with_reducible refine LeO.bind ?_ (fun _ => ?_))
      | exact ih0 _ _
      | exact ih1 _ _
      | exact ih2 _ _ _ _
      | exact ih3 _ _ _ _ _
      | exact ih4 _ _ _ _
      | exact ih5 _ _ _ _
      | exact ih6 _ _ _ _
      | exact vinculumref01_run.mono _ _
      | exact LeO.none _
      | refine LeO.ite ?_ ?_
      | refine LeO.bind ?_ (fun _ => ?_)
    · intro y0 y1 y2 y3
      unfold vinculumref01_Parse.l0
      repeat' first
      | (with_reducible exact ih0 _ _)
      | (with_reducible exact ih1 _ _)
      | (with_reducible exact ih2 _ _ _ _)
      | (with_reducible exact ih3 _ _ _ _ _)
      | (with_reducible exact ih4 _ _ _ _)
      | (with_reducible exact ih5 _ _ _ _)
      | (with_reducible exact ih6 _ _ _ _)
      | (with_reducible exact vinculumref01_run.mono _ _)
      | (with_reducible exact LeO.refl _)
      | (with_reducible exact LeO.none _)
      | (with_reducible refine LeO.ite ?_ ?_)
      | (with_reducible refine LeO.bind ?_ (fun _ => ?_))
      | exact ih0 _ _
      | exact ih1 _ _
      | exact ih2 _ _ _ _
      | exact ih3 _ _ _ _ _
      | exact ih4 _ _ _ _
      | exact ih5 _ _ _ _
      | exact ih6 _ _ _ _
      | exact vinculumref01_run.mono _ _
      | exact LeO.none _
      | refine LeO.ite ?_ ?_
      | refine LeO.bind ?_ (fun _ => ?_)
theorem vinculumref01_Parse.mono : ∀ a0 k, LeO (vinculumref01_Parse.f k a0) (vinculumref01_Parse.f (k + 1) a0) := by
  intro a0 k
  obtain ⟨ih0, ih1, ih2, ih3, ih4, ih5, ih6⟩ := vinculumref01_Parse.mono_l k
  unfold vinculumref01_Parse.f
  repeat' first
      | (with_reducible exact ih0 _ _)
      | (with_reducible exact ih1 _ _)
      | (with_reducible exact ih2 _ _ _ _)
      | (with_reducible exact ih3 _ _ _ _ _)
      | (with_reducible exact ih4 _ _ _ _)
      | (with_reducible exact ih5 _ _ _ _)
      | (with_reducible exact ih6 _ _ _ _)
      | (with_reducible exact vinculumref01_run.mono _ _)
      | (with_reducible exact LeO.refl _)
      | (with_reducible exact LeO.none _)
      | (with_reducible refine LeO.ite ?_ ?_)
      | (with_reducible refine LeO.bind ?_ (fun _ => ?_))
      | exact ih0 _ _
      | exact ih1 _ _
      | exact ih2 _ _ _ _
      | exact ih3 _ _ _ _ _
      | exact ih4 _ _ _ _
      | exact ih5 _ _ _ _
      | exact ih6 _ _ _ _
      | exact vinculumref01_run.mono _ _
      | exact LeO.none _
      | refine LeO.ite ?_ ?_
      | refine LeO.bind ?_ (fun _ => ?_)
set_option maxHeartbeats 8000000 in
set_option maxRecDepth 100000 in
theorem vinculumref01_Parse.calls (k : Nat) (a0 : ByteArray) (r1 : Int) (r2 : Int) (w : World) (h : vinculumref01_Parse.f k a0 = some (r1, r2)) :
    Calls Tryd.prog 26 #[.string a0] w fun e w' => e = .returned (.tuple #[.int .i64 r1, .int .i64 r2]) ∧ Drawn0 w w' := by
  have H : (if (a0.size : Int) > 0 then (if 0 < (a0.size : Int) then (vinculumref01_Parse.j0 k a0 ((bt a0 0) == 45)) else (none)) else (vinculumref01_Parse.j0 k a0 false)) = some (r1, r2) := h
  clear h
  have HC2 := Aside0.mk H
  clear H
  go_enter Tryd.func26, Tryd.ntmps26
  go_upto_region 1 with (fail)
  repeat (go_quiet (fail); go_upto_region 1 with (fail))
  go_cut [4] (fun v4 wc => ∃ (kq : Nat) (x4_1 : Bool), v4 = .bool x4_1 ∧ Aside0 (vinculumref01_Parse.j0 kq a0 x4_1 = some (r1, r2)) ∧ Aside0 (kq ≤ k) ∧ Drawn0 w wc)
  case first =>
    have H := HC2.out
    clear HC2
    by_cases c3 : (a0.size : Int) > 0
    · rw [if_pos c3] at H
      have c3b0 : decide (0 < (a0.size : Int)) = true := decide_eq_true c3
      have c3b1 : decide (0 < a0.size) = true := decide_eq_true (by omega)
      clear c3
      (first | rw [c3b0] | (simp only [i64_w, i32_w]; rw [c3b0]) | skip)
      by_cases c4 : 0 < (a0.size : Int)
      · rw [if_pos c4] at H
        have c4b0 : decide (0 < (a0.size : Int)) = true := decide_eq_true c4
        have c4b1 : decide (0 < a0.size) = true := decide_eq_true (by omega)
        clear c4
        have H' := Aside0.mk H
        clear H
        have p5 : 0 ≤ (0 : Int) := (by omega)
        have q5 : 0 < a0.size := (by have : (0 : Int) < (a0.size : Int) := of_decide_eq_true (by first | (with_reducible assumption) | assumption); omega)
        have hx5 : ∀ h : 0 < a0.size, ((a0[0]'h).toNat : Int) = bt a0 0 := bt_at a0 0
        clear p5
        have qi5 : (0 < (a0.size : Int)) = True := eq_true (of_decide_eq_true (by first | (with_reducible assumption) | assumption))
        replace q5 := eq_true q5
        go_wp2
        repeat (go_quiet (fail); try go_wp2)
        go_meet
        case rel => exact ⟨_, (((bt a0 0) == 45)), (by first | rfl | (simp; done) | (simp [*]; done)), H', ⟨by first | omega | exact Nat.le_refl _⟩, by repeat (first | exact Drawn0.refl _ | apply Drawn0.step)⟩
      · rw [if_neg c4] at H
        exact absurd H (by simp)
    · rw [if_neg c3] at H
      have c3b0 : decide (0 < (a0.size : Int)) = false := decide_eq_false c3
      have c3b1 : decide (0 < a0.size) = false := decide_eq_false (by omega)
      clear c3
      (first | rw [c3b0] | (simp only [i64_w, i32_w]; rw [c3b0]) | skip)
      have H' := Aside0.mk H
      clear H
      go_wp2
      repeat (go_quiet (fail); try go_wp2)
      go_meet
      case rel => exact ⟨_, (false), (by first | rfl | (simp; done) | (simp [*]; done)), H', ⟨by first | omega | exact Nat.le_refl _⟩, by repeat (first | exact Drawn0.refl _ | apply Drawn0.step)⟩
  case rest =>
    clear HC2
    try clear c2
    try clear p2
    try clear c3
    try clear c3b0
    try clear c3b1
    try clear c4
    try clear c4b0
    try clear c4b1
    try clear p5
    try clear q5
    try clear hx5
    try clear qi5
    try clear p5
    try clear q5
    obtain ⟨kq, x4_1, rfl, HA, HJ1, ⟨mc1, rfl⟩⟩ := hcut
    cases kq with
    | zero => exact absurd HA.out (by simp [vinculumref01_Parse.j0])
    | succ kj1 =>
      have H := HA.out
      clear HA
      simp only [vinculumref01_Parse.j0] at H
      have HC6 := Aside0.mk H
      clear H
      go_upto_if 21 with (fail)
      repeat (go_quiet (fail); go_upto_if 21 with (fail))
      go_cut [0] (fun v0 wc => ∃ (kq : Nat) (x0_5 : ByteArray), v0 = .string x0_5 ∧ Aside0 (vinculumref01_Parse.j1 kq x0_5 x4_1 = some (r1, r2)) ∧ Aside0 (kq ≤ kj1) ∧ Drawn0 w wc)
      case first =>
        have H := HC6.out
        clear HC6
        by_cases c7 : x4_1 = true
        · subst c7
          have H1 : (if 1 ≤ (a0.size : Int) then (vinculumref01_Parse.j1 kj1 (a0.extract 1 a0.size) true) else (none)) = some (r1, r2) := by rw [if_pos rfl] at H; exact H
          clear H
          have H := H1
          clear H1
          by_cases c8 : 1 ≤ (a0.size : Int)
          · rw [if_pos c8] at H
            have c8b0 := eq_true c8
            have c8b1 : decide (1 ≤ (a0.size : Int)) = true := decide_eq_true c8
            clear c8
            have H' := Aside0.mk H
            clear H
            go_wp2
            repeat (go_quiet (fail); try go_wp2)
            go_meet
            case rel => exact ⟨_, (a0.extract 1 a0.size), (by first | rfl | (simp; done) | (simp [*]; done)), H', ⟨by have := HJ1.out; first | omega | exact Nat.le_refl _⟩, by repeat (first | exact Drawn0.refl _ | apply Drawn0.step)⟩
          · rw [if_neg c8] at H
            exact absurd H (by simp)
        · replace c7 := Bool.eq_false_iff.mpr c7
          subst c7
          have H1 : (vinculumref01_Parse.j1 kj1 a0 false) = some (r1, r2) := by rw [if_neg (show ¬ (false = true) by decide)] at H; exact H
          clear H
          have H := H1
          clear H1
          have H' := Aside0.mk H
          clear H
          go_wp2
          repeat (go_quiet (fail); try go_wp2)
          go_meet
          case rel => exact ⟨_, (a0), (by first | rfl | (simp; done) | (simp [*]; done)), H', ⟨by have := HJ1.out; first | omega | exact Nat.le_refl _⟩, by repeat (first | exact Drawn0.refl _ | apply Drawn0.step)⟩
      case rest =>
        clear HC6
        try clear c1
        try clear c2
        try clear p2
        try clear c3
        try clear c3b0
        try clear c3b1
        try clear c4
        try clear c4b0
        try clear c4b1
        try clear p5
        try clear q5
        try clear hx5
        try clear qi5
        try clear c7
        try clear c8
        try clear c8b0
        try clear c8b1
        try clear p2
        try clear p5
        try clear q5
        obtain ⟨kq, x0_5, rfl, HA, HJ5, ⟨mc5, rfl⟩⟩ := hcut
        cases kq with
        | zero => exact absurd HA.out (by simp [vinculumref01_Parse.j1])
        | succ kj5 =>
          have H := HA.out
          clear HA
          simp only [vinculumref01_Parse.j1] at H
          replace H := Option.bind_eq_some_iff.mp H
          obtain ⟨t226, A90, H⟩ := H
          replace H : (if t226 = 0 then (vinculumref01_Parse.j2 kj5 x0_5 x4_1 t226 true) else (if t226 > 1 then (if 0 < (x0_5.size : Int) then (vinculumref01_Parse.j2 kj5 x0_5 x4_1 t226 ((bt x0_5 0) == 48)) else (none)) else (vinculumref01_Parse.j2 kj5 x0_5 x4_1 t226 false))) = some (r1, r2) := H
          have A9 := Aside0.mk A90
          clear A90
          have HC10 := Aside0.mk H
          clear H
          go_upto_region 5 with (first | (go_at_call 38; (with_reducible refine (vinculumref01_run.calls kj5 x0_5 t226 _ A9.out).mono ?_); rintro e w' ⟨rfl, ⟨nd, rfl⟩⟩; (try first | exact ⟨rfl, _, World.drewN_drewN _ _ _⟩ | exact ⟨rfl, _, Eq.trans (World.drewN_drewN _ _ _) (congrArg (World.drewN _) (Nat.add_assoc _ _ _))⟩)))
          repeat (go_quiet (first | (go_at_call 38; (with_reducible refine (vinculumref01_run.calls kj5 x0_5 t226 _ A9.out).mono ?_); rintro e w' ⟨rfl, ⟨nd, rfl⟩⟩; (try first | exact ⟨rfl, _, World.drewN_drewN _ _ _⟩ | exact ⟨rfl, _, Eq.trans (World.drewN_drewN _ _ _) (congrArg (World.drewN _) (Nat.add_assoc _ _ _))⟩))); go_upto_region 5 with (first | (go_at_call 38; (with_reducible refine (vinculumref01_run.calls kj5 x0_5 t226 _ A9.out).mono ?_); rintro e w' ⟨rfl, ⟨nd, rfl⟩⟩; (try first | exact ⟨rfl, _, World.drewN_drewN _ _ _⟩ | exact ⟨rfl, _, Eq.trans (World.drewN_drewN _ _ _) (congrArg (World.drewN _) (Nat.add_assoc _ _ _))⟩))))
          (try simp only [Act.put, List.setIfInBounds_toArray, List.set_cons_zero, List.set_cons_succ])
          go_cut [36] (fun v36 wc => ∃ (kq : Nat) (x36_9 : Bool), v36 = .bool x36_9 ∧ Aside0 (vinculumref01_Parse.j2 kq x0_5 x4_1 t226 x36_9 = some (r1, r2)) ∧ Aside0 (kq ≤ kj5) ∧ Drawn0 w wc)
          case first =>
            have H := HC10.out
            clear HC10
            by_cases c11 : t226 = 0
            · rw [if_pos c11] at H
              have c11b0 : (t226 == 0) = true := beq_iff_eq.mpr c11
              have c11b1 : (t226 != 0) = false := bne_eq_false_iff_eq.mpr c11
              clear c11
              (first | rw [c11b0] | (simp only [i64_w, i32_w]; rw [c11b0]) | skip)
              have H' := Aside0.mk H
              clear H
              go_wp2
              repeat (go_quiet (fail); try go_wp2)
              go_meet
              case rel => exact ⟨_, (true), (by first | rfl | (simp; done) | (simp [*]; done)), H', ⟨by have := HJ1.out; have := HJ5.out; first | omega | exact Nat.le_refl _⟩, by repeat (first | exact Drawn0.refl _ | apply Drawn0.step)⟩
            · rw [if_neg c11] at H
              have c11b0 : (t226 == 0) = false := beq_eq_false_iff_ne.mpr c11
              have c11b1 : (t226 != 0) = true := bne_iff_ne.mpr c11
              (first | rw [c11b0] | (simp only [i64_w, i32_w]; rw [c11b0]) | skip)
              by_cases c12 : t226 > 1
              · rw [if_pos c12] at H
                have c12b0 : decide (1 < t226) = true := decide_eq_true c12
                clear c12
                by_cases c13 : 0 < (x0_5.size : Int)
                · rw [if_pos c13] at H
                  have c13b0 : decide (0 < (x0_5.size : Int)) = true := decide_eq_true c13
                  have c13b1 : decide (0 < x0_5.size) = true := decide_eq_true (by omega)
                  clear c13
                  have H' := Aside0.mk H
                  clear H
                  have p14 : 0 ≤ (0 : Int) := (by omega)
                  have q14 : 0 < x0_5.size := (by have : (0 : Int) < (x0_5.size : Int) := of_decide_eq_true (by first | (with_reducible assumption) | assumption); omega)
                  have hx14 : ∀ h : 0 < x0_5.size, ((x0_5[0]'h).toNat : Int) = bt x0_5 0 := bt_at x0_5 0
                  clear p14
                  have qi14 : (0 < (x0_5.size : Int)) = True := eq_true (of_decide_eq_true (by first | (with_reducible assumption) | assumption))
                  replace q14 := eq_true q14
                  go_wp2
                  repeat (go_quiet (fail); try go_wp2)
                  go_meet
                  case rel => exact ⟨_, (((bt x0_5 0) == 48)), (by first | rfl | (simp; done) | (simp [*]; done)), H', ⟨by have := HJ1.out; have := HJ5.out; first | omega | exact Nat.le_refl _⟩, by repeat (first | exact Drawn0.refl _ | apply Drawn0.step)⟩
                · rw [if_neg c13] at H
                  exact absurd H (by simp)
              · rw [if_neg c12] at H
                have c12b0 : decide (1 < t226) = false := decide_eq_false c12
                clear c12
                have H' := Aside0.mk H
                clear H
                go_wp2
                repeat (go_quiet (fail); try go_wp2)
                go_meet
                case rel => exact ⟨_, (false), (by first | rfl | (simp; done) | (simp [*]; done)), H', ⟨by have := HJ1.out; have := HJ5.out; first | omega | exact Nat.le_refl _⟩, by repeat (first | exact Drawn0.refl _ | apply Drawn0.step)⟩
          case rest =>
            clear HC10
            try clear c1
            try clear p1
            try clear q1
            try clear hx1
            try clear qi1
            try clear c2
            try clear p2
            try clear c3
            try clear c3b0
            try clear c3b1
            try clear c4
            try clear c4b0
            try clear c4b1
            try clear c5
            try clear p5
            try clear q5
            try clear hx5
            try clear qi5
            try clear c7
            try clear c8
            try clear c8b0
            try clear c8b1
            try clear c11
            try clear c11b0
            try clear c11b1
            try clear c12
            try clear c12b0
            try clear c13
            try clear c13b0
            try clear c13b1
            try clear p14
            try clear q14
            try clear hx14
            try clear qi14
            try clear p14
            try clear p2
            try clear p5
            try clear q14
            try clear q5
            obtain ⟨kq, x36_9, rfl, HA, HJ9, ⟨mc9, rfl⟩⟩ := hcut
            cases kq with
            | zero => exact absurd HA.out (by simp [vinculumref01_Parse.j2])
            | succ kj9 =>
              have H := HA.out
              clear HA
              simp only [vinculumref01_Parse.j2] at H
              by_cases c15 : x36_9 = true
              · subst c15
                have H1 : (some (0, 3)) = some (r1, r2) := by rw [if_pos rfl] at H; exact H
                clear H
                have H := H1
                clear H1
                simp only [Option.some.injEq, Prod.mk.injEq] at H
                obtain ⟨rfl, rfl⟩ := H
                go_wp2
                repeat (go_quiet (fail); try go_wp2)
                go_ret2
                exact ⟨by first | rfl | (simp; done) | (simp [*]; done), by repeat (first | exact Drawn0.refl _ | apply Drawn0.step)⟩
              · replace c15 := Bool.eq_false_iff.mpr c15
                subst c15
                have H1 : (if 0 ≤ t226 then (if t226 ≤ (x0_5.size : Int) then (if ((x0_5.extract (t226 : Int).toNat x0_5.size).size : Int) > 0 then (if 0 < ((x0_5.extract (t226 : Int).toNat x0_5.size).size : Int) then (vinculumref01_Parse.j3 kj9 x4_1 (x0_5.extract 0 (t226 : Int).toNat) (x0_5.extract (t226 : Int).toNat x0_5.size) (⟨#[]⟩ : ByteArray) ((bt (x0_5.extract (t226 : Int).toNat x0_5.size) 0) == 46)) else (none)) else (vinculumref01_Parse.j3 kj9 x4_1 (x0_5.extract 0 (t226 : Int).toNat) (x0_5.extract (t226 : Int).toNat x0_5.size) (⟨#[]⟩ : ByteArray) false)) else (none)) else (none)) = some (r1, r2) := by rw [if_neg (show ¬ (false = true) by decide)] at H; exact H
                clear H
                have H := H1
                clear H1
                by_cases c16 : 0 ≤ t226
                · rw [if_pos c16] at H
                  have c16b0 := eq_true c16
                  have c16b1 : decide (0 ≤ t226) = true := decide_eq_true c16
                  clear c16
                  by_cases c17 : t226 ≤ (x0_5.size : Int)
                  · rw [if_pos c17] at H
                    have c17b0 := eq_true c17
                    have c17b1 : decide (t226 ≤ (x0_5.size : Int)) = true := decide_eq_true c17
                    clear c17
                    have c18b0 := eq_true (of_decide_eq_true (by first | (with_reducible assumption) | assumption) : 0 ≤ t226)
                    have c19b0 := eq_true (of_decide_eq_true (by first | (with_reducible assumption) | assumption) : t226 ≤ (x0_5.size : Int))
                    have HC20 := Aside0.mk H
                    clear H
                    go_upto_region 9 with (fail)
                    repeat (go_quiet (fail); go_upto_region 9 with (fail))
                    go_cut [50] (fun v50 wc => ∃ (kq : Nat) (x50_19 : Bool), v50 = .bool x50_19 ∧ Aside0 (vinculumref01_Parse.j3 kq x4_1 (x0_5.extract 0 (t226 : Int).toNat) (x0_5.extract (t226 : Int).toNat x0_5.size) (⟨#[]⟩ : ByteArray) x50_19 = some (r1, r2)) ∧ Aside0 (kq ≤ kj9) ∧ Drawn0 w wc)
                    case first =>
                      have H := HC20.out
                      clear HC20
                      by_cases c21 : ((x0_5.extract (t226 : Int).toNat x0_5.size).size : Int) > 0
                      · rw [if_pos c21] at H
                        have c21b0 : decide (0 < ((x0_5.extract (t226 : Int).toNat x0_5.size).size : Int)) = true := decide_eq_true c21
                        try (have c21b0n := c21b0; simp only [ByteArray.size_extract, Nat.min_self, Nat.sub_zero, ByteArray.size_append] at c21b0n)
                        have c21b1 : decide (0 < (x0_5.extract (t226 : Int).toNat x0_5.size).size) = true := decide_eq_true (by omega)
                        try (have c21b1n := c21b1; simp only [ByteArray.size_extract, Nat.min_self, Nat.sub_zero, ByteArray.size_append] at c21b1n)
                        clear c21
                        (first | rw [c21b0] | (simp only [i64_w, i32_w]; rw [c21b0]) | skip)
                        by_cases c22 : 0 < ((x0_5.extract (t226 : Int).toNat x0_5.size).size : Int)
                        · rw [if_pos c22] at H
                          have c22b0 : decide (0 < ((x0_5.extract (t226 : Int).toNat x0_5.size).size : Int)) = true := decide_eq_true c22
                          try (have c22b0n := c22b0; simp only [ByteArray.size_extract, Nat.min_self, Nat.sub_zero, ByteArray.size_append] at c22b0n)
                          have c22b1 : decide (0 < (x0_5.extract (t226 : Int).toNat x0_5.size).size) = true := decide_eq_true (by omega)
                          try (have c22b1n := c22b1; simp only [ByteArray.size_extract, Nat.min_self, Nat.sub_zero, ByteArray.size_append] at c22b1n)
                          clear c22
                          have H' := Aside0.mk H
                          clear H
                          have p23 : 0 ≤ (0 : Int) := (by omega)
                          have q23 : 0 < (x0_5.extract (t226 : Int).toNat x0_5.size).size := (by have : (0 : Int) < ((x0_5.extract (t226 : Int).toNat x0_5.size).size : Int) := of_decide_eq_true (by first | (with_reducible assumption) | assumption); omega)
                          have hx23 : ∀ h : 0 < (x0_5.extract (t226 : Int).toNat x0_5.size).size, (((x0_5.extract (t226 : Int).toNat x0_5.size)[0]'h).toNat : Int) = bt (x0_5.extract (t226 : Int).toNat x0_5.size) 0 := bt_at (x0_5.extract (t226 : Int).toNat x0_5.size) 0
                          clear p23
                          have qi23 : (0 < ((x0_5.extract (t226 : Int).toNat x0_5.size).size : Int)) = True := eq_true (of_decide_eq_true (by first | (with_reducible assumption) | assumption))
                          replace q23 := eq_true q23
                          try generalize hY24 : x0_5.extract 0 (t226 : Int).toNat = Y24 at *
                          try generalize hY25 : x0_5.extract (t226 : Int).toNat x0_5.size = Y25 at *
                          go_wp2
                          repeat (go_quiet (fail); try go_wp2)
                          all_goals (try subst hY25)
                          all_goals (try subst hY24)
                          go_meet
                          case rel => exact ⟨_, (((bt (x0_5.extract (t226 : Int).toNat x0_5.size) 0) == 46)), (by first | rfl | (simp; done) | (simp [*]; done)), H', ⟨by have := HJ1.out; have := HJ5.out; have := HJ9.out; first | omega | exact Nat.le_refl _⟩, by repeat (first | exact Drawn0.refl _ | apply Drawn0.step)⟩
                        · rw [if_neg c22] at H
                          exact absurd H (by simp)
                      · rw [if_neg c21] at H
                        have c21b0 : decide (0 < ((x0_5.extract (t226 : Int).toNat x0_5.size).size : Int)) = false := decide_eq_false c21
                        try (have c21b0n := c21b0; simp only [ByteArray.size_extract, Nat.min_self, Nat.sub_zero, ByteArray.size_append] at c21b0n)
                        have c21b1 : decide (0 < (x0_5.extract (t226 : Int).toNat x0_5.size).size) = false := decide_eq_false (by omega)
                        try (have c21b1n := c21b1; simp only [ByteArray.size_extract, Nat.min_self, Nat.sub_zero, ByteArray.size_append] at c21b1n)
                        clear c21
                        (first | rw [c21b0] | (simp only [i64_w, i32_w]; rw [c21b0]) | skip)
                        have H' := Aside0.mk H
                        clear H
                        try generalize hY26 : x0_5.extract 0 (t226 : Int).toNat = Y26 at *
                        try generalize hY27 : x0_5.extract (t226 : Int).toNat x0_5.size = Y27 at *
                        go_wp2
                        repeat (go_quiet (fail); try go_wp2)
                        all_goals (try subst hY27)
                        all_goals (try subst hY26)
                        go_meet
                        case rel => exact ⟨_, (false), (by first | rfl | (simp; done) | (simp [*]; done)), H', ⟨by have := HJ1.out; have := HJ5.out; have := HJ9.out; first | omega | exact Nat.le_refl _⟩, by repeat (first | exact Drawn0.refl _ | apply Drawn0.step)⟩
                    case rest =>
                      clear HC20
                      try clear c1
                      try clear p1
                      try clear q1
                      try clear hx1
                      try clear qi1
                      try clear c2
                      try clear p2
                      try clear q2
                      try clear hx2
                      try clear qi2
                      try clear c3
                      try clear c3b0
                      try clear c3b1
                      try clear c4
                      try clear c4b0
                      try clear c4b1
                      try clear c5
                      try clear p5
                      try clear q5
                      try clear hx5
                      try clear qi5
                      try clear c7
                      try clear c8
                      try clear c8b0
                      try clear c8b1
                      try clear c9
                      try clear c11
                      try clear c11b0
                      try clear c11b1
                      try clear c12
                      try clear c12b0
                      try clear c13
                      try clear c13b0
                      try clear c13b1
                      try clear p14
                      try clear q14
                      try clear hx14
                      try clear qi14
                      try clear c15
                      try clear c16
                      try clear c16b0
                      try clear c16b1
                      try clear c17
                      try clear c17b0
                      try clear c17b1
                      try clear c18
                      try clear c18b0
                      try clear c19
                      try clear c19b0
                      try clear c21
                      try clear c21b0
                      try clear c21b1
                      try clear c22
                      try clear c22b0
                      try clear c22b1
                      try clear p23
                      try clear q23
                      try clear hx23
                      try clear qi23
                      try clear c26
                      try clear p1
                      try clear p14
                      try clear p2
                      try clear p23
                      try clear p5
                      try clear q1
                      try clear q14
                      try clear q23
                      try clear q5
                      obtain ⟨kq, x50_19, rfl, HA, HJ19, ⟨mc19, rfl⟩⟩ := hcut
                      cases kq with
                      | zero => exact absurd HA.out (by simp [vinculumref01_Parse.j3])
                      | succ kj19 =>
                        have H := HA.out
                        clear HA
                        simp only [vinculumref01_Parse.j3] at H
                        have HC28 := Aside0.mk H
                        clear H
                        go_upto_if 50 with (fail)
                        repeat (go_quiet (fail); go_upto_if 50 with (fail))
                        go_cut [7, 8] (fun v7 v8 wc => ∃ (kq : Nat) (x7_27 : ByteArray) (x8_27 : ByteArray), v7 = .string x7_27 ∧ v8 = .string x8_27 ∧ Aside0 (vinculumref01_Parse.j4 kq x4_1 (x0_5.extract 0 (t226 : Int).toNat) x7_27 x8_27 = some (r1, r2)) ∧ Aside0 (kq ≤ kj19) ∧ Drawn0 w wc)
                        case first =>
                          have H := HC28.out
                          clear HC28
                          by_cases c29 : x50_19 = true
                          · subst c29
                            have H1 : (if 1 ≤ ((x0_5.extract (t226 : Int).toNat x0_5.size).size : Int) then ((vinculumref01_run.f kj19 ((x0_5.extract (t226 : Int).toNat x0_5.size).extract 1 (x0_5.extract (t226 : Int).toNat x0_5.size).size)).bind fun t227 => (if 1 ≤ (wrap64 (1 + t227)) then (if (wrap64 (1 + t227)) ≤ ((x0_5.extract (t226 : Int).toNat x0_5.size).size : Int) then (if 0 ≤ (wrap64 (1 + t227)) then (if t227 < 1 then (some (0, 3)) else (if t227 > 3 then (some (0, 3)) else (if 0 ≤ (wrap64 (t227 - 1)) then (if (wrap64 (t227 - 1)) < (((x0_5.extract (t226 : Int).toNat x0_5.size).extract 1 ((wrap64 (1 + t227)) : Int).toNat).size : Int) then (if (bt ((x0_5.extract (t226 : Int).toNat x0_5.size).extract 1 ((wrap64 (1 + t227)) : Int).toNat) (wrap64 (t227 - 1))) = 48 then (some (0, 3)) else (vinculumref01_Parse.j4 kj19 x4_1 (x0_5.extract 0 (t226 : Int).toNat) ((x0_5.extract (t226 : Int).toNat x0_5.size).extract ((wrap64 (1 + t227)) : Int).toNat (x0_5.extract (t226 : Int).toNat x0_5.size).size) ((x0_5.extract (t226 : Int).toNat x0_5.size).extract 1 ((wrap64 (1 + t227)) : Int).toNat))) else (none)) else (none)))) else (none)) else (none)) else (none))) else (none)) = some (r1, r2) := by rw [if_pos rfl] at H; exact H
                            clear H
                            have H := H1
                            clear H1
                            by_cases c30 : 1 ≤ ((x0_5.extract (t226 : Int).toNat x0_5.size).size : Int)
                            · rw [if_pos c30] at H
                              have c30b0 := eq_true c30
                              have c30b1 : decide (1 ≤ ((x0_5.extract (t226 : Int).toNat x0_5.size).size : Int)) = true := decide_eq_true c30
                              try (have c30b1n := c30b1; simp only [ByteArray.size_extract, Nat.min_self, Nat.sub_zero, ByteArray.size_append] at c30b1n)
                              clear c30
                              replace H := Option.bind_eq_some_iff.mp H
                              obtain ⟨t227, A310, H⟩ := H
                              replace H : (if 1 ≤ (wrap64 (1 + t227)) then (if (wrap64 (1 + t227)) ≤ ((x0_5.extract (t226 : Int).toNat x0_5.size).size : Int) then (if 0 ≤ (wrap64 (1 + t227)) then (if t227 < 1 then (some (0, 3)) else (if t227 > 3 then (some (0, 3)) else (if 0 ≤ (wrap64 (t227 - 1)) then (if (wrap64 (t227 - 1)) < (((x0_5.extract (t226 : Int).toNat x0_5.size).extract 1 ((wrap64 (1 + t227)) : Int).toNat).size : Int) then (if (bt ((x0_5.extract (t226 : Int).toNat x0_5.size).extract 1 ((wrap64 (1 + t227)) : Int).toNat) (wrap64 (t227 - 1))) = 48 then (some (0, 3)) else (vinculumref01_Parse.j4 kj19 x4_1 (x0_5.extract 0 (t226 : Int).toNat) ((x0_5.extract (t226 : Int).toNat x0_5.size).extract ((wrap64 (1 + t227)) : Int).toNat (x0_5.extract (t226 : Int).toNat x0_5.size).size) ((x0_5.extract (t226 : Int).toNat x0_5.size).extract 1 ((wrap64 (1 + t227)) : Int).toNat))) else (none)) else (none)))) else (none)) else (none)) else (none)) = some (r1, r2) := H
                              have A31 := Aside0.mk A310
                              clear A310
                              by_cases c32 : 1 ≤ (wrap64 (1 + t227))
                              · rw [if_pos c32] at H
                                have c32b0 := eq_true c32
                                have c32b1 : decide (1 ≤ (wrap64 (1 + t227))) = true := decide_eq_true c32
                                by_cases c33 : (wrap64 (1 + t227)) ≤ ((x0_5.extract (t226 : Int).toNat x0_5.size).size : Int)
                                · rw [if_pos c33] at H
                                  have c33b0 := eq_true c33
                                  have c33b1 : decide ((wrap64 (1 + t227)) ≤ ((x0_5.extract (t226 : Int).toNat x0_5.size).size : Int)) = true := decide_eq_true c33
                                  try (have c33b1n := c33b1; simp only [ByteArray.size_extract, Nat.min_self, Nat.sub_zero, ByteArray.size_append] at c33b1n)
                                  obtain ⟨ji34, hji34⟩ : ∃ j_ : Int, (wrap64 (1 + t227)) = j_ := ⟨_, rfl⟩
                                  replace H : (if 0 ≤ (ji34) then (if t227 < 1 then (some (0, 3)) else (if t227 > 3 then (some (0, 3)) else (if 0 ≤ (wrap64 (t227 - 1)) then (if (wrap64 (t227 - 1)) < (((x0_5.extract (t226 : Int).toNat x0_5.size).extract 1 ((ji34) : Int).toNat).size : Int) then (if (bt ((x0_5.extract (t226 : Int).toNat x0_5.size).extract 1 ((ji34) : Int).toNat) (wrap64 (t227 - 1))) = 48 then (some (0, 3)) else (vinculumref01_Parse.j4 kj19 x4_1 (x0_5.extract 0 (t226 : Int).toNat) ((x0_5.extract (t226 : Int).toNat x0_5.size).extract ((ji34) : Int).toNat (x0_5.extract (t226 : Int).toNat x0_5.size).size) ((x0_5.extract (t226 : Int).toNat x0_5.size).extract 1 ((ji34) : Int).toNat))) else (none)) else (none)))) else (none)) = some (r1, r2) := by first | (rw [hji34] at H; exact H) | (simp only [hji34] at H ⊢; exact H)
                                  (try rw [hji34] at c32b0)
                                  (try rw [hji34] at c32b1)
                                  (try rw [hji34] at c32)
                                  (try rw [hji34] at c33b0)
                                  (try rw [hji34] at c33b1)
                                  (try rw [hji34] at c33)
                                  (try rw [hji34] at A31)
                                  have hji34w : (IntKind.i64.wrap (1 + t227)) = ji34 := (i64_w _).trans hji34
                                  by_cases c35 : 0 ≤ (ji34)
                                  · rw [if_pos c35] at H
                                    have c35b0 := eq_true c35
                                    have c35b1 : decide (0 ≤ (ji34)) = true := decide_eq_true c35
                                    clear c35
                                    have c36b0 := eq_true (of_decide_eq_true (by first | (with_reducible assumption) | assumption) : (ji34) ≤ ((x0_5.extract (t226 : Int).toNat x0_5.size).size : Int))
                                    try (have c36b0n := c36b0; simp only [ByteArray.size_extract, Nat.min_self, Nat.sub_zero, ByteArray.size_append] at c36b0n)
                                    by_cases c37 : t227 < 1
                                    · rw [if_pos c37] at H
                                      have c37b0 : decide (t227 < 1) = true := decide_eq_true c37
                                      clear c37
                                      (first | rw [c37b0] | (simp only [i64_w, i32_w]; rw [c37b0]) | skip)
                                      simp only [Option.some.injEq, Prod.mk.injEq] at H
                                      obtain ⟨rfl, rfl⟩ := H
                                      try generalize hY38 : x0_5.extract 0 (t226 : Int).toNat = Y38 at *
                                      try generalize hY39 : x0_5.extract (t226 : Int).toNat x0_5.size = Y39 at *
                                      try generalize hY40 : Y39.extract 1 ((ji34) : Int).toNat = Y40 at *
                                      try generalize hY41 : Y39.extract 1 ((wrap64 (1 + t227)) : Int).toNat = Y41 at *
                                      try generalize hY42 : Y39.extract 1 Y39.size = Y42 at *
                                      try generalize hY43 : Y39.extract ((ji34) : Int).toNat Y39.size = Y43 at *
                                      try generalize hY44 : Y39.extract ((wrap64 (1 + t227)) : Int).toNat Y39.size = Y44 at *
                                      go_wp2_with (first | (go_at_call 38; (with_reducible refine (vinculumref01_run.calls kj19 Y42 t227 _ A31.out).mono ?_); rintro e w' ⟨rfl, ⟨nd, rfl⟩⟩; (try first | exact ⟨rfl, _, World.drewN_drewN _ _ _⟩ | exact ⟨rfl, _, Eq.trans (World.drewN_drewN _ _ _) (congrArg (World.drewN _) (Nat.add_assoc _ _ _))⟩)))
                                      repeat (go_quiet (first | (go_at_call 38; (with_reducible refine (vinculumref01_run.calls kj19 Y42 t227 _ A31.out).mono ?_); rintro e w' ⟨rfl, ⟨nd, rfl⟩⟩; (try first | exact ⟨rfl, _, World.drewN_drewN _ _ _⟩ | exact ⟨rfl, _, Eq.trans (World.drewN_drewN _ _ _) (congrArg (World.drewN _) (Nat.add_assoc _ _ _))⟩))); try go_wp2_with (first | (go_at_call 38; (with_reducible refine (vinculumref01_run.calls kj19 Y42 t227 _ A31.out).mono ?_); rintro e w' ⟨rfl, ⟨nd, rfl⟩⟩; (try first | exact ⟨rfl, _, World.drewN_drewN _ _ _⟩ | exact ⟨rfl, _, Eq.trans (World.drewN_drewN _ _ _) (congrArg (World.drewN _) (Nat.add_assoc _ _ _))⟩))))
                                      all_goals (try subst hY44)
                                      all_goals (try subst hY43)
                                      all_goals (try subst hY42)
                                      all_goals (try subst hY41)
                                      all_goals (try subst hY40)
                                      all_goals (try subst hY39)
                                      all_goals (try subst hY38)
                                      go_ret2
                                      exact ⟨by first | rfl | (simp; done) | (simp only [← hji34] <;> (first | rfl | simp)) | (simp [*]; done), by repeat (first | exact Drawn0.refl _ | apply Drawn0.step)⟩
                                    · rw [if_neg c37] at H
                                      have c37b0 : decide (t227 < 1) = false := decide_eq_false c37
                                      clear c37
                                      (first | rw [c37b0] | (simp only [i64_w, i32_w]; rw [c37b0]) | skip)
                                      by_cases c45 : t227 > 3
                                      · rw [if_pos c45] at H
                                        have c45b0 : decide (3 < t227) = true := decide_eq_true c45
                                        clear c45
                                        simp only [Option.some.injEq, Prod.mk.injEq] at H
                                        obtain ⟨rfl, rfl⟩ := H
                                        try generalize hY46 : x0_5.extract 0 (t226 : Int).toNat = Y46 at *
                                        try generalize hY47 : x0_5.extract (t226 : Int).toNat x0_5.size = Y47 at *
                                        try generalize hY48 : Y47.extract 1 ((ji34) : Int).toNat = Y48 at *
                                        try generalize hY49 : Y47.extract 1 ((wrap64 (1 + t227)) : Int).toNat = Y49 at *
                                        try generalize hY50 : Y47.extract 1 Y47.size = Y50 at *
                                        try generalize hY51 : Y47.extract ((ji34) : Int).toNat Y47.size = Y51 at *
                                        try generalize hY52 : Y47.extract ((wrap64 (1 + t227)) : Int).toNat Y47.size = Y52 at *
                                        go_wp2_with (first | (go_at_call 38; (with_reducible refine (vinculumref01_run.calls kj19 Y50 t227 _ A31.out).mono ?_); rintro e w' ⟨rfl, ⟨nd, rfl⟩⟩; (try first | exact ⟨rfl, _, World.drewN_drewN _ _ _⟩ | exact ⟨rfl, _, Eq.trans (World.drewN_drewN _ _ _) (congrArg (World.drewN _) (Nat.add_assoc _ _ _))⟩)))
                                        repeat (go_quiet (first | (go_at_call 38; (with_reducible refine (vinculumref01_run.calls kj19 Y50 t227 _ A31.out).mono ?_); rintro e w' ⟨rfl, ⟨nd, rfl⟩⟩; (try first | exact ⟨rfl, _, World.drewN_drewN _ _ _⟩ | exact ⟨rfl, _, Eq.trans (World.drewN_drewN _ _ _) (congrArg (World.drewN _) (Nat.add_assoc _ _ _))⟩))); try go_wp2_with (first | (go_at_call 38; (with_reducible refine (vinculumref01_run.calls kj19 Y50 t227 _ A31.out).mono ?_); rintro e w' ⟨rfl, ⟨nd, rfl⟩⟩; (try first | exact ⟨rfl, _, World.drewN_drewN _ _ _⟩ | exact ⟨rfl, _, Eq.trans (World.drewN_drewN _ _ _) (congrArg (World.drewN _) (Nat.add_assoc _ _ _))⟩))))
                                        all_goals (try subst hY52)
                                        all_goals (try subst hY51)
                                        all_goals (try subst hY50)
                                        all_goals (try subst hY49)
                                        all_goals (try subst hY48)
                                        all_goals (try subst hY47)
                                        all_goals (try subst hY46)
                                        go_ret2
                                        exact ⟨by first | rfl | (simp; done) | (simp only [← hji34] <;> (first | rfl | simp)) | (simp [*]; done), by repeat (first | exact Drawn0.refl _ | apply Drawn0.step)⟩
                                      · rw [if_neg c45] at H
                                        have c45b0 : decide (3 < t227) = false := decide_eq_false c45
                                        clear c45
                                        obtain ⟨ji53, hji53⟩ : ∃ j_ : Int, (wrap64 (t227 - 1)) = j_ := ⟨_, rfl⟩
                                        replace H : (if 0 ≤ (ji53) then (if (ji53) < (((x0_5.extract (t226 : Int).toNat x0_5.size).extract 1 ((ji34) : Int).toNat).size : Int) then (if (bt ((x0_5.extract (t226 : Int).toNat x0_5.size).extract 1 ((ji34) : Int).toNat) (ji53)) = 48 then (some (0, 3)) else (vinculumref01_Parse.j4 kj19 x4_1 (x0_5.extract 0 (t226 : Int).toNat) ((x0_5.extract (t226 : Int).toNat x0_5.size).extract ((ji34) : Int).toNat (x0_5.extract (t226 : Int).toNat x0_5.size).size) ((x0_5.extract (t226 : Int).toNat x0_5.size).extract 1 ((ji34) : Int).toNat))) else (none)) else (none)) = some (r1, r2) := by first | (rw [hji53] at H; exact H) | (simp only [hji53] at H ⊢; exact H)
                                        (try rw [hji53] at A31)
                                        have hji53w : (IntKind.i64.wrap (t227 - 1)) = ji53 := (i64_w _).trans hji53
                                        by_cases c54 : 0 ≤ (ji53)
                                        · rw [if_pos c54] at H
                                          have c54b0 : decide (0 ≤ (ji53)) = true := decide_eq_true c54
                                          clear c54
                                          by_cases c55 : (ji53) < (((x0_5.extract (t226 : Int).toNat x0_5.size).extract 1 ((ji34) : Int).toNat).size : Int)
                                          · rw [if_pos c55] at H
                                            have c55b0 : decide ((ji53) < (((x0_5.extract (t226 : Int).toNat x0_5.size).extract 1 ((ji34) : Int).toNat).size : Int)) = true := decide_eq_true c55
                                            try (have c55b0n := c55b0; simp only [ByteArray.size_extract, Nat.min_self, Nat.sub_zero, ByteArray.size_append] at c55b0n)
                                            clear c55
                                            by_cases c57 : (bt ((x0_5.extract (t226 : Int).toNat x0_5.size).extract 1 ((ji34) : Int).toNat) (ji53)) = 48
                                            · rw [if_pos c57] at H
                                              have c57b0 : ((bt ((x0_5.extract (t226 : Int).toNat x0_5.size).extract 1 ((ji34) : Int).toNat) (ji53)) == 48) = true := beq_iff_eq.mpr c57
                                              try (have c57b0n := c57b0; simp only [ByteArray.size_extract, Nat.min_self, Nat.sub_zero, ByteArray.size_append] at c57b0n)
                                              have c57b1 : ((bt ((x0_5.extract (t226 : Int).toNat x0_5.size).extract 1 ((ji34) : Int).toNat) (ji53)) != 48) = false := bne_eq_false_iff_eq.mpr c57
                                              try (have c57b1n := c57b1; simp only [ByteArray.size_extract, Nat.min_self, Nat.sub_zero, ByteArray.size_append] at c57b1n)
                                              clear c57
                                              simp only [Option.some.injEq, Prod.mk.injEq] at H
                                              obtain ⟨rfl, rfl⟩ := H
                                              try generalize hY58 : x0_5.extract 0 (t226 : Int).toNat = Y58 at *
                                              try generalize hY59 : x0_5.extract (t226 : Int).toNat x0_5.size = Y59 at *
                                              try generalize hY60 : Y59.extract 1 ((ji34) : Int).toNat = Y60 at *
                                              try generalize hY61 : Y59.extract 1 ((wrap64 (1 + t227)) : Int).toNat = Y61 at *
                                              try generalize hY62 : Y59.extract 1 Y59.size = Y62 at *
                                              try generalize hY63 : Y59.extract ((ji34) : Int).toNat Y59.size = Y63 at *
                                              try generalize hY64 : Y59.extract ((wrap64 (1 + t227)) : Int).toNat Y59.size = Y64 at *
                                              go_wp2_with (first | (go_at_call 38; (with_reducible refine (vinculumref01_run.calls kj19 Y62 t227 _ A31.out).mono ?_); rintro e w' ⟨rfl, ⟨nd, rfl⟩⟩; (try first | exact ⟨rfl, _, World.drewN_drewN _ _ _⟩ | exact ⟨rfl, _, Eq.trans (World.drewN_drewN _ _ _) (congrArg (World.drewN _) (Nat.add_assoc _ _ _))⟩); have p56 : 0 ≤ ((ji53) : Int) := of_decide_eq_true (by first | (with_reducible assumption) | assumption); have q56 : (ji53) < (Y60.size : Int) := of_decide_eq_true (by first | (with_reducible assumption) | assumption); have hx56 := bt_at Y60 (ji53); replace p56 := eq_true p56; replace q56 := eq_true q56))
                                              repeat (go_quiet (first | (go_at_call 38; (with_reducible refine (vinculumref01_run.calls kj19 Y62 t227 _ A31.out).mono ?_); rintro e w' ⟨rfl, ⟨nd, rfl⟩⟩; (try first | exact ⟨rfl, _, World.drewN_drewN _ _ _⟩ | exact ⟨rfl, _, Eq.trans (World.drewN_drewN _ _ _) (congrArg (World.drewN _) (Nat.add_assoc _ _ _))⟩); have p56 : 0 ≤ ((ji53) : Int) := of_decide_eq_true (by first | (with_reducible assumption) | assumption); have q56 : (ji53) < (Y60.size : Int) := of_decide_eq_true (by first | (with_reducible assumption) | assumption); have hx56 := bt_at Y60 (ji53); replace p56 := eq_true p56; replace q56 := eq_true q56)); try go_wp2_with (first | (go_at_call 38; (with_reducible refine (vinculumref01_run.calls kj19 Y62 t227 _ A31.out).mono ?_); rintro e w' ⟨rfl, ⟨nd, rfl⟩⟩; (try first | exact ⟨rfl, _, World.drewN_drewN _ _ _⟩ | exact ⟨rfl, _, Eq.trans (World.drewN_drewN _ _ _) (congrArg (World.drewN _) (Nat.add_assoc _ _ _))⟩); have p56 : 0 ≤ ((ji53) : Int) := of_decide_eq_true (by first | (with_reducible assumption) | assumption); have q56 : (ji53) < (Y60.size : Int) := of_decide_eq_true (by first | (with_reducible assumption) | assumption); have hx56 := bt_at Y60 (ji53); replace p56 := eq_true p56; replace q56 := eq_true q56)))
                                              all_goals (try subst hY64)
                                              all_goals (try subst hY63)
                                              all_goals (try subst hY62)
                                              all_goals (try subst hY61)
                                              all_goals (try subst hY60)
                                              all_goals (try subst hY59)
                                              all_goals (try subst hY58)
                                              go_ret2
                                              exact ⟨by first | rfl | (simp; done) | (simp only [← hji34, ← hji53] <;> (first | rfl | simp)) | (simp [*]; done), by repeat (first | exact Drawn0.refl _ | apply Drawn0.step)⟩
                                            · rw [if_neg c57] at H
                                              have c57b0 : ((bt ((x0_5.extract (t226 : Int).toNat x0_5.size).extract 1 ((ji34) : Int).toNat) (ji53)) == 48) = false := beq_eq_false_iff_ne.mpr c57
                                              try (have c57b0n := c57b0; simp only [ByteArray.size_extract, Nat.min_self, Nat.sub_zero, ByteArray.size_append] at c57b0n)
                                              have c57b1 : ((bt ((x0_5.extract (t226 : Int).toNat x0_5.size).extract 1 ((ji34) : Int).toNat) (ji53)) != 48) = true := bne_iff_ne.mpr c57
                                              try (have c57b1n := c57b1; simp only [ByteArray.size_extract, Nat.min_self, Nat.sub_zero, ByteArray.size_append] at c57b1n)
                                              have H' := Aside0.mk H
                                              clear H
                                              try generalize hY65 : x0_5.extract 0 (t226 : Int).toNat = Y65 at *
                                              try generalize hY66 : x0_5.extract (t226 : Int).toNat x0_5.size = Y66 at *
                                              try generalize hY67 : Y66.extract 1 ((ji34) : Int).toNat = Y67 at *
                                              try generalize hY68 : Y66.extract 1 ((wrap64 (1 + t227)) : Int).toNat = Y68 at *
                                              try generalize hY69 : Y66.extract 1 Y66.size = Y69 at *
                                              try generalize hY70 : Y66.extract ((ji34) : Int).toNat Y66.size = Y70 at *
                                              try generalize hY71 : Y66.extract ((wrap64 (1 + t227)) : Int).toNat Y66.size = Y71 at *
                                              go_wp2_with (first | (go_at_call 38; (with_reducible refine (vinculumref01_run.calls kj19 Y69 t227 _ A31.out).mono ?_); rintro e w' ⟨rfl, ⟨nd, rfl⟩⟩; (try first | exact ⟨rfl, _, World.drewN_drewN _ _ _⟩ | exact ⟨rfl, _, Eq.trans (World.drewN_drewN _ _ _) (congrArg (World.drewN _) (Nat.add_assoc _ _ _))⟩); have p56 : 0 ≤ ((ji53) : Int) := of_decide_eq_true (by first | (with_reducible assumption) | assumption); have q56 : (ji53) < (Y67.size : Int) := of_decide_eq_true (by first | (with_reducible assumption) | assumption); have hx56 := bt_at Y67 (ji53); replace p56 := eq_true p56; replace q56 := eq_true q56))
                                              repeat (go_quiet (first | (go_at_call 38; (with_reducible refine (vinculumref01_run.calls kj19 Y69 t227 _ A31.out).mono ?_); rintro e w' ⟨rfl, ⟨nd, rfl⟩⟩; (try first | exact ⟨rfl, _, World.drewN_drewN _ _ _⟩ | exact ⟨rfl, _, Eq.trans (World.drewN_drewN _ _ _) (congrArg (World.drewN _) (Nat.add_assoc _ _ _))⟩); have p56 : 0 ≤ ((ji53) : Int) := of_decide_eq_true (by first | (with_reducible assumption) | assumption); have q56 : (ji53) < (Y67.size : Int) := of_decide_eq_true (by first | (with_reducible assumption) | assumption); have hx56 := bt_at Y67 (ji53); replace p56 := eq_true p56; replace q56 := eq_true q56)); try go_wp2_with (first | (go_at_call 38; (with_reducible refine (vinculumref01_run.calls kj19 Y69 t227 _ A31.out).mono ?_); rintro e w' ⟨rfl, ⟨nd, rfl⟩⟩; (try first | exact ⟨rfl, _, World.drewN_drewN _ _ _⟩ | exact ⟨rfl, _, Eq.trans (World.drewN_drewN _ _ _) (congrArg (World.drewN _) (Nat.add_assoc _ _ _))⟩); have p56 : 0 ≤ ((ji53) : Int) := of_decide_eq_true (by first | (with_reducible assumption) | assumption); have q56 : (ji53) < (Y67.size : Int) := of_decide_eq_true (by first | (with_reducible assumption) | assumption); have hx56 := bt_at Y67 (ji53); replace p56 := eq_true p56; replace q56 := eq_true q56)))
                                              all_goals (try subst hY71)
                                              all_goals (try subst hY70)
                                              all_goals (try subst hY69)
                                              all_goals (try subst hY68)
                                              all_goals (try subst hY67)
                                              all_goals (try subst hY66)
                                              all_goals (try subst hY65)
                                              go_meet
                                              case rel => exact ⟨_, ((x0_5.extract (t226 : Int).toNat x0_5.size).extract ((ji34) : Int).toNat (x0_5.extract (t226 : Int).toNat x0_5.size).size), ((x0_5.extract (t226 : Int).toNat x0_5.size).extract 1 ((ji34) : Int).toNat), (by first | rfl | (simp; done) | (simp only [← hji34] <;> (first | rfl | simp)) | (simp [*]; done)), (by first | rfl | (simp; done) | (simp only [← hji34] <;> (first | rfl | simp)) | (simp [*]; done)), H', ⟨by have := HJ1.out; have := HJ5.out; have := HJ9.out; have := HJ19.out; first | omega | exact Nat.le_refl _⟩, by repeat (first | exact Drawn0.refl _ | apply Drawn0.step)⟩
                                          · rw [if_neg c55] at H
                                            exact absurd H (by simp)
                                        · rw [if_neg c54] at H
                                          exact absurd H (by simp)
                                  · rw [if_neg c35] at H
                                    exact absurd H (by simp)
                                · rw [if_neg c33] at H
                                  exact absurd H (by simp)
                              · rw [if_neg c32] at H
                                exact absurd H (by simp)
                            · rw [if_neg c30] at H
                              exact absurd H (by simp)
                          · replace c29 := Bool.eq_false_iff.mpr c29
                            subst c29
                            have H1 : (vinculumref01_Parse.j4 kj19 x4_1 (x0_5.extract 0 (t226 : Int).toNat) (x0_5.extract (t226 : Int).toNat x0_5.size) (⟨#[]⟩ : ByteArray)) = some (r1, r2) := by rw [if_neg (show ¬ (false = true) by decide)] at H; exact H
                            clear H
                            have H := H1
                            clear H1
                            have H' := Aside0.mk H
                            clear H
                            go_wp2
                            repeat (go_quiet (fail); try go_wp2)
                            go_meet
                            case rel => exact ⟨_, ((x0_5.extract (t226 : Int).toNat x0_5.size)), ((⟨#[]⟩ : ByteArray)), (by first | rfl | (simp; done) | (simp [*]; done)), (by first | rfl | (simp; done) | (simp [*]; done)), H', ⟨by have := HJ1.out; have := HJ5.out; have := HJ9.out; have := HJ19.out; first | omega | exact Nat.le_refl _⟩, by repeat (first | exact Drawn0.refl _ | apply Drawn0.step)⟩
                        case rest =>
                          clear HC28
                          try clear c1
                          try clear p1
                          try clear q1
                          try clear hx1
                          try clear qi1
                          try clear c2
                          try clear p2
                          try clear q2
                          try clear hx2
                          try clear qi2
                          try clear c3
                          try clear c3b0
                          try clear c3b1
                          try clear c4
                          try clear c4b0
                          try clear c4b1
                          try clear c5
                          try clear p5
                          try clear q5
                          try clear hx5
                          try clear qi5
                          try clear p6
                          try clear c7
                          try clear c8
                          try clear c8b0
                          try clear c8b1
                          try clear c9
                          try clear c11
                          try clear c11b0
                          try clear c11b1
                          try clear c12
                          try clear c12b0
                          try clear c13
                          try clear c13b0
                          try clear c13b1
                          try clear p14
                          try clear q14
                          try clear hx14
                          try clear qi14
                          try clear c15
                          try clear c16
                          try clear c16b0
                          try clear c16b1
                          try clear c17
                          try clear c17b0
                          try clear c17b1
                          try clear c18
                          try clear c18b0
                          try clear c19
                          try clear c19b0
                          try clear c21
                          try clear c21b0
                          try clear c21b1
                          try clear c22
                          try clear c22b0
                          try clear c22b1
                          try clear p23
                          try clear q23
                          try clear hx23
                          try clear qi23
                          try clear c26
                          try clear c29
                          try clear c30
                          try clear c30b0
                          try clear c30b1
                          try clear c32
                          try clear c32b0
                          try clear c32b1
                          try clear c33
                          try clear c33b0
                          try clear c33b1
                          try clear c35
                          try clear c35b0
                          try clear c35b1
                          try clear c36
                          try clear c36b0
                          try clear c37
                          try clear c37b0
                          try clear c45
                          try clear c45b0
                          try clear c54
                          try clear c54b0
                          try clear c55
                          try clear c55b0
                          try clear p56
                          try clear q56
                          try clear hx56
                          try clear c57
                          try clear c57b0
                          try clear c57b1
                          try clear p64
                          try clear p1
                          try clear p14
                          try clear p2
                          try clear p23
                          try clear p5
                          try clear p56
                          try clear q1
                          try clear q14
                          try clear q2
                          try clear q23
                          try clear q5
                          try clear q56
                          obtain ⟨kq, x7_27, x8_27, rfl, rfl, HA, HJ27, ⟨mc27, rfl⟩⟩ := hcut
                          cases kq with
                          | zero => exact absurd HA.out (by simp [vinculumref01_Parse.j4])
                          | succ kj27 =>
                            have H := HA.out
                            clear HA
                            simp only [vinculumref01_Parse.j4] at H
                            have HC72 := Aside0.mk H
                            clear H
                            go_upto_region 14 with (fail)
                            repeat (go_quiet (fail); go_upto_region 14 with (fail))
                            go_cut [87] (fun v87 wc => ∃ (kq : Nat) (x87_71 : Bool), v87 = .bool x87_71 ∧ Aside0 (vinculumref01_Parse.j5 kq x4_1 (x0_5.extract 0 (t226 : Int).toNat) x8_27 x87_71 = some (r1, r2)) ∧ Aside0 (kq ≤ kj27) ∧ Drawn0 w wc)
                            case first =>
                              have H := HC72.out
                              clear HC72
                              by_cases c73 : x7_27.toList = ([112, 116] : List UInt8)
                              · rw [if_pos c73] at H
                                have c73b0 : (x7_27.toList == ([112, 116] : List UInt8)) = true := beq_iff_eq.mpr c73
                                have c73b1 : (x7_27.toList != ([112, 116] : List UInt8)) = false := bne_eq_false_iff_eq.mpr c73
                                clear c73
                                (first | rw [c73b0] | (simp only [i64_w, i32_w]; rw [c73b0]) | skip)
                                by_cases c74 : x4_1 = true
                                · subst c74
                                  have H1 : (if (x0_5.extract 0 (t226 : Int).toNat).toList = ([48] : List UInt8) then (vinculumref01_Parse.j5 kj27 true (x0_5.extract 0 (t226 : Int).toNat) x8_27 (x8_27.toList == ([] : List UInt8))) else (vinculumref01_Parse.j5 kj27 true (x0_5.extract 0 (t226 : Int).toNat) x8_27 false)) = some (r1, r2) := by rw [if_pos rfl] at H; exact H
                                  clear H
                                  have H := H1
                                  clear H1
                                  by_cases c75 : (x0_5.extract 0 (t226 : Int).toNat).toList = ([48] : List UInt8)
                                  · rw [if_pos c75] at H
                                    have c75b0 : ((x0_5.extract 0 (t226 : Int).toNat).toList == ([48] : List UInt8)) = true := beq_iff_eq.mpr c75
                                    have c75b1 : ((x0_5.extract 0 (t226 : Int).toNat).toList != ([48] : List UInt8)) = false := bne_eq_false_iff_eq.mpr c75
                                    clear c75
                                    have H' := Aside0.mk H
                                    clear H
                                    go_wp2
                                    repeat (go_quiet (fail); try go_wp2)
                                    go_meet
                                    case rel => exact ⟨_, ((x8_27.toList == ([] : List UInt8))), (by first | rfl | (simp; done) | (simp [*]; done)), H', ⟨by have := HJ1.out; have := HJ5.out; have := HJ9.out; have := HJ19.out; have := HJ27.out; first | omega | exact Nat.le_refl _⟩, by repeat (first | exact Drawn0.refl _ | apply Drawn0.step)⟩
                                  · rw [if_neg c75] at H
                                    have c75b0 : ((x0_5.extract 0 (t226 : Int).toNat).toList == ([48] : List UInt8)) = false := beq_eq_false_iff_ne.mpr c75
                                    have c75b1 : ((x0_5.extract 0 (t226 : Int).toNat).toList != ([48] : List UInt8)) = true := bne_iff_ne.mpr c75
                                    have H' := Aside0.mk H
                                    clear H
                                    go_wp2
                                    repeat (go_quiet (fail); try go_wp2)
                                    go_meet
                                    case rel => exact ⟨_, (false), (by first | rfl | (simp; done) | (simp [*]; done)), H', ⟨by have := HJ1.out; have := HJ5.out; have := HJ9.out; have := HJ19.out; have := HJ27.out; first | omega | exact Nat.le_refl _⟩, by repeat (first | exact Drawn0.refl _ | apply Drawn0.step)⟩
                                · replace c74 := Bool.eq_false_iff.mpr c74
                                  subst c74
                                  have H1 : (vinculumref01_Parse.j5 kj27 false (x0_5.extract 0 (t226 : Int).toNat) x8_27 false) = some (r1, r2) := by rw [if_neg (show ¬ (false = true) by decide)] at H; exact H
                                  clear H
                                  have H := H1
                                  clear H1
                                  have H' := Aside0.mk H
                                  clear H
                                  go_wp2
                                  repeat (go_quiet (fail); try go_wp2)
                                  go_meet
                                  case rel => exact ⟨_, (false), (by first | rfl | (simp; done) | (simp [*]; done)), H', ⟨by have := HJ1.out; have := HJ5.out; have := HJ9.out; have := HJ19.out; have := HJ27.out; first | omega | exact Nat.le_refl _⟩, by repeat (first | exact Drawn0.refl _ | apply Drawn0.step)⟩
                              · rw [if_neg c73] at H
                                have c73b0 : (x7_27.toList == ([112, 116] : List UInt8)) = false := beq_eq_false_iff_ne.mpr c73
                                have c73b1 : (x7_27.toList != ([112, 116] : List UInt8)) = true := bne_iff_ne.mpr c73
                                (first | rw [c73b0] | (simp only [i64_w, i32_w]; rw [c73b0]) | skip)
                                have H' := Aside0.mk H
                                clear H
                                go_wp2
                                repeat (go_quiet (fail); try go_wp2)
                                go_meet
                                case rel => exact ⟨_, (true), (by first | rfl | (simp; done) | (simp [*]; done)), H', ⟨by have := HJ1.out; have := HJ5.out; have := HJ9.out; have := HJ19.out; have := HJ27.out; first | omega | exact Nat.le_refl _⟩, by repeat (first | exact Drawn0.refl _ | apply Drawn0.step)⟩
                            case rest =>
                              clear HC72
                              try clear c1
                              try clear p1
                              try clear q1
                              try clear hx1
                              try clear qi1
                              try clear c2
                              try clear p2
                              try clear q2
                              try clear hx2
                              try clear qi2
                              try clear c3
                              try clear c3b0
                              try clear c3b1
                              try clear c4
                              try clear c4b0
                              try clear c4b1
                              try clear c5
                              try clear p5
                              try clear q5
                              try clear hx5
                              try clear qi5
                              try clear p6
                              try clear c7
                              try clear c8
                              try clear c8b0
                              try clear c8b1
                              try clear c9
                              try clear c11
                              try clear c11b0
                              try clear c11b1
                              try clear c12
                              try clear c12b0
                              try clear c13
                              try clear c13b0
                              try clear c13b1
                              try clear p14
                              try clear q14
                              try clear hx14
                              try clear qi14
                              try clear c15
                              try clear c16
                              try clear c16b0
                              try clear c16b1
                              try clear c17
                              try clear c17b0
                              try clear c17b1
                              try clear c18
                              try clear c18b0
                              try clear c19
                              try clear c19b0
                              try clear c21
                              try clear c21b0
                              try clear c21b1
                              try clear c22
                              try clear c22b0
                              try clear c22b1
                              try clear p23
                              try clear q23
                              try clear hx23
                              try clear qi23
                              try clear c26
                              try clear c27
                              try clear c29
                              try clear c30
                              try clear c30b0
                              try clear c30b1
                              try clear c32
                              try clear c32b0
                              try clear c32b1
                              try clear c33
                              try clear c33b0
                              try clear c33b1
                              try clear c35
                              try clear c35b0
                              try clear c35b1
                              try clear c36
                              try clear c36b0
                              try clear c37
                              try clear c37b0
                              try clear c45
                              try clear c45b0
                              try clear c54
                              try clear c54b0
                              try clear c55
                              try clear c55b0
                              try clear p56
                              try clear q56
                              try clear hx56
                              try clear c57
                              try clear c57b0
                              try clear c57b1
                              try clear p64
                              try clear c73
                              try clear c73b0
                              try clear c73b1
                              try clear c74
                              try clear c75
                              try clear c75b0
                              try clear c75b1
                              try clear p1
                              try clear p14
                              try clear p2
                              try clear p23
                              try clear p5
                              try clear p56
                              try clear p6
                              try clear p64
                              try clear q1
                              try clear q14
                              try clear q2
                              try clear q23
                              try clear q5
                              try clear q56
                              obtain ⟨kq, x87_71, rfl, HA, HJ71, ⟨mc71, rfl⟩⟩ := hcut
                              cases kq with
                              | zero => exact absurd HA.out (by simp [vinculumref01_Parse.j5])
                              | succ kj71 =>
                                have H := HA.out
                                clear HA
                                simp only [vinculumref01_Parse.j5] at H
                                by_cases c76 : x87_71 = true
                                · subst c76
                                  have H1 : (some (0, 3)) = some (r1, r2) := by rw [if_pos rfl] at H; exact H
                                  clear H
                                  have H := H1
                                  clear H1
                                  simp only [Option.some.injEq, Prod.mk.injEq] at H
                                  obtain ⟨rfl, rfl⟩ := H
                                  go_wp2
                                  repeat (go_quiet (fail); try go_wp2)
                                  go_ret2
                                  exact ⟨by first | rfl | (simp; done) | (simp [*]; done), by repeat (first | exact Drawn0.refl _ | apply Drawn0.step)⟩
                                · replace c76 := Bool.eq_false_iff.mpr c76
                                  subst c76
                                  have H1 : (if ((x0_5.extract 0 (t226 : Int).toNat).size : Int) > 7 then (some (0, 2)) else (if x8_27.size + 3 ≤ 9223372036854775807 then (if 0 ≤ 3 then (if 3 ≤ ((x8_27 ++ (⟨#[48, 48, 48]⟩ : ByteArray)).size : Int) then (if (x0_5.extract 0 (t226 : Int).toNat).size + ((x8_27 ++ (⟨#[48, 48, 48]⟩ : ByteArray)).extract 0 3).size ≤ 9223372036854775807 then (vinculumref01_Parse.l0 kj71 x4_1 0 ((x0_5.extract 0 (t226 : Int).toNat) ++ ((x8_27 ++ (⟨#[48, 48, 48]⟩ : ByteArray)).extract 0 3)) 0) else (none)) else (none)) else (none)) else (none))) = some (r1, r2) := by rw [if_neg (show ¬ (false = true) by decide)] at H; exact H
                                  clear H
                                  have H := H1
                                  clear H1
                                  by_cases c77 : ((x0_5.extract 0 (t226 : Int).toNat).size : Int) > 7
                                  · rw [if_pos c77] at H
                                    have c77b0 : decide (7 < ((x0_5.extract 0 (t226 : Int).toNat).size : Int)) = true := decide_eq_true c77
                                    try (have c77b0n := c77b0; simp only [ByteArray.size_extract, Nat.min_self, Nat.sub_zero, ByteArray.size_append] at c77b0n)
                                    have c77b1 : decide (7 < (x0_5.extract 0 (t226 : Int).toNat).size) = true := decide_eq_true (by omega)
                                    try (have c77b1n := c77b1; simp only [ByteArray.size_extract, Nat.min_self, Nat.sub_zero, ByteArray.size_append] at c77b1n)
                                    clear c77
                                    simp only [Option.some.injEq, Prod.mk.injEq] at H
                                    obtain ⟨rfl, rfl⟩ := H
                                    try generalize hY78 : x0_5.extract 0 (t226 : Int).toNat = Y78 at *
                                    try generalize hY79 : x0_5.extract (t226 : Int).toNat x0_5.size = Y79 at *
                                    try generalize hY80 : (x8_27 ++ (⟨#[48, 48, 48]⟩ : ByteArray)).extract 0 3 = Y80 at *
                                    go_wp2
                                    repeat (go_quiet (fail); try go_wp2)
                                    all_goals (try subst hY80)
                                    all_goals (try subst hY79)
                                    all_goals (try subst hY78)
                                    go_ret2
                                    exact ⟨by first | rfl | (simp; done) | (simp [*]; done), by repeat (first | exact Drawn0.refl _ | apply Drawn0.step)⟩
                                  · rw [if_neg c77] at H
                                    have c77b0 : decide (7 < ((x0_5.extract 0 (t226 : Int).toNat).size : Int)) = false := decide_eq_false c77
                                    try (have c77b0n := c77b0; simp only [ByteArray.size_extract, Nat.min_self, Nat.sub_zero, ByteArray.size_append] at c77b0n)
                                    have c77b1 : decide (7 < (x0_5.extract 0 (t226 : Int).toNat).size) = false := decide_eq_false (by omega)
                                    try (have c77b1n := c77b1; simp only [ByteArray.size_extract, Nat.min_self, Nat.sub_zero, ByteArray.size_append] at c77b1n)
                                    clear c77
                                    by_cases c81 : x8_27.size + 3 ≤ 9223372036854775807
                                    · rw [if_pos c81] at H
                                      have c81b0 := eq_true c81
                                      have c81b1 : decide (x8_27.size + 3 ≤ 9223372036854775807) = true := decide_eq_true c81
                                      try have c81b2 : (9223372036854775807 < x8_27.size + 3) = False := eq_false (Nat.not_lt.2 c81)
                                      try (have c81b3 : (9223372036854775807 < x8_27.size + 3) = False := eq_false (Nat.not_lt.2 c81); simp only [ByteArray.size_append] at c81b3)
                                      by_cases c82 : 0 ≤ 3
                                      · rw [if_pos c82] at H
                                        have c82b0 := eq_true c82
                                        have c82b1 : decide (0 ≤ 3) = true := decide_eq_true c82
                                        clear c82
                                        by_cases c83 : 3 ≤ ((x8_27 ++ (⟨#[48, 48, 48]⟩ : ByteArray)).size : Int)
                                        · rw [if_pos c83] at H
                                          have c83b0 := eq_true c83
                                          have c83b1 : decide (3 ≤ ((x8_27 ++ (⟨#[48, 48, 48]⟩ : ByteArray)).size : Int)) = true := decide_eq_true c83
                                          try (have c83b1n := c83b1; simp only [ByteArray.size_extract, Nat.min_self, Nat.sub_zero, ByteArray.size_append, show (⟨#[48, 48, 48]⟩ : ByteArray).size = 3 from rfl] at c83b1n)
                                          by_cases c84 : (x0_5.extract 0 (t226 : Int).toNat).size + ((x8_27 ++ (⟨#[48, 48, 48]⟩ : ByteArray)).extract 0 3).size ≤ 9223372036854775807
                                          · rw [if_pos c84] at H
                                            have c84b0 := eq_true c84
                                            have c84b1 : decide ((x0_5.extract 0 (t226 : Int).toNat).size + ((x8_27 ++ (⟨#[48, 48, 48]⟩ : ByteArray)).extract 0 3).size ≤ 9223372036854775807) = true := decide_eq_true c84
                                            try (have c84b1n := c84b1; simp only [ByteArray.size_extract, Nat.min_self, Nat.sub_zero, ByteArray.size_append, show (⟨#[48, 48, 48]⟩ : ByteArray).size = 3 from rfl] at c84b1n)
                                            try have c84b2 : (9223372036854775807 < (x0_5.extract 0 (t226 : Int).toNat).size + ((x8_27 ++ (⟨#[48, 48, 48]⟩ : ByteArray)).extract 0 3).size) = False := eq_false (Nat.not_lt.2 c84)
                                            try (have c84b2n := c84b2; simp only [ByteArray.size_extract, Nat.min_self, Nat.sub_zero, ByteArray.size_append, show (⟨#[48, 48, 48]⟩ : ByteArray).size = 3 from rfl] at c84b2n)
                                            try (have c84b3 : (9223372036854775807 < (x0_5.extract 0 (t226 : Int).toNat).size + ((x8_27 ++ (⟨#[48, 48, 48]⟩ : ByteArray)).extract 0 3).size) = False := eq_false (Nat.not_lt.2 c84); simp only [ByteArray.size_append, show (⟨#[48, 48, 48]⟩ : ByteArray).size = 3 from rfl] at c84b3)
                                            have H' := Aside0.mk H
                                            clear H
                                            try generalize hY85 : x0_5.extract 0 (t226 : Int).toNat = Y85 at *
                                            try generalize hY86 : x0_5.extract (t226 : Int).toNat x0_5.size = Y86 at *
                                            try generalize hY87 : (x8_27 ++ (⟨#[48, 48, 48]⟩ : ByteArray)).extract 0 3 = Y87 at *
                                            go_wp2
                                            repeat (go_quiet (fail); try go_wp2)
                                            all_goals (try subst hY87)
                                            all_goals (try subst hY86)
                                            all_goals (try subst hY85)
                                            go_loopg [10, 12] kj71 (fun kq v10 v12 w' => ∃ (x10_7 : Int) (x12_7 : Int), v10 = .int .i64 x10_7 ∧ v12 = .int .i64 x12_7 ∧ Aside0 (vinculumref01_Parse.l0 kq x4_1 x10_7 ((x0_5.extract 0 (t226 : Int).toNat) ++ ((x8_27 ++ (⟨#[48, 48, 48]⟩ : ByteArray)).extract 0 3)) x12_7 = some (r1, r2)) ∧ Aside0 (kq ≤ kj71) ∧ Drawn0 w w')
                                            case atStart => exact ⟨(0), (0), (by first | rfl | (simp; done) | (simp [*]; done)), (by first | rfl | (simp; done) | (simp [*]; done)), H', ⟨Nat.le_refl _⟩, by repeat (first | exact Drawn0.refl _ | apply Drawn0.step)⟩
                                            case round =>
                                              clear H'
                                              try clear c1
                                              try clear p1
                                              try clear q1
                                              try clear hx1
                                              try clear qi1
                                              try clear c2
                                              try clear p2
                                              try clear q2
                                              try clear hx2
                                              try clear qi2
                                              try clear c3
                                              try clear c3b0
                                              try clear c3b1
                                              try clear c4
                                              try clear c4b0
                                              try clear c4b1
                                              try clear c5
                                              try clear p5
                                              try clear q5
                                              try clear hx5
                                              try clear qi5
                                              try clear p6
                                              try clear c7
                                              try clear c8
                                              try clear c8b0
                                              try clear c8b1
                                              try clear c9
                                              try clear c11
                                              try clear c11b0
                                              try clear c11b1
                                              try clear c12
                                              try clear c12b0
                                              try clear c13
                                              try clear c13b0
                                              try clear c13b1
                                              try clear p14
                                              try clear q14
                                              try clear hx14
                                              try clear qi14
                                              try clear c15
                                              try clear c16
                                              try clear c16b0
                                              try clear c16b1
                                              try clear c17
                                              try clear c17b0
                                              try clear c17b1
                                              try clear c18
                                              try clear c18b0
                                              try clear c19
                                              try clear c19b0
                                              try clear c21
                                              try clear c21b0
                                              try clear c21b1
                                              try clear c22
                                              try clear c22b0
                                              try clear c22b1
                                              try clear p23
                                              try clear q23
                                              try clear hx23
                                              try clear qi23
                                              try clear c26
                                              try clear c27
                                              try clear c29
                                              try clear c30
                                              try clear c30b0
                                              try clear c30b1
                                              try clear c32
                                              try clear c32b0
                                              try clear c32b1
                                              try clear c33
                                              try clear c33b0
                                              try clear c33b1
                                              try clear c35
                                              try clear c35b0
                                              try clear c35b1
                                              try clear c36
                                              try clear c36b0
                                              try clear c37
                                              try clear c37b0
                                              try clear c45
                                              try clear c45b0
                                              try clear c54
                                              try clear c54b0
                                              try clear c55
                                              try clear c55b0
                                              try clear p56
                                              try clear q56
                                              try clear hx56
                                              try clear c57
                                              try clear c57b0
                                              try clear c57b1
                                              try clear p64
                                              try clear c71
                                              try clear c73
                                              try clear c73b0
                                              try clear c73b1
                                              try clear c74
                                              try clear c75
                                              try clear c75b0
                                              try clear c75b1
                                              try clear c76
                                              try clear c77
                                              try clear c77b0
                                              try clear c77b1
                                              try clear c81
                                              try clear c81b0
                                              try clear c81b1
                                              try clear c81b2
                                              try clear c82
                                              try clear c82b0
                                              try clear c82b1
                                              try clear c83
                                              try clear c83b0
                                              try clear c83b1
                                              try clear c84
                                              try clear c84b0
                                              try clear c84b1
                                              try clear c84b2
                                              try clear p1
                                              try clear p14
                                              try clear p2
                                              try clear p23
                                              try clear p5
                                              try clear p56
                                              try clear p6
                                              try clear p64
                                              try clear q1
                                              try clear q14
                                              try clear q2
                                              try clear q23
                                              try clear q5
                                              try clear q56
                                              obtain ⟨x10_7, x12_7, rfl, rfl, HA, HK7, ⟨m7, rfl⟩⟩ := hrel
                                              cases gk with
                                              | zero => exact absurd HA.out (by simp [vinculumref01_Parse.l0])
                                              | succ k7 =>
                                                have H := HA.out
                                                clear HA
                                                simp only [vinculumref01_Parse.l0] at H
                                                by_cases c88 : x12_7 < (((x0_5.extract 0 (t226 : Int).toNat) ++ ((x8_27 ++ (⟨#[48, 48, 48]⟩ : ByteArray)).extract 0 3)).size : Int)
                                                · rw [if_pos c88] at H
                                                  have c88b0 : decide (x12_7 < (((x0_5.extract 0 (t226 : Int).toNat) ++ ((x8_27 ++ (⟨#[48, 48, 48]⟩ : ByteArray)).extract 0 3)).size : Int)) = true := decide_eq_true c88
                                                  try (have c88b0n := c88b0; simp only [ByteArray.size_extract, Nat.min_self, Nat.sub_zero, ByteArray.size_append, show (⟨#[48, 48, 48]⟩ : ByteArray).size = 3 from rfl] at c88b0n)
                                                  clear c88
                                                  by_cases c89 : 0 ≤ x12_7
                                                  · rw [if_pos c89] at H
                                                    have c89b0 : decide (0 ≤ x12_7) = true := decide_eq_true c89
                                                    clear c89
                                                    have H' := Aside0.mk H
                                                    clear H
                                                    have p90 : 0 ≤ (x12_7 : Int) := of_decide_eq_true (by first | (with_reducible assumption) | assumption)
                                                    have q90 : x12_7 < (((x0_5.extract 0 (t226 : Int).toNat) ++ ((x8_27 ++ (⟨#[48, 48, 48]⟩ : ByteArray)).extract 0 3)).size : Int) := of_decide_eq_true (by first | (with_reducible assumption) | assumption)
                                                    have hx90 := bt_at ((x0_5.extract 0 (t226 : Int).toNat) ++ ((x8_27 ++ (⟨#[48, 48, 48]⟩ : ByteArray)).extract 0 3)) x12_7
                                                    replace p90 := eq_true p90
                                                    replace q90 := eq_true q90
                                                    try generalize hY91 : x0_5.extract 0 (t226 : Int).toNat = Y91 at *
                                                    try generalize hY92 : x0_5.extract (t226 : Int).toNat x0_5.size = Y92 at *
                                                    try generalize hY93 : (x8_27 ++ (⟨#[48, 48, 48]⟩ : ByteArray)).extract 0 3 = Y93 at *
                                                    try generalize hY94 : Y91 ++ Y93 = Y94 at *
                                                    go_wp2
                                                    repeat (go_quiet (fail); try go_wp2)
                                                    all_goals (try subst hY94)
                                                    all_goals (try subst hY93)
                                                    all_goals (try subst hY92)
                                                    all_goals (try subst hY91)
                                                    go_roundg k7
                                                    case measure => have := HJ1.out; have := HJ5.out; have := HJ9.out; have := HJ19.out; have := HJ27.out; have := HJ71.out; have := HK7.out; omega
                                                    case rel => exact ⟨(wrap64 ((wrap64 (10 * x10_7)) + (((bt ((x0_5.extract 0 (t226 : Int).toNat) ++ ((x8_27 ++ (⟨#[48, 48, 48]⟩ : ByteArray)).extract 0 3)) x12_7) - 48) % 256))), (wrap64 (x12_7 + 1)), (by first | rfl | (simp; done) | (simp [*]; done)), (by first | rfl | (simp; done) | (simp [*]; done)), H', ⟨by have := HJ1.out; have := HJ5.out; have := HJ9.out; have := HJ19.out; have := HJ27.out; have := HJ71.out; have := HK7.out; omega⟩, by repeat (first | exact Drawn0.refl _ | apply Drawn0.step)⟩
                                                  · rw [if_neg c89] at H
                                                    exact absurd H (by simp)
                                                · rw [if_neg c88] at H
                                                  have c88b0 : decide (x12_7 < (((x0_5.extract 0 (t226 : Int).toNat) ++ ((x8_27 ++ (⟨#[48, 48, 48]⟩ : ByteArray)).extract 0 3)).size : Int)) = false := decide_eq_false c88
                                                  try (have c88b0n := c88b0; simp only [ByteArray.size_extract, Nat.min_self, Nat.sub_zero, ByteArray.size_append, show (⟨#[48, 48, 48]⟩ : ByteArray).size = 3 from rfl] at c88b0n)
                                                  clear c88
                                                  by_cases c95 : x4_1 = true
                                                  · subst c95
                                                    have H1 : ((vinculumref01_Valid.f (wrap64 (-x10_7))).bind fun t228 => (if t228 = true then (some (wrap64 (-x10_7), 0)) else (some (0, 2)))) = some (r1, r2) := by rw [if_pos rfl] at H; exact H
                                                    clear H
                                                    have H := H1
                                                    clear H1
                                                    replace H := Option.bind_eq_some_iff.mp H
                                                    obtain ⟨t228, A960, H⟩ := H
                                                    replace H : (if t228 = true then (some (wrap64 (-x10_7), 0)) else (some (0, 2))) = some (r1, r2) := H
                                                    have A96 := Aside0.mk A960
                                                    clear A960
                                                    by_cases c97 : t228 = true
                                                    · subst c97
                                                      have H1 : (some (wrap64 (-x10_7), 0)) = some (r1, r2) := by rw [if_pos rfl] at H; exact H
                                                      clear H
                                                      have H := H1
                                                      clear H1
                                                      simp only [Option.some.injEq, Prod.mk.injEq] at H
                                                      obtain ⟨rfl, rfl⟩ := H
                                                      try generalize hY98 : x0_5.extract 0 (t226 : Int).toNat = Y98 at *
                                                      try generalize hY99 : x0_5.extract (t226 : Int).toNat x0_5.size = Y99 at *
                                                      try generalize hY100 : (x8_27 ++ (⟨#[48, 48, 48]⟩ : ByteArray)).extract 0 3 = Y100 at *
                                                      try generalize hY101 : Y98 ++ Y100 = Y101 at *
                                                      go_wp2_with (first | (go_at_call 12; (with_reducible refine (vinculumref01_Valid.calls (wrap64 (-x10_7)) true _ A96.out).mono ?_); rintro e w' ⟨rfl, ⟨nd, rfl⟩⟩; (try first | exact ⟨rfl, _, World.drewN_drewN _ _ _⟩ | exact ⟨rfl, _, Eq.trans (World.drewN_drewN _ _ _) (congrArg (World.drewN _) (Nat.add_assoc _ _ _))⟩)))
                                                      repeat (go_quiet (first | (go_at_call 12; (with_reducible refine (vinculumref01_Valid.calls (wrap64 (-x10_7)) true _ A96.out).mono ?_); rintro e w' ⟨rfl, ⟨nd, rfl⟩⟩; (try first | exact ⟨rfl, _, World.drewN_drewN _ _ _⟩ | exact ⟨rfl, _, Eq.trans (World.drewN_drewN _ _ _) (congrArg (World.drewN _) (Nat.add_assoc _ _ _))⟩))); try go_wp2_with (first | (go_at_call 12; (with_reducible refine (vinculumref01_Valid.calls (wrap64 (-x10_7)) true _ A96.out).mono ?_); rintro e w' ⟨rfl, ⟨nd, rfl⟩⟩; (try first | exact ⟨rfl, _, World.drewN_drewN _ _ _⟩ | exact ⟨rfl, _, Eq.trans (World.drewN_drewN _ _ _) (congrArg (World.drewN _) (Nat.add_assoc _ _ _))⟩))))
                                                      all_goals (try subst hY101)
                                                      all_goals (try subst hY100)
                                                      all_goals (try subst hY99)
                                                      all_goals (try subst hY98)
                                                      go_ret2
                                                      exact ⟨by first | rfl | (simp; done) | (simp [*]; done), by repeat (first | exact Drawn0.refl _ | apply Drawn0.step)⟩
                                                    · replace c97 := Bool.eq_false_iff.mpr c97
                                                      subst c97
                                                      have H1 : (some (0, 2)) = some (r1, r2) := by rw [if_neg (show ¬ (false = true) by decide)] at H; exact H
                                                      clear H
                                                      have H := H1
                                                      clear H1
                                                      simp only [Option.some.injEq, Prod.mk.injEq] at H
                                                      obtain ⟨rfl, rfl⟩ := H
                                                      try generalize hY102 : x0_5.extract 0 (t226 : Int).toNat = Y102 at *
                                                      try generalize hY103 : x0_5.extract (t226 : Int).toNat x0_5.size = Y103 at *
                                                      try generalize hY104 : (x8_27 ++ (⟨#[48, 48, 48]⟩ : ByteArray)).extract 0 3 = Y104 at *
                                                      try generalize hY105 : Y102 ++ Y104 = Y105 at *
                                                      go_wp2_with (first | (go_at_call 12; (with_reducible refine (vinculumref01_Valid.calls (wrap64 (-x10_7)) false _ A96.out).mono ?_); rintro e w' ⟨rfl, ⟨nd, rfl⟩⟩; (try first | exact ⟨rfl, _, World.drewN_drewN _ _ _⟩ | exact ⟨rfl, _, Eq.trans (World.drewN_drewN _ _ _) (congrArg (World.drewN _) (Nat.add_assoc _ _ _))⟩)))
                                                      repeat (go_quiet (first | (go_at_call 12; (with_reducible refine (vinculumref01_Valid.calls (wrap64 (-x10_7)) false _ A96.out).mono ?_); rintro e w' ⟨rfl, ⟨nd, rfl⟩⟩; (try first | exact ⟨rfl, _, World.drewN_drewN _ _ _⟩ | exact ⟨rfl, _, Eq.trans (World.drewN_drewN _ _ _) (congrArg (World.drewN _) (Nat.add_assoc _ _ _))⟩))); try go_wp2_with (first | (go_at_call 12; (with_reducible refine (vinculumref01_Valid.calls (wrap64 (-x10_7)) false _ A96.out).mono ?_); rintro e w' ⟨rfl, ⟨nd, rfl⟩⟩; (try first | exact ⟨rfl, _, World.drewN_drewN _ _ _⟩ | exact ⟨rfl, _, Eq.trans (World.drewN_drewN _ _ _) (congrArg (World.drewN _) (Nat.add_assoc _ _ _))⟩))))
                                                      all_goals (try subst hY105)
                                                      all_goals (try subst hY104)
                                                      all_goals (try subst hY103)
                                                      all_goals (try subst hY102)
                                                      go_ret2
                                                      exact ⟨by first | rfl | (simp; done) | (simp [*]; done), by repeat (first | exact Drawn0.refl _ | apply Drawn0.step)⟩
                                                  · replace c95 := Bool.eq_false_iff.mpr c95
                                                    subst c95
                                                    have H1 : ((vinculumref01_Valid.f x10_7).bind fun t229 => (if t229 = true then (some (x10_7, 0)) else (some (0, 2)))) = some (r1, r2) := by rw [if_neg (show ¬ (false = true) by decide)] at H; exact H
                                                    clear H
                                                    have H := H1
                                                    clear H1
                                                    replace H := Option.bind_eq_some_iff.mp H
                                                    obtain ⟨t229, A1060, H⟩ := H
                                                    replace H : (if t229 = true then (some (x10_7, 0)) else (some (0, 2))) = some (r1, r2) := H
                                                    have A106 := Aside0.mk A1060
                                                    clear A1060
                                                    by_cases c107 : t229 = true
                                                    · subst c107
                                                      have H1 : (some (x10_7, 0)) = some (r1, r2) := by rw [if_pos rfl] at H; exact H
                                                      clear H
                                                      have H := H1
                                                      clear H1
                                                      simp only [Option.some.injEq, Prod.mk.injEq] at H
                                                      obtain ⟨rfl, rfl⟩ := H
                                                      try generalize hY108 : x0_5.extract 0 (t226 : Int).toNat = Y108 at *
                                                      try generalize hY109 : x0_5.extract (t226 : Int).toNat x0_5.size = Y109 at *
                                                      try generalize hY110 : (x8_27 ++ (⟨#[48, 48, 48]⟩ : ByteArray)).extract 0 3 = Y110 at *
                                                      try generalize hY111 : Y108 ++ Y110 = Y111 at *
                                                      go_wp2_with (first | (go_at_call 12; (with_reducible refine (vinculumref01_Valid.calls x10_7 true _ A106.out).mono ?_); rintro e w' ⟨rfl, ⟨nd, rfl⟩⟩; (try first | exact ⟨rfl, _, World.drewN_drewN _ _ _⟩ | exact ⟨rfl, _, Eq.trans (World.drewN_drewN _ _ _) (congrArg (World.drewN _) (Nat.add_assoc _ _ _))⟩)))
                                                      repeat (go_quiet (first | (go_at_call 12; (with_reducible refine (vinculumref01_Valid.calls x10_7 true _ A106.out).mono ?_); rintro e w' ⟨rfl, ⟨nd, rfl⟩⟩; (try first | exact ⟨rfl, _, World.drewN_drewN _ _ _⟩ | exact ⟨rfl, _, Eq.trans (World.drewN_drewN _ _ _) (congrArg (World.drewN _) (Nat.add_assoc _ _ _))⟩))); try go_wp2_with (first | (go_at_call 12; (with_reducible refine (vinculumref01_Valid.calls x10_7 true _ A106.out).mono ?_); rintro e w' ⟨rfl, ⟨nd, rfl⟩⟩; (try first | exact ⟨rfl, _, World.drewN_drewN _ _ _⟩ | exact ⟨rfl, _, Eq.trans (World.drewN_drewN _ _ _) (congrArg (World.drewN _) (Nat.add_assoc _ _ _))⟩))))
                                                      all_goals (try subst hY111)
                                                      all_goals (try subst hY110)
                                                      all_goals (try subst hY109)
                                                      all_goals (try subst hY108)
                                                      go_ret2
                                                      exact ⟨by first | rfl | (simp; done) | (simp [*]; done), by repeat (first | exact Drawn0.refl _ | apply Drawn0.step)⟩
                                                    · replace c107 := Bool.eq_false_iff.mpr c107
                                                      subst c107
                                                      have H1 : (some (0, 2)) = some (r1, r2) := by rw [if_neg (show ¬ (false = true) by decide)] at H; exact H
                                                      clear H
                                                      have H := H1
                                                      clear H1
                                                      simp only [Option.some.injEq, Prod.mk.injEq] at H
                                                      obtain ⟨rfl, rfl⟩ := H
                                                      try generalize hY112 : x0_5.extract 0 (t226 : Int).toNat = Y112 at *
                                                      try generalize hY113 : x0_5.extract (t226 : Int).toNat x0_5.size = Y113 at *
                                                      try generalize hY114 : (x8_27 ++ (⟨#[48, 48, 48]⟩ : ByteArray)).extract 0 3 = Y114 at *
                                                      try generalize hY115 : Y112 ++ Y114 = Y115 at *
                                                      go_wp2_with (first | (go_at_call 12; (with_reducible refine (vinculumref01_Valid.calls x10_7 false _ A106.out).mono ?_); rintro e w' ⟨rfl, ⟨nd, rfl⟩⟩; (try first | exact ⟨rfl, _, World.drewN_drewN _ _ _⟩ | exact ⟨rfl, _, Eq.trans (World.drewN_drewN _ _ _) (congrArg (World.drewN _) (Nat.add_assoc _ _ _))⟩)))
                                                      repeat (go_quiet (first | (go_at_call 12; (with_reducible refine (vinculumref01_Valid.calls x10_7 false _ A106.out).mono ?_); rintro e w' ⟨rfl, ⟨nd, rfl⟩⟩; (try first | exact ⟨rfl, _, World.drewN_drewN _ _ _⟩ | exact ⟨rfl, _, Eq.trans (World.drewN_drewN _ _ _) (congrArg (World.drewN _) (Nat.add_assoc _ _ _))⟩))); try go_wp2_with (first | (go_at_call 12; (with_reducible refine (vinculumref01_Valid.calls x10_7 false _ A106.out).mono ?_); rintro e w' ⟨rfl, ⟨nd, rfl⟩⟩; (try first | exact ⟨rfl, _, World.drewN_drewN _ _ _⟩ | exact ⟨rfl, _, Eq.trans (World.drewN_drewN _ _ _) (congrArg (World.drewN _) (Nat.add_assoc _ _ _))⟩))))
                                                      all_goals (try subst hY115)
                                                      all_goals (try subst hY114)
                                                      all_goals (try subst hY113)
                                                      all_goals (try subst hY112)
                                                      go_ret2
                                                      exact ⟨by first | rfl | (simp; done) | (simp [*]; done), by repeat (first | exact Drawn0.refl _ | apply Drawn0.step)⟩
                                          · rw [if_neg c84] at H
                                            exact absurd H (by simp)
                                        · rw [if_neg c83] at H
                                          exact absurd H (by simp)
                                      · rw [if_neg c82] at H
                                        exact absurd H (by simp)
                                    · rw [if_neg c81] at H
                                      exact absurd H (by simp)
                  · rw [if_neg c17] at H
                    exact absurd H (by simp)
                · rw [if_neg c16] at H
                  exact absurd H (by simp)

end Go.Proofs.YtignpfhlagfijaaDoor.X
