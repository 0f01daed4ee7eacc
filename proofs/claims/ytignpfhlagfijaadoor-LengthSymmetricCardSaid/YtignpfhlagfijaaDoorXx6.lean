-- Written by xprint.py, a program of this session, by way of the kit's print.py. Lean checks it.
import Derived.Test.YtignpfhlagfijaaDoorXx0
import Derived.Test.YtignpfhlagfijaaDoorXx1
namespace Go.Proofs.YtignpfhlagfijaaDoor.X
open Go.Proofs.YtignpfhlagfijaaDoor.Gv
open Go.RowKit Go.Proofs.YtignpfhlagfijaaDoorW.PrintWords Go.Proofs.YtignpfhlagfijaaDoorW.PrintLast Go.Proofs.YtignpfhlagfijaaDoorW.PrintMore
attribute [local go_sem] max2_int min2_int max_two min_two max_three min_three max_four min_four   -- for this text's walks alone
set_option linter.unusedVariables false
set_option linter.unusedSimpArgs false

/-! ### length_Parse: function 24 -/
mutual
def length_Parse.j0 : Nat → Bool → ByteArray → ByteArray → Bool → Bool → Option (Int × Int)
  | 0, _, _, _, _, _ => none
  | k + 1, x5, x6, x7, x8, x43 => if x43 = true then (some (0, 3)) else (if x8 = true then ((length_digits.f x7).bind fun t205 => (if t205 = true then (if (x7.size : Int) > 3 then (length_Parse.j1 k x5 x6 x7 x8 true) else (if 0 ≤ (wrap64 ((x7.size : Int) - 1)) then (if (wrap64 ((x7.size : Int) - 1)) < (x7.size : Int) then (length_Parse.j1 k x5 x6 x7 x8 ((bt x7 (wrap64 ((x7.size : Int) - 1))) == 48)) else (none)) else (none))) else (length_Parse.j1 k x5 x6 x7 x8 true))) else (length_Parse.j1 k x5 x6 x7 x8 false))
def length_Parse.j1 : Nat → Bool → ByteArray → ByteArray → Bool → Bool → Option (Int × Int)
  | 0, _, _, _, _, _ => none
  | k + 1, x5, x6, x7, x8, x62 => if x62 = true then (some (0, 3)) else (if x5 = true then (if x6.toList = ([48] : List UInt8) then (length_Parse.j2 k x5 x6 x7 (!x8)) else (length_Parse.j2 k x5 x6 x7 false)) else (length_Parse.j2 k x5 x6 x7 false))
def length_Parse.j2 : Nat → Bool → ByteArray → ByteArray → Bool → Option (Int × Int)
  | 0, _, _, _, _ => none
  | k + 1, x5, x6, x7, x71 => if x71 = true then (some (0, 3)) else (if (x6.size : Int) > 8 then (some (0, 2)) else (if x7.size + 3 ≤ 9223372036854775807 then (if 0 ≤ 3 then (if 3 ≤ ((x7 ++ (⟨#[48, 48, 48]⟩ : ByteArray)).size : Int) then (if x6.size + ((x7 ++ (⟨#[48, 48, 48]⟩ : ByteArray)).extract 0 3).size ≤ 9223372036854775807 then ((strconv_Atoi.f (x6 ++ ((x7 ++ (⟨#[48, 48, 48]⟩ : ByteArray)).extract 0 3))).bind fun bt206 => (if x5 = true then ((length_Valid.f (wrap64 (-bt206.1))).bind fun t208 => (if t208 = true then (some (wrap64 (-bt206.1), 0)) else (some (0, 2)))) else ((length_Valid.f bt206.1).bind fun t209 => (if t209 = true then (some (bt206.1, 0)) else (some (0, 2)))))) else (none)) else (none)) else (none)) else (none)))
end
def length_Parse.f (k : Nat) (a0 : ByteArray) : Option (Int × Int) := (strings_CutSuffix.f a0 (⟨#[112, 116]⟩ : ByteArray)).bind fun bt197 => ((strings_CutPrefix.f bt197.1 (⟨#[45]⟩ : ByteArray)).bind fun bt199 => ((strings_Cut.f bt199.1 (⟨#[46]⟩ : ByteArray)).bind fun bt201 => (if bt197.2 = true then ((length_digits.f bt201.1).bind fun t204 => (if t204 = true then (if (bt201.1.size : Int) > 1 then (if 0 < (bt201.1.size : Int) then (length_Parse.j0 k bt199.2 bt201.1 bt201.2.1 bt201.2.2 ((bt bt201.1 0) == 48)) else (none)) else (length_Parse.j0 k bt199.2 bt201.1 bt201.2.1 bt201.2.2 false)) else (length_Parse.j0 k bt199.2 bt201.1 bt201.2.1 bt201.2.2 true))) else (length_Parse.j0 k bt199.2 bt201.1 bt201.2.1 bt201.2.2 true))))
theorem length_Parse.mono_l : ∀ k, (∀ y0 y1 y2 y3 y4, LeO (length_Parse.j0 k y0 y1 y2 y3 y4) (length_Parse.j0 (k + 1) y0 y1 y2 y3 y4)) ∧ (∀ y0 y1 y2 y3 y4, LeO (length_Parse.j1 k y0 y1 y2 y3 y4) (length_Parse.j1 (k + 1) y0 y1 y2 y3 y4)) ∧ (∀ y0 y1 y2 y3, LeO (length_Parse.j2 k y0 y1 y2 y3) (length_Parse.j2 (k + 1) y0 y1 y2 y3))
  | 0 => ⟨fun _ _ _ _ _ r h => by simp [length_Parse.j0] at h, fun _ _ _ _ _ r h => by simp [length_Parse.j1] at h, fun _ _ _ _ r h => by simp [length_Parse.j2] at h⟩
  | k + 1 => by
    obtain ⟨ih0, ih1, ih2⟩ := length_Parse.mono_l k
    refine ⟨?_, ?_, ?_⟩
    · intro y0 y1 y2 y3 y4
      unfold length_Parse.j0
      repeat' first
      | (with_reducible exact ih0 _ _ _ _ _)
      | (with_reducible exact ih1 _ _ _ _ _)
      | (with_reducible exact ih2 _ _ _ _)
      | (with_reducible exact LeO.refl _)
      | (with_reducible exact LeO.none _)
      | (with_reducible refine LeO.ite ?_ ?_)
      | (with_reducible refine LeO.bind ?_ (fun _ => ?_))
      | exact ih0 _ _ _ _ _
      | exact ih1 _ _ _ _ _
      | exact ih2 _ _ _ _
      | exact LeO.none _
      | refine LeO.ite ?_ ?_
      | refine LeO.bind ?_ (fun _ => ?_)
    · intro y0 y1 y2 y3 y4
      unfold length_Parse.j1
      repeat' first
      | (with_reducible exact ih0 _ _ _ _ _)
      | (with_reducible exact ih1 _ _ _ _ _)
      | (with_reducible exact ih2 _ _ _ _)
      | (with_reducible exact LeO.refl _)
      | (with_reducible exact LeO.none _)
      | (with_reducible refine LeO.ite ?_ ?_)
      | (with_reducible refine LeO.bind ?_ (fun _ => ?_))
      | exact ih0 _ _ _ _ _
      | exact ih1 _ _ _ _ _
      | exact ih2 _ _ _ _
      | exact LeO.none _
      | refine LeO.ite ?_ ?_
      | refine LeO.bind ?_ (fun _ => ?_)
    · intro y0 y1 y2 y3
      unfold length_Parse.j2
      repeat' first
      | (with_reducible exact ih0 _ _ _ _ _)
      | (with_reducible exact ih1 _ _ _ _ _)
      | (with_reducible exact ih2 _ _ _ _)
      | (with_reducible exact LeO.refl _)
      | (with_reducible exact LeO.none _)
      | (with_reducible refine LeO.ite ?_ ?_)
      | (with_reducible refine LeO.bind ?_ (fun _ => ?_))
      | exact ih0 _ _ _ _ _
      | exact ih1 _ _ _ _ _
      | exact ih2 _ _ _ _
      | exact LeO.none _
      | refine LeO.ite ?_ ?_
      | refine LeO.bind ?_ (fun _ => ?_)
theorem length_Parse.mono : ∀ a0 k, LeO (length_Parse.f k a0) (length_Parse.f (k + 1) a0) := by
  intro a0 k
  obtain ⟨ih0, ih1, ih2⟩ := length_Parse.mono_l k
  unfold length_Parse.f
  repeat' first
      | (with_reducible exact ih0 _ _ _ _ _)
      | (with_reducible exact ih1 _ _ _ _ _)
      | (with_reducible exact ih2 _ _ _ _)
      | (with_reducible exact LeO.refl _)
      | (with_reducible exact LeO.none _)
      | (with_reducible refine LeO.ite ?_ ?_)
      | (with_reducible refine LeO.bind ?_ (fun _ => ?_))
      | exact ih0 _ _ _ _ _
      | exact ih1 _ _ _ _ _
      | exact ih2 _ _ _ _
      | exact LeO.none _
      | refine LeO.ite ?_ ?_
      | refine LeO.bind ?_ (fun _ => ?_)
set_option maxHeartbeats 8000000 in
set_option maxRecDepth 100000 in
theorem length_Parse.calls (k : Nat) (a0 : ByteArray) (r1 : Int) (r2 : Int) (w : World) (hG : Gw w) (h : length_Parse.f k a0 = some (r1, r2)) :
    Calls Tryd.prog 24 #[.string a0] w fun e w' => e = .returned (.tuple #[.int .i64 r1, .int .i64 r2]) ∧ Below w.heap.size w w' := by
  have HB := Aside0.mk (Below.refl w.heap.size w)
  have HG := Aside0.mk hG
  clear hG
  have H : ((strings_CutSuffix.f a0 (⟨#[112, 116]⟩ : ByteArray)).bind fun bt197 => ((strings_CutPrefix.f bt197.1 (⟨#[45]⟩ : ByteArray)).bind fun bt199 => ((strings_Cut.f bt199.1 (⟨#[46]⟩ : ByteArray)).bind fun bt201 => (if bt197.2 = true then ((length_digits.f bt201.1).bind fun t204 => (if t204 = true then (if (bt201.1.size : Int) > 1 then (if 0 < (bt201.1.size : Int) then (length_Parse.j0 k bt199.2 bt201.1 bt201.2.1 bt201.2.2 ((bt bt201.1 0) == 48)) else (none)) else (length_Parse.j0 k bt199.2 bt201.1 bt201.2.1 bt201.2.2 false)) else (length_Parse.j0 k bt199.2 bt201.1 bt201.2.1 bt201.2.2 true))) else (length_Parse.j0 k bt199.2 bt201.1 bt201.2.1 bt201.2.2 true))))) = some (r1, r2) := h
  clear h
  replace H := Option.bind_eq_some_iff.mp H
  obtain ⟨⟨t197, t198⟩, A20, H⟩ := H
  replace H : ((strings_CutPrefix.f t197 (⟨#[45]⟩ : ByteArray)).bind fun bt199 => ((strings_Cut.f bt199.1 (⟨#[46]⟩ : ByteArray)).bind fun bt201 => (if t198 = true then ((length_digits.f bt201.1).bind fun t204 => (if t204 = true then (if (bt201.1.size : Int) > 1 then (if 0 < (bt201.1.size : Int) then (length_Parse.j0 k bt199.2 bt201.1 bt201.2.1 bt201.2.2 ((bt bt201.1 0) == 48)) else (none)) else (length_Parse.j0 k bt199.2 bt201.1 bt201.2.1 bt201.2.2 false)) else (length_Parse.j0 k bt199.2 bt201.1 bt201.2.1 bt201.2.2 true))) else (length_Parse.j0 k bt199.2 bt201.1 bt201.2.1 bt201.2.2 true)))) = some (r1, r2) := H
  have A2 := Aside0.mk A20
  clear A20
  replace H := Option.bind_eq_some_iff.mp H
  obtain ⟨⟨t199, t200⟩, A30, H⟩ := H
  replace H : ((strings_Cut.f t199 (⟨#[46]⟩ : ByteArray)).bind fun bt201 => (if t198 = true then ((length_digits.f bt201.1).bind fun t204 => (if t204 = true then (if (bt201.1.size : Int) > 1 then (if 0 < (bt201.1.size : Int) then (length_Parse.j0 k t200 bt201.1 bt201.2.1 bt201.2.2 ((bt bt201.1 0) == 48)) else (none)) else (length_Parse.j0 k t200 bt201.1 bt201.2.1 bt201.2.2 false)) else (length_Parse.j0 k t200 bt201.1 bt201.2.1 bt201.2.2 true))) else (length_Parse.j0 k t200 bt201.1 bt201.2.1 bt201.2.2 true))) = some (r1, r2) := H
  have A3 := Aside0.mk A30
  clear A30
  replace H := Option.bind_eq_some_iff.mp H
  obtain ⟨⟨t201, t202, t203⟩, A40, H⟩ := H
  replace H : (if t198 = true then ((length_digits.f t201).bind fun t204 => (if t204 = true then (if (t201.size : Int) > 1 then (if 0 < (t201.size : Int) then (length_Parse.j0 k t200 t201 t202 t203 ((bt t201 0) == 48)) else (none)) else (length_Parse.j0 k t200 t201 t202 t203 false)) else (length_Parse.j0 k t200 t201 t202 t203 true))) else (length_Parse.j0 k t200 t201 t202 t203 true)) = some (r1, r2) := H
  have A4 := Aside0.mk A40
  clear A40
  have HC5 := Aside0.mk H
  clear H
  go_enter Tryd.func24, Tryd.ntmps24
  go_upto_region 4 with (first | ((with_reducible refine gate_callee (f := 31) rfl ?_); refine goesL_ (some 13) rfl rfl Tryd.func31 (by kernel_rfl) rfl #[.string a0, .string (⟨#[112, 116]⟩ : ByteArray)] rfl (by (try simp only [List.map_toArray, List.map_cons, List.map_nil]); first | done | rfl | (simp only [List.length_drop, List.length_take]; rfl)) ?_; (with_reducible refine (strings_CutSuffix.calls a0 (⟨#[112, 116]⟩ : ByteArray) t197 t198 _ A2.out).mono ?_); rintro e w' ⟨rfl, ⟨nd, rfl⟩⟩; refine ⟨_, rfl, ?_⟩) | ((with_reducible refine gate_callee (f := 32) rfl ?_); refine goesL_ (some 18) rfl rfl Tryd.func32 (by kernel_rfl) rfl #[.string t197, .string (⟨#[45]⟩ : ByteArray)] rfl (by (try simp only [List.map_toArray, List.map_cons, List.map_nil]); first | done | rfl | (simp only [List.length_drop, List.length_take]; rfl)) ?_; (with_reducible refine (strings_CutPrefix.calls t197 (⟨#[45]⟩ : ByteArray) t199 t200 _ A3.out).mono ?_); rintro e w' ⟨rfl, ⟨nd, rfl⟩⟩; refine ⟨_, rfl, ?_⟩) | ((with_reducible refine gate_callee (f := 33) rfl ?_); refine goesL_ (some 23) rfl rfl Tryd.func33 (by kernel_rfl) rfl #[.string t199, .string (⟨#[46]⟩ : ByteArray)] rfl (by (try simp only [List.map_toArray, List.map_cons, List.map_nil]); first | done | rfl | (simp only [List.length_drop, List.length_take]; rfl)) ?_; (with_reducible refine (strings_Cut.calls t199 (⟨#[46]⟩ : ByteArray) t201 t202 t203 _ ?side1 A4.out).mono ?_); (case side1 => first | exact HG.out | (with_reducible exact Gw.drewN HG.out _) | exact Gw.below HG.out (by repeat (first | (with_reducible first | exact HB.out | apply below_alloc | apply pw_below_drewN | apply below_drew1) | exact HB.out)) | ((repeat (first | (with_reducible exact HG.out) | (with_reducible apply Gw.drewN) | (with_reducible apply Gw.drew))); done)); rintro e w' ⟨rfl, ⟨nd, rfl⟩⟩; refine ⟨_, rfl, ?_⟩))
  (try simp only [Act.put, List.setIfInBounds_toArray, List.set_cons_zero, List.set_cons_succ])
  go_cut [43] (fun v43 wc => ∃ (kq : Nat) (x43_4 : Bool), v43 = .bool x43_4 ∧ Aside0 (length_Parse.j0 kq t200 t201 t202 t203 x43_4 = some (r1, r2)) ∧ Aside0 (kq ≤ k) ∧ Aside0 (Below w.heap.size w wc))
  case first =>
    have H := HC5.out
    clear HC5
    by_cases c6 : t198 = true
    · subst c6
      have H1 : ((length_digits.f t201).bind fun t204 => (if t204 = true then (if (t201.size : Int) > 1 then (if 0 < (t201.size : Int) then (length_Parse.j0 k t200 t201 t202 t203 ((bt t201 0) == 48)) else (none)) else (length_Parse.j0 k t200 t201 t202 t203 false)) else (length_Parse.j0 k t200 t201 t202 t203 true))) = some (r1, r2) := by rw [if_pos rfl] at H; exact H
      clear H
      have H := H1
      clear H1
      replace H := Option.bind_eq_some_iff.mp H
      obtain ⟨t204, A70, H⟩ := H
      replace H : (if t204 = true then (if (t201.size : Int) > 1 then (if 0 < (t201.size : Int) then (length_Parse.j0 k t200 t201 t202 t203 ((bt t201 0) == 48)) else (none)) else (length_Parse.j0 k t200 t201 t202 t203 false)) else (length_Parse.j0 k t200 t201 t202 t203 true)) = some (r1, r2) := H
      have A7 := Aside0.mk A70
      clear A70
      by_cases c8 : t204 = true
      · subst c8
        have H1 : (if (t201.size : Int) > 1 then (if 0 < (t201.size : Int) then (length_Parse.j0 k t200 t201 t202 t203 ((bt t201 0) == 48)) else (none)) else (length_Parse.j0 k t200 t201 t202 t203 false)) = some (r1, r2) := by rw [if_pos rfl] at H; exact H
        clear H
        have H := H1
        clear H1
        by_cases c9 : (t201.size : Int) > 1
        · rw [if_pos c9] at H
          have c9b0 : decide (1 < (t201.size : Int)) = true := decide_eq_true c9
          have c9b1 : decide (1 < t201.size) = true := decide_eq_true (by omega)
          clear c9
          (first | rw [c9b0] | (simp only [i64_w, i32_w]; rw [c9b0]) | skip)
          by_cases c10 : 0 < (t201.size : Int)
          · rw [if_pos c10] at H
            have c10b0 : decide (0 < (t201.size : Int)) = true := decide_eq_true c10
            have c10b1 : decide (0 < t201.size) = true := decide_eq_true (by omega)
            clear c10
            have H' := Aside0.mk H
            clear H
            go_wp2_with (first | (go_at_call 34; (with_reducible refine (length_digits.calls t201 true _ A7.out).mono ?_); rintro e w12 ⟨rfl, hb⟩; have n0_ := Aside0.mk (below_step (by repeat (first | (with_reducible first | exact HB.out | apply below_alloc | apply pw_below_drewN | apply below_drew1) | exact HB.out)) hb); clear HB; have HB := n0_; clear n0_; (try clear hb); (try clear hb2); (try clear hk); (try clear hi); have p11 : 0 ≤ (0 : Int) := (by omega); have q11 : 0 < t201.size := (by have : (0 : Int) < (t201.size : Int) := of_decide_eq_true (by first | (with_reducible assumption) | assumption); omega); have hx11 : ∀ h : 0 < t201.size, ((t201[0]'h).toNat : Int) = bt t201 0 := bt_at t201 0; clear p11; have qi11 : (0 < (t201.size : Int)) = True := eq_true (of_decide_eq_true (by first | (with_reducible assumption) | assumption)); replace q11 := eq_true q11))
            go_meet
            case rel => exact ⟨_, (((bt t201 0) == 48)), (by first | rfl | (simp; done) | (simp [*]; done)), H', ⟨by first | omega | exact Nat.le_refl _⟩, ⟨by repeat (first | (with_reducible first | exact HB.out | apply below_alloc | apply pw_below_drewN | apply below_drew1) | exact HB.out)⟩⟩
          · rw [if_neg c10] at H
            exact absurd H (by simp)
        · rw [if_neg c9] at H
          have c9b0 : decide (1 < (t201.size : Int)) = false := decide_eq_false c9
          have c9b1 : decide (1 < t201.size) = false := decide_eq_false (by omega)
          clear c9
          (first | rw [c9b0] | (simp only [i64_w, i32_w]; rw [c9b0]) | skip)
          have H' := Aside0.mk H
          clear H
          go_wp2_with (first | (go_at_call 34; (with_reducible refine (length_digits.calls t201 true _ A7.out).mono ?_); rintro e w13 ⟨rfl, hb⟩; have n0_ := Aside0.mk (below_step (by repeat (first | (with_reducible first | exact HB.out | apply below_alloc | apply pw_below_drewN | apply below_drew1) | exact HB.out)) hb); clear HB; have HB := n0_; clear n0_; (try clear hb); (try clear hb2); (try clear hk); (try clear hi)))
          go_meet
          case rel => exact ⟨_, (false), (by first | rfl | (simp; done) | (simp [*]; done)), H', ⟨by first | omega | exact Nat.le_refl _⟩, ⟨by repeat (first | (with_reducible first | exact HB.out | apply below_alloc | apply pw_below_drewN | apply below_drew1) | exact HB.out)⟩⟩
      · replace c8 := Bool.eq_false_iff.mpr c8
        subst c8
        have H1 : (length_Parse.j0 k t200 t201 t202 t203 true) = some (r1, r2) := by rw [if_neg (show ¬ (false = true) by decide)] at H; exact H
        clear H
        have H := H1
        clear H1
        have H' := Aside0.mk H
        clear H
        go_wp2_with (first | (go_at_call 34; (with_reducible refine (length_digits.calls t201 false _ A7.out).mono ?_); rintro e w14 ⟨rfl, hb⟩; have n0_ := Aside0.mk (below_step (by repeat (first | (with_reducible first | exact HB.out | apply below_alloc | apply pw_below_drewN | apply below_drew1) | exact HB.out)) hb); clear HB; have HB := n0_; clear n0_; (try clear hb); (try clear hb2); (try clear hk); (try clear hi)))
        go_meet
        case rel => exact ⟨_, (true), (by first | rfl | (simp; done) | (simp [*]; done)), H', ⟨by first | omega | exact Nat.le_refl _⟩, ⟨by repeat (first | (with_reducible first | exact HB.out | apply below_alloc | apply pw_below_drewN | apply below_drew1) | exact HB.out)⟩⟩
    · replace c6 := Bool.eq_false_iff.mpr c6
      subst c6
      have H1 : (length_Parse.j0 k t200 t201 t202 t203 true) = some (r1, r2) := by rw [if_neg (show ¬ (false = true) by decide)] at H; exact H
      clear H
      have H := H1
      clear H1
      have H' := Aside0.mk H
      clear H
      go_wp2
      go_meet
      case rel => exact ⟨_, (true), (by first | rfl | (simp; done) | (simp [*]; done)), H', ⟨by first | omega | exact Nat.le_refl _⟩, ⟨by repeat (first | (with_reducible first | exact HB.out | apply below_alloc | apply pw_below_drewN | apply below_drew1) | exact HB.out)⟩⟩
  case rest =>
    clear HC5
    try clear c1
    try clear p1
    try clear q1
    try clear hx1
    try clear qi1
    try clear c2
    try clear p2
    try clear c3
    try clear c6
    try clear c8
    try clear c9
    try clear c9b0
    try clear c9b1
    try clear c10
    try clear c10b0
    try clear c10b1
    try clear p11
    try clear q11
    try clear hx11
    try clear qi11
    try clear p11
    try clear q11
    obtain ⟨kq, x43_4, rfl, HA, HJ4, HB⟩ := hcut
    cases kq with
    | zero => exact absurd HA.out (by simp [length_Parse.j0])
    | succ kj4 =>
      have H := HA.out
      clear HA
      simp only [length_Parse.j0] at H
      by_cases c15 : x43_4 = true
      · subst c15
        have H1 : (some (0, 3)) = some (r1, r2) := by rw [if_pos rfl] at H; exact H
        clear H
        have H := H1
        clear H1
        simp only [Option.some.injEq, Prod.mk.injEq] at H
        obtain ⟨rfl, rfl⟩ := H
        go_wp2
        go_ret2
        exact ⟨by first | rfl | (simp [errW_none, errW_some] <;> rfl) | (simp [*, errW_none, errW_some] <;> rfl), by repeat (first | (with_reducible first | exact HB.out | apply below_alloc | apply pw_below_drewN | apply below_drew1) | exact HB.out)⟩
      · replace c15 := Bool.eq_false_iff.mpr c15
        subst c15
        have H1 : (if t203 = true then ((length_digits.f t202).bind fun t205 => (if t205 = true then (if (t202.size : Int) > 3 then (length_Parse.j1 kj4 t200 t201 t202 t203 true) else (if 0 ≤ (wrap64 ((t202.size : Int) - 1)) then (if (wrap64 ((t202.size : Int) - 1)) < (t202.size : Int) then (length_Parse.j1 kj4 t200 t201 t202 t203 ((bt t202 (wrap64 ((t202.size : Int) - 1))) == 48)) else (none)) else (none))) else (length_Parse.j1 kj4 t200 t201 t202 t203 true))) else (length_Parse.j1 kj4 t200 t201 t202 t203 false)) = some (r1, r2) := by rw [if_neg (show ¬ (false = true) by decide)] at H; exact H
        clear H
        have H := H1
        clear H1
        have HC16 := Aside0.mk H
        clear H
        go_upto_region 6 with (fail)
        go_cut [62] (fun v62 wc => ∃ (kq : Nat) (x62_15 : Bool), v62 = .bool x62_15 ∧ Aside0 (length_Parse.j1 kq t200 t201 t202 t203 x62_15 = some (r1, r2)) ∧ Aside0 (kq ≤ kj4) ∧ Aside0 (Below w.heap.size w wc))
        case first =>
          have H := HC16.out
          clear HC16
          by_cases c17 : t203 = true
          · subst c17
            have H1 : ((length_digits.f t202).bind fun t205 => (if t205 = true then (if (t202.size : Int) > 3 then (length_Parse.j1 kj4 t200 t201 t202 true true) else (if 0 ≤ (wrap64 ((t202.size : Int) - 1)) then (if (wrap64 ((t202.size : Int) - 1)) < (t202.size : Int) then (length_Parse.j1 kj4 t200 t201 t202 true ((bt t202 (wrap64 ((t202.size : Int) - 1))) == 48)) else (none)) else (none))) else (length_Parse.j1 kj4 t200 t201 t202 true true))) = some (r1, r2) := by rw [if_pos rfl] at H; exact H
            clear H
            have H := H1
            clear H1
            replace H := Option.bind_eq_some_iff.mp H
            obtain ⟨t205, A180, H⟩ := H
            replace H : (if t205 = true then (if (t202.size : Int) > 3 then (length_Parse.j1 kj4 t200 t201 t202 true true) else (if 0 ≤ (wrap64 ((t202.size : Int) - 1)) then (if (wrap64 ((t202.size : Int) - 1)) < (t202.size : Int) then (length_Parse.j1 kj4 t200 t201 t202 true ((bt t202 (wrap64 ((t202.size : Int) - 1))) == 48)) else (none)) else (none))) else (length_Parse.j1 kj4 t200 t201 t202 true true)) = some (r1, r2) := H
            have A18 := Aside0.mk A180
            clear A180
            by_cases c19 : t205 = true
            · subst c19
              have H1 : (if (t202.size : Int) > 3 then (length_Parse.j1 kj4 t200 t201 t202 true true) else (if 0 ≤ (wrap64 ((t202.size : Int) - 1)) then (if (wrap64 ((t202.size : Int) - 1)) < (t202.size : Int) then (length_Parse.j1 kj4 t200 t201 t202 true ((bt t202 (wrap64 ((t202.size : Int) - 1))) == 48)) else (none)) else (none))) = some (r1, r2) := by rw [if_pos rfl] at H; exact H
              clear H
              have H := H1
              clear H1
              by_cases c20 : (t202.size : Int) > 3
              · rw [if_pos c20] at H
                have c20b0 : decide (3 < (t202.size : Int)) = true := decide_eq_true c20
                have c20b1 : decide (3 < t202.size) = true := decide_eq_true (by omega)
                clear c20
                (first | rw [c20b0] | (simp only [i64_w, i32_w]; rw [c20b0]) | skip)
                have H' := Aside0.mk H
                clear H
                go_wp2_with (first | (go_at_call 34; (with_reducible refine (length_digits.calls t202 true _ A18.out).mono ?_); rintro e w21 ⟨rfl, hb⟩; have n0_ := Aside0.mk (below_step (by repeat (first | (with_reducible first | exact HB.out | apply below_alloc | apply pw_below_drewN | apply below_drew1) | exact HB.out)) hb); clear HB; have HB := n0_; clear n0_; (try clear hb); (try clear hb2); (try clear hk); (try clear hi)))
                go_meet
                case rel => exact ⟨_, (true), (by first | rfl | (simp; done) | (simp [*]; done)), H', ⟨by have := HJ4.out; first | omega | exact Nat.le_refl _⟩, ⟨by repeat (first | (with_reducible first | exact HB.out | apply below_alloc | apply pw_below_drewN | apply below_drew1) | exact HB.out)⟩⟩
              · rw [if_neg c20] at H
                have c20b0 : decide (3 < (t202.size : Int)) = false := decide_eq_false c20
                have c20b1 : decide (3 < t202.size) = false := decide_eq_false (by omega)
                clear c20
                (first | rw [c20b0] | (simp only [i64_w, i32_w]; rw [c20b0]) | skip)
                obtain ⟨ji22, hji22⟩ : ∃ j_ : Int, (wrap64 ((t202.size : Int) - 1)) = j_ := ⟨_, rfl⟩
                replace H : (if 0 ≤ (ji22) then (if (ji22) < (t202.size : Int) then (length_Parse.j1 kj4 t200 t201 t202 true ((bt t202 (ji22)) == 48)) else (none)) else (none)) = some (r1, r2) := by first | (rw [hji22] at H; exact H) | (simp only [hji22] at H ⊢; exact H)
                (try rw [hji22] at A18)
                have hji22w : (IntKind.i64.wrap ((t202.size : Int) - 1)) = ji22 := (i64_w _).trans hji22
                by_cases c23 : 0 ≤ (ji22)
                · rw [if_pos c23] at H
                  have c23b0 : decide (0 ≤ (ji22)) = true := decide_eq_true c23
                  clear c23
                  by_cases c24 : (ji22) < (t202.size : Int)
                  · rw [if_pos c24] at H
                    have c24b0 : decide ((ji22) < (t202.size : Int)) = true := decide_eq_true c24
                    clear c24
                    have H' := Aside0.mk H
                    clear H
                    go_wp2_with (first | (go_at_call 34; (with_reducible refine (length_digits.calls t202 true _ A18.out).mono ?_); rintro e w26 ⟨rfl, hb⟩; have n0_ := Aside0.mk (below_step (by repeat (first | (with_reducible first | exact HB.out | apply below_alloc | apply pw_below_drewN | apply below_drew1) | exact HB.out)) hb); clear HB; have HB := n0_; clear n0_; (try clear hb); (try clear hb2); (try clear hk); (try clear hi); have p25 : 0 ≤ ((ji22) : Int) := of_decide_eq_true (by first | (with_reducible assumption) | assumption); have q25 : (ji22) < (t202.size : Int) := of_decide_eq_true (by first | (with_reducible assumption) | assumption); have hx25 := bt_at t202 (ji22); replace p25 := eq_true p25; replace q25 := eq_true q25))
                    go_meet
                    case rel => exact ⟨_, (((bt t202 (ji22)) == 48)), (by first | rfl | (simp; done) | (simp only [← hji22] <;> (first | rfl | simp)) | (simp [*]; done)), H', ⟨by have := HJ4.out; first | omega | exact Nat.le_refl _⟩, ⟨by repeat (first | (with_reducible first | exact HB.out | apply below_alloc | apply pw_below_drewN | apply below_drew1) | exact HB.out)⟩⟩
                  · rw [if_neg c24] at H
                    exact absurd H (by simp)
                · rw [if_neg c23] at H
                  exact absurd H (by simp)
            · replace c19 := Bool.eq_false_iff.mpr c19
              subst c19
              have H1 : (length_Parse.j1 kj4 t200 t201 t202 true true) = some (r1, r2) := by rw [if_neg (show ¬ (false = true) by decide)] at H; exact H
              clear H
              have H := H1
              clear H1
              have H' := Aside0.mk H
              clear H
              go_wp2_with (first | (go_at_call 34; (with_reducible refine (length_digits.calls t202 false _ A18.out).mono ?_); rintro e w27 ⟨rfl, hb⟩; have n0_ := Aside0.mk (below_step (by repeat (first | (with_reducible first | exact HB.out | apply below_alloc | apply pw_below_drewN | apply below_drew1) | exact HB.out)) hb); clear HB; have HB := n0_; clear n0_; (try clear hb); (try clear hb2); (try clear hk); (try clear hi)))
              go_meet
              case rel => exact ⟨_, (true), (by first | rfl | (simp; done) | (simp [*]; done)), H', ⟨by have := HJ4.out; first | omega | exact Nat.le_refl _⟩, ⟨by repeat (first | (with_reducible first | exact HB.out | apply below_alloc | apply pw_below_drewN | apply below_drew1) | exact HB.out)⟩⟩
          · replace c17 := Bool.eq_false_iff.mpr c17
            subst c17
            have H1 : (length_Parse.j1 kj4 t200 t201 t202 false false) = some (r1, r2) := by rw [if_neg (show ¬ (false = true) by decide)] at H; exact H
            clear H
            have H := H1
            clear H1
            have H' := Aside0.mk H
            clear H
            go_wp2
            go_meet
            case rel => exact ⟨_, (false), (by first | rfl | (simp; done) | (simp [*]; done)), H', ⟨by have := HJ4.out; first | omega | exact Nat.le_refl _⟩, ⟨by repeat (first | (with_reducible first | exact HB.out | apply below_alloc | apply pw_below_drewN | apply below_drew1) | exact HB.out)⟩⟩
        case rest =>
          clear HC16
          try clear c1
          try clear p1
          try clear q1
          try clear hx1
          try clear qi1
          try clear c2
          try clear p2
          try clear q2
          try clear hx2
          try clear c3
          try clear c6
          try clear p6
          try clear c8
          try clear c9
          try clear c9b0
          try clear c9b1
          try clear c10
          try clear c10b0
          try clear c10b1
          try clear p11
          try clear q11
          try clear hx11
          try clear qi11
          try clear c15
          try clear c17
          try clear c19
          try clear c20
          try clear c20b0
          try clear c20b1
          try clear c23
          try clear c23b0
          try clear c24
          try clear c24b0
          try clear p25
          try clear q25
          try clear hx25
          try clear p1
          try clear p11
          try clear p2
          try clear p25
          try clear q1
          try clear q11
          try clear q25
          obtain ⟨kq, x62_15, rfl, HA, HJ15, HB⟩ := hcut
          cases kq with
          | zero => exact absurd HA.out (by simp [length_Parse.j1])
          | succ kj15 =>
            have H := HA.out
            clear HA
            simp only [length_Parse.j1] at H
            by_cases c28 : x62_15 = true
            · subst c28
              have H1 : (some (0, 3)) = some (r1, r2) := by rw [if_pos rfl] at H; exact H
              clear H
              have H := H1
              clear H1
              simp only [Option.some.injEq, Prod.mk.injEq] at H
              obtain ⟨rfl, rfl⟩ := H
              go_wp2
              go_ret2
              exact ⟨by first | rfl | (simp [errW_none, errW_some] <;> rfl) | (simp [*, errW_none, errW_some] <;> rfl), by repeat (first | (with_reducible first | exact HB.out | apply below_alloc | apply pw_below_drewN | apply below_drew1) | exact HB.out)⟩
            · replace c28 := Bool.eq_false_iff.mpr c28
              subst c28
              have H1 : (if t200 = true then (if t201.toList = ([48] : List UInt8) then (length_Parse.j2 kj15 t200 t201 t202 (!t203)) else (length_Parse.j2 kj15 t200 t201 t202 false)) else (length_Parse.j2 kj15 t200 t201 t202 false)) = some (r1, r2) := by rw [if_neg (show ¬ (false = true) by decide)] at H; exact H
              clear H
              have H := H1
              clear H1
              have HC29 := Aside0.mk H
              clear H
              go_upto_region 8 with (fail)
              go_cut [71] (fun v71 wc => ∃ (kq : Nat) (x71_28 : Bool), v71 = .bool x71_28 ∧ Aside0 (length_Parse.j2 kq t200 t201 t202 x71_28 = some (r1, r2)) ∧ Aside0 (kq ≤ kj15) ∧ Aside0 (Below w.heap.size w wc))
              case first =>
                have H := HC29.out
                clear HC29
                by_cases c30 : t200 = true
                · subst c30
                  have H1 : (if t201.toList = ([48] : List UInt8) then (length_Parse.j2 kj15 true t201 t202 (!t203)) else (length_Parse.j2 kj15 true t201 t202 false)) = some (r1, r2) := by rw [if_pos rfl] at H; exact H
                  clear H
                  have H := H1
                  clear H1
                  by_cases c31 : t201.toList = ([48] : List UInt8)
                  · rw [if_pos c31] at H
                    have c31b0 : (t201.toList == ([48] : List UInt8)) = true := beq_iff_eq.mpr c31
                    have c31b1 : (t201.toList != ([48] : List UInt8)) = false := bne_eq_false_iff_eq.mpr c31
                    clear c31
                    (first | rw [c31b0] | (simp only [i64_w, i32_w]; rw [c31b0]) | skip)
                    have H' := Aside0.mk H
                    clear H
                    go_wp2
                    go_meet
                    case rel => exact ⟨_, (!t203), (by first | rfl | (simp; done) | (simp [*]; done)), H', ⟨by have := HJ4.out; have := HJ15.out; first | omega | exact Nat.le_refl _⟩, ⟨by repeat (first | (with_reducible first | exact HB.out | apply below_alloc | apply pw_below_drewN | apply below_drew1) | exact HB.out)⟩⟩
                  · rw [if_neg c31] at H
                    have c31b0 : (t201.toList == ([48] : List UInt8)) = false := beq_eq_false_iff_ne.mpr c31
                    have c31b1 : (t201.toList != ([48] : List UInt8)) = true := bne_iff_ne.mpr c31
                    (first | rw [c31b0] | (simp only [i64_w, i32_w]; rw [c31b0]) | skip)
                    have H' := Aside0.mk H
                    clear H
                    go_wp2
                    go_meet
                    case rel => exact ⟨_, (false), (by first | rfl | (simp; done) | (simp [*]; done)), H', ⟨by have := HJ4.out; have := HJ15.out; first | omega | exact Nat.le_refl _⟩, ⟨by repeat (first | (with_reducible first | exact HB.out | apply below_alloc | apply pw_below_drewN | apply below_drew1) | exact HB.out)⟩⟩
                · replace c30 := Bool.eq_false_iff.mpr c30
                  subst c30
                  have H1 : (length_Parse.j2 kj15 false t201 t202 false) = some (r1, r2) := by rw [if_neg (show ¬ (false = true) by decide)] at H; exact H
                  clear H
                  have H := H1
                  clear H1
                  have H' := Aside0.mk H
                  clear H
                  go_wp2
                  go_meet
                  case rel => exact ⟨_, (false), (by first | rfl | (simp; done) | (simp [*]; done)), H', ⟨by have := HJ4.out; have := HJ15.out; first | omega | exact Nat.le_refl _⟩, ⟨by repeat (first | (with_reducible first | exact HB.out | apply below_alloc | apply pw_below_drewN | apply below_drew1) | exact HB.out)⟩⟩
              case rest =>
                clear HC29
                try clear c1
                try clear p1
                try clear q1
                try clear hx1
                try clear qi1
                try clear c2
                try clear p2
                try clear q2
                try clear hx2
                try clear c3
                try clear c6
                try clear p6
                try clear c8
                try clear c9
                try clear c9b0
                try clear c9b1
                try clear c10
                try clear c10b0
                try clear c10b1
                try clear p11
                try clear q11
                try clear hx11
                try clear qi11
                try clear c15
                try clear c17
                try clear c19
                try clear c20
                try clear c20b0
                try clear c20b1
                try clear c23
                try clear c23b0
                try clear c24
                try clear c24b0
                try clear p25
                try clear q25
                try clear hx25
                try clear c28
                try clear c30
                try clear c31
                try clear c31b0
                try clear c31b1
                try clear p1
                try clear p11
                try clear p2
                try clear p25
                try clear p6
                try clear q1
                try clear q11
                try clear q2
                try clear q25
                obtain ⟨kq, x71_28, rfl, HA, HJ28, HB⟩ := hcut
                cases kq with
                | zero => exact absurd HA.out (by simp [length_Parse.j2])
                | succ kj28 =>
                  have H := HA.out
                  clear HA
                  simp only [length_Parse.j2] at H
                  by_cases c32 : x71_28 = true
                  · subst c32
                    have H1 : (some (0, 3)) = some (r1, r2) := by rw [if_pos rfl] at H; exact H
                    clear H
                    have H := H1
                    clear H1
                    simp only [Option.some.injEq, Prod.mk.injEq] at H
                    obtain ⟨rfl, rfl⟩ := H
                    go_wp2
                    go_ret2
                    exact ⟨by first | rfl | (simp [errW_none, errW_some] <;> rfl) | (simp [*, errW_none, errW_some] <;> rfl), by repeat (first | (with_reducible first | exact HB.out | apply below_alloc | apply pw_below_drewN | apply below_drew1) | exact HB.out)⟩
                  · replace c32 := Bool.eq_false_iff.mpr c32
                    subst c32
                    have H1 : (if (t201.size : Int) > 8 then (some (0, 2)) else (if t202.size + 3 ≤ 9223372036854775807 then (if 0 ≤ 3 then (if 3 ≤ ((t202 ++ (⟨#[48, 48, 48]⟩ : ByteArray)).size : Int) then (if t201.size + ((t202 ++ (⟨#[48, 48, 48]⟩ : ByteArray)).extract 0 3).size ≤ 9223372036854775807 then ((strconv_Atoi.f (t201 ++ ((t202 ++ (⟨#[48, 48, 48]⟩ : ByteArray)).extract 0 3))).bind fun bt206 => (if t200 = true then ((length_Valid.f (wrap64 (-bt206.1))).bind fun t208 => (if t208 = true then (some (wrap64 (-bt206.1), 0)) else (some (0, 2)))) else ((length_Valid.f bt206.1).bind fun t209 => (if t209 = true then (some (bt206.1, 0)) else (some (0, 2)))))) else (none)) else (none)) else (none)) else (none))) = some (r1, r2) := by rw [if_neg (show ¬ (false = true) by decide)] at H; exact H
                    clear H
                    have H := H1
                    clear H1
                    by_cases c33 : (t201.size : Int) > 8
                    · rw [if_pos c33] at H
                      have c33b0 : decide (8 < (t201.size : Int)) = true := decide_eq_true c33
                      have c33b1 : decide (8 < t201.size) = true := decide_eq_true (by omega)
                      clear c33
                      simp only [Option.some.injEq, Prod.mk.injEq] at H
                      obtain ⟨rfl, rfl⟩ := H
                      go_wp2
                      go_ret2
                      exact ⟨by first | rfl | (simp [errW_none, errW_some] <;> rfl) | (simp [*, errW_none, errW_some] <;> rfl), by repeat (first | (with_reducible first | exact HB.out | apply below_alloc | apply pw_below_drewN | apply below_drew1) | exact HB.out)⟩
                    · rw [if_neg c33] at H
                      have c33b0 : decide (8 < (t201.size : Int)) = false := decide_eq_false c33
                      have c33b1 : decide (8 < t201.size) = false := decide_eq_false (by omega)
                      clear c33
                      by_cases c34 : t202.size + 3 ≤ 9223372036854775807
                      · rw [if_pos c34] at H
                        have c34b0 := eq_true c34
                        have c34b1 : decide (t202.size + 3 ≤ 9223372036854775807) = true := decide_eq_true c34
                        try have c34b2 : (9223372036854775807 < t202.size + 3) = False := eq_false (Nat.not_lt.2 c34)
                        try (have c34b3 : (9223372036854775807 < t202.size + 3) = False := eq_false (Nat.not_lt.2 c34); simp only [ByteArray.size_append] at c34b3)
                        by_cases c35 : 0 ≤ 3
                        · rw [if_pos c35] at H
                          have c35b0 := eq_true c35
                          have c35b1 : decide (0 ≤ 3) = true := decide_eq_true c35
                          clear c35
                          by_cases c36 : 3 ≤ ((t202 ++ (⟨#[48, 48, 48]⟩ : ByteArray)).size : Int)
                          · rw [if_pos c36] at H
                            have c36b0 := eq_true c36
                            have c36b1 : decide (3 ≤ ((t202 ++ (⟨#[48, 48, 48]⟩ : ByteArray)).size : Int)) = true := decide_eq_true c36
                            try (have c36b1n := c36b1; simp only [ByteArray.size_extract, Nat.min_self, Nat.sub_zero, ByteArray.size_append, show (⟨#[48, 48, 48]⟩ : ByteArray).size = 3 from rfl] at c36b1n)
                            by_cases c37 : t201.size + ((t202 ++ (⟨#[48, 48, 48]⟩ : ByteArray)).extract 0 3).size ≤ 9223372036854775807
                            · rw [if_pos c37] at H
                              have c37b0 := eq_true c37
                              have c37b1 : decide (t201.size + ((t202 ++ (⟨#[48, 48, 48]⟩ : ByteArray)).extract 0 3).size ≤ 9223372036854775807) = true := decide_eq_true c37
                              try (have c37b1n := c37b1; simp only [ByteArray.size_extract, Nat.min_self, Nat.sub_zero, ByteArray.size_append, show (⟨#[48, 48, 48]⟩ : ByteArray).size = 3 from rfl] at c37b1n)
                              try have c37b2 : (9223372036854775807 < t201.size + ((t202 ++ (⟨#[48, 48, 48]⟩ : ByteArray)).extract 0 3).size) = False := eq_false (Nat.not_lt.2 c37)
                              try (have c37b2n := c37b2; simp only [ByteArray.size_extract, Nat.min_self, Nat.sub_zero, ByteArray.size_append, show (⟨#[48, 48, 48]⟩ : ByteArray).size = 3 from rfl] at c37b2n)
                              try (have c37b3 : (9223372036854775807 < t201.size + ((t202 ++ (⟨#[48, 48, 48]⟩ : ByteArray)).extract 0 3).size) = False := eq_false (Nat.not_lt.2 c37); simp only [ByteArray.size_append, show (⟨#[48, 48, 48]⟩ : ByteArray).size = 3 from rfl] at c37b3)
                              replace H := Option.bind_eq_some_iff.mp H
                              obtain ⟨⟨t206, t207⟩, A380, H⟩ := H
                              replace H : (if t200 = true then ((length_Valid.f (wrap64 (-t206))).bind fun t208 => (if t208 = true then (some (wrap64 (-t206), 0)) else (some (0, 2)))) else ((length_Valid.f t206).bind fun t209 => (if t209 = true then (some (t206, 0)) else (some (0, 2))))) = some (r1, r2) := H
                              have A38 := Aside0.mk A380
                              clear A380
                              by_cases c39 : t200 = true
                              · subst c39
                                have H1 : ((length_Valid.f (wrap64 (-t206))).bind fun t208 => (if t208 = true then (some (wrap64 (-t206), 0)) else (some (0, 2)))) = some (r1, r2) := by rw [if_pos rfl] at H; exact H
                                clear H
                                have H := H1
                                clear H1
                                replace H := Option.bind_eq_some_iff.mp H
                                obtain ⟨t208, A400, H⟩ := H
                                replace H : (if t208 = true then (some (wrap64 (-t206), 0)) else (some (0, 2))) = some (r1, r2) := H
                                have A40 := Aside0.mk A400
                                clear A400
                                by_cases c41 : t208 = true
                                · subst c41
                                  have H1 : (some (wrap64 (-t206), 0)) = some (r1, r2) := by rw [if_pos rfl] at H; exact H
                                  clear H
                                  have H := H1
                                  clear H1
                                  simp only [Option.some.injEq, Prod.mk.injEq] at H
                                  obtain ⟨rfl, rfl⟩ := H
                                  try generalize hY43 : (t202 ++ (⟨#[48, 48, 48]⟩ : ByteArray)).extract 0 3 = Y43 at *
                                  go_wp2_with (first | ((with_reducible refine gate_callee (f := 35) rfl ?_); refine goesL_ (some 81) rfl rfl Tryd.func35 (by kernel_rfl) rfl #[.string (t201 ++ Y43)] rfl (by (try simp only [List.map_toArray, List.map_cons, List.map_nil]); first | done | rfl | (simp only [List.length_drop, List.length_take]; rfl)) ?_; (with_reducible refine (strconv_Atoi.calls (t201 ++ Y43) t206 t207 _ A38.out).mono ?_); rintro e w42 ⟨rfl, hb⟩; refine ⟨_, rfl, ?_⟩; have n0_ := Aside0.mk (below_step (by repeat (first | (with_reducible first | exact HB.out | apply below_alloc | apply pw_below_drewN | apply below_drew1) | exact HB.out)) hb); clear HB; have HB := n0_; clear n0_; (try clear hb); (try clear hb2); (try clear hk); (try clear hi); (try simp only [errW_none, errW_some])) | ((with_reducible refine gate_callee (f := 11) rfl ?_); refine goesL_ (some 88) rfl rfl Tryd.func11 (by kernel_rfl) rfl #[.int .i64 (wrap64 (-t206))] rfl (by (try simp only [List.map_toArray, List.map_cons, List.map_nil]); first | done | rfl | (simp only [List.length_drop, List.length_take]; rfl)) ?_; (with_reducible refine (length_Valid.calls (wrap64 (-t206)) true _ A40.out).mono ?_); rintro e w' ⟨rfl, ⟨nd, rfl⟩⟩; refine ⟨_, rfl, ?_⟩))
                                  all_goals (try subst hY43)
                                  go_ret2
                                  exact ⟨by first | rfl | (simp [errW_none, errW_some] <;> rfl) | (simp [*, errW_none, errW_some] <;> rfl), by repeat (first | (with_reducible first | exact HB.out | apply below_alloc | apply pw_below_drewN | apply below_drew1) | exact HB.out)⟩
                                · replace c41 := Bool.eq_false_iff.mpr c41
                                  subst c41
                                  have H1 : (some (0, 2)) = some (r1, r2) := by rw [if_neg (show ¬ (false = true) by decide)] at H; exact H
                                  clear H
                                  have H := H1
                                  clear H1
                                  simp only [Option.some.injEq, Prod.mk.injEq] at H
                                  obtain ⟨rfl, rfl⟩ := H
                                  try generalize hY45 : (t202 ++ (⟨#[48, 48, 48]⟩ : ByteArray)).extract 0 3 = Y45 at *
                                  go_wp2_with (first | ((with_reducible refine gate_callee (f := 35) rfl ?_); refine goesL_ (some 81) rfl rfl Tryd.func35 (by kernel_rfl) rfl #[.string (t201 ++ Y45)] rfl (by (try simp only [List.map_toArray, List.map_cons, List.map_nil]); first | done | rfl | (simp only [List.length_drop, List.length_take]; rfl)) ?_; (with_reducible refine (strconv_Atoi.calls (t201 ++ Y45) t206 t207 _ A38.out).mono ?_); rintro e w44 ⟨rfl, hb⟩; refine ⟨_, rfl, ?_⟩; have n0_ := Aside0.mk (below_step (by repeat (first | (with_reducible first | exact HB.out | apply below_alloc | apply pw_below_drewN | apply below_drew1) | exact HB.out)) hb); clear HB; have HB := n0_; clear n0_; (try clear hb); (try clear hb2); (try clear hk); (try clear hi); (try simp only [errW_none, errW_some])) | ((with_reducible refine gate_callee (f := 11) rfl ?_); refine goesL_ (some 88) rfl rfl Tryd.func11 (by kernel_rfl) rfl #[.int .i64 (wrap64 (-t206))] rfl (by (try simp only [List.map_toArray, List.map_cons, List.map_nil]); first | done | rfl | (simp only [List.length_drop, List.length_take]; rfl)) ?_; (with_reducible refine (length_Valid.calls (wrap64 (-t206)) false _ A40.out).mono ?_); rintro e w' ⟨rfl, ⟨nd, rfl⟩⟩; refine ⟨_, rfl, ?_⟩))
                                  all_goals (try subst hY45)
                                  go_ret2
                                  exact ⟨by first | rfl | (simp [errW_none, errW_some] <;> rfl) | (simp [*, errW_none, errW_some] <;> rfl), by repeat (first | (with_reducible first | exact HB.out | apply below_alloc | apply pw_below_drewN | apply below_drew1) | exact HB.out)⟩
                              · replace c39 := Bool.eq_false_iff.mpr c39
                                subst c39
                                have H1 : ((length_Valid.f t206).bind fun t209 => (if t209 = true then (some (t206, 0)) else (some (0, 2)))) = some (r1, r2) := by rw [if_neg (show ¬ (false = true) by decide)] at H; exact H
                                clear H
                                have H := H1
                                clear H1
                                replace H := Option.bind_eq_some_iff.mp H
                                obtain ⟨t209, A460, H⟩ := H
                                replace H : (if t209 = true then (some (t206, 0)) else (some (0, 2))) = some (r1, r2) := H
                                have A46 := Aside0.mk A460
                                clear A460
                                by_cases c47 : t209 = true
                                · subst c47
                                  have H1 : (some (t206, 0)) = some (r1, r2) := by rw [if_pos rfl] at H; exact H
                                  clear H
                                  have H := H1
                                  clear H1
                                  simp only [Option.some.injEq, Prod.mk.injEq] at H
                                  obtain ⟨rfl, rfl⟩ := H
                                  try generalize hY49 : (t202 ++ (⟨#[48, 48, 48]⟩ : ByteArray)).extract 0 3 = Y49 at *
                                  go_wp2_with (first | ((with_reducible refine gate_callee (f := 35) rfl ?_); refine goesL_ (some 81) rfl rfl Tryd.func35 (by kernel_rfl) rfl #[.string (t201 ++ Y49)] rfl (by (try simp only [List.map_toArray, List.map_cons, List.map_nil]); first | done | rfl | (simp only [List.length_drop, List.length_take]; rfl)) ?_; (with_reducible refine (strconv_Atoi.calls (t201 ++ Y49) t206 t207 _ A38.out).mono ?_); rintro e w48 ⟨rfl, hb⟩; refine ⟨_, rfl, ?_⟩; have n0_ := Aside0.mk (below_step (by repeat (first | (with_reducible first | exact HB.out | apply below_alloc | apply pw_below_drewN | apply below_drew1) | exact HB.out)) hb); clear HB; have HB := n0_; clear n0_; (try clear hb); (try clear hb2); (try clear hk); (try clear hi); (try simp only [errW_none, errW_some])) | ((with_reducible refine gate_callee (f := 11) rfl ?_); refine goesL_ (some 88) rfl rfl Tryd.func11 (by kernel_rfl) rfl #[.int .i64 t206] rfl (by (try simp only [List.map_toArray, List.map_cons, List.map_nil]); first | done | rfl | (simp only [List.length_drop, List.length_take]; rfl)) ?_; (with_reducible refine (length_Valid.calls t206 true _ A46.out).mono ?_); rintro e w' ⟨rfl, ⟨nd, rfl⟩⟩; refine ⟨_, rfl, ?_⟩))
                                  all_goals (try subst hY49)
                                  go_ret2
                                  exact ⟨by first | rfl | (simp [errW_none, errW_some] <;> rfl) | (simp [*, errW_none, errW_some] <;> rfl), by repeat (first | (with_reducible first | exact HB.out | apply below_alloc | apply pw_below_drewN | apply below_drew1) | exact HB.out)⟩
                                · replace c47 := Bool.eq_false_iff.mpr c47
                                  subst c47
                                  have H1 : (some (0, 2)) = some (r1, r2) := by rw [if_neg (show ¬ (false = true) by decide)] at H; exact H
                                  clear H
                                  have H := H1
                                  clear H1
                                  simp only [Option.some.injEq, Prod.mk.injEq] at H
                                  obtain ⟨rfl, rfl⟩ := H
                                  try generalize hY51 : (t202 ++ (⟨#[48, 48, 48]⟩ : ByteArray)).extract 0 3 = Y51 at *
                                  go_wp2_with (first | ((with_reducible refine gate_callee (f := 35) rfl ?_); refine goesL_ (some 81) rfl rfl Tryd.func35 (by kernel_rfl) rfl #[.string (t201 ++ Y51)] rfl (by (try simp only [List.map_toArray, List.map_cons, List.map_nil]); first | done | rfl | (simp only [List.length_drop, List.length_take]; rfl)) ?_; (with_reducible refine (strconv_Atoi.calls (t201 ++ Y51) t206 t207 _ A38.out).mono ?_); rintro e w50 ⟨rfl, hb⟩; refine ⟨_, rfl, ?_⟩; have n0_ := Aside0.mk (below_step (by repeat (first | (with_reducible first | exact HB.out | apply below_alloc | apply pw_below_drewN | apply below_drew1) | exact HB.out)) hb); clear HB; have HB := n0_; clear n0_; (try clear hb); (try clear hb2); (try clear hk); (try clear hi); (try simp only [errW_none, errW_some])) | ((with_reducible refine gate_callee (f := 11) rfl ?_); refine goesL_ (some 88) rfl rfl Tryd.func11 (by kernel_rfl) rfl #[.int .i64 t206] rfl (by (try simp only [List.map_toArray, List.map_cons, List.map_nil]); first | done | rfl | (simp only [List.length_drop, List.length_take]; rfl)) ?_; (with_reducible refine (length_Valid.calls t206 false _ A46.out).mono ?_); rintro e w' ⟨rfl, ⟨nd, rfl⟩⟩; refine ⟨_, rfl, ?_⟩))
                                  all_goals (try subst hY51)
                                  go_ret2
                                  exact ⟨by first | rfl | (simp [errW_none, errW_some] <;> rfl) | (simp [*, errW_none, errW_some] <;> rfl), by repeat (first | (with_reducible first | exact HB.out | apply below_alloc | apply pw_below_drewN | apply below_drew1) | exact HB.out)⟩
                            · rw [if_neg c37] at H
                              exact absurd H (by simp)
                          · rw [if_neg c36] at H
                            exact absurd H (by simp)
                        · rw [if_neg c35] at H
                          exact absurd H (by simp)
                      · rw [if_neg c34] at H
                        exact absurd H (by simp)

/-! ### vinculumref01_Digits: function 36 -/
def vinculumref01_Digits.f : Nat → Int → Option (ByteArray)
  | 0, _ => none
  | k + 1, a0 => if a0 < 10 then (some (strOfNums (([(wrap64 (48 + a0)) % 256] : List Int)))) else ((vinculumref01_Digits.f k (wrap64 (Int.tdiv a0 10))).bind fun t213 => ((vinculumref01_Digits.f k (Int.tmod a0 10)).bind fun t214 => (if t213.size + t214.size ≤ 9223372036854775807 then (some (t213 ++ t214)) else (none))))
theorem vinculumref01_Digits.mono_l : ∀ k, (∀ y0, LeO (vinculumref01_Digits.f k y0) (vinculumref01_Digits.f (k + 1) y0))
  | 0 => fun _ r h => by simp [vinculumref01_Digits.f] at h
  | k + 1 => by
    have ih0 := vinculumref01_Digits.mono_l k
    · intro y0
      unfold vinculumref01_Digits.f
      repeat' first
      | (with_reducible exact ih0 _)
      | (with_reducible exact LeO.refl _)
      | (with_reducible exact LeO.none _)
      | (with_reducible refine LeO.ite ?_ ?_)
      | (with_reducible refine LeO.bind ?_ (fun _ => ?_))
      | exact ih0 _
      | exact LeO.none _
      | refine LeO.ite ?_ ?_
      | refine LeO.bind ?_ (fun _ => ?_)
theorem vinculumref01_Digits.mono : ∀ a0 k, LeO (vinculumref01_Digits.f k a0) (vinculumref01_Digits.f (k + 1) a0) := by
  intro a0 k
  have ih0 := vinculumref01_Digits.mono_l k
  exact ih0 a0
set_option maxHeartbeats 8000000 in
set_option maxRecDepth 100000 in
theorem vinculumref01_Digits.calls (k : Nat) : ∀ (a0 : Int) (r : ByteArray) (w : World) (h : vinculumref01_Digits.f k a0 = some r),
    Calls Tryd.prog 36 #[.int .i64 a0] w fun e w' => e = .returned (.string r) ∧ Below w.heap.size w w' := by
  induction k using Nat.strongRecOn with
  | _ k ih =>
  intro a0 r w h
  cases k with
  | zero => exact absurd h (by simp [vinculumref01_Digits.f])
  | succ k =>
  simp only [vinculumref01_Digits.f] at h
  have HB := Aside0.mk (Below.refl w.heap.size w)
  have H : (if a0 < 10 then (some (strOfNums (([(wrap64 (48 + a0)) % 256] : List Int)))) else ((vinculumref01_Digits.f k (wrap64 (Int.tdiv a0 10))).bind fun t213 => ((vinculumref01_Digits.f k (Int.tmod a0 10)).bind fun t214 => (if t213.size + t214.size ≤ 9223372036854775807 then (some (t213 ++ t214)) else (none))))) = some r := h
  clear h
  by_cases c2 : a0 < 10
  · rw [if_pos c2] at H
    have c2b0 : decide (a0 < 10) = true := decide_eq_true c2
    clear c2
    obtain ⟨y210, hy210⟩ : ∃ y_ : List Int, y_ = (([(wrap64 (48 + a0)) % 256] : List Int)) := ⟨_, rfl⟩
    replace H : (some (strOfNums y210)) = some r := by first | (rw [hy210]; with_reducible exact H) | (have H2_ := (Option.bind_some _ _).symm.trans H; rw [hy210]; with_reducible exact H2_) | (have H2_ := (Option.bind_some _ _).symm.trans H; with_reducible exact H2_) | with_reducible exact H | (rw [hy210]; exact H) | exact H
    have Ny210 := Aside0.mk hy210
    clear hy210
    obtain rfl := Option.some.inj H
    go_enter Tryd.func36, Tryd.ntmps36
    go_wp2_with (first | ((with_reducible refine gate_dst (N := 8) rfl ?_); refine Kd.R_lit (Kd.int .u8) _ 5 ?hg (N := 8) ?hd (xs := ([(wrap64 (48 + a0)) % 256] : List Int)) (inner := [.int .u8 ((wrap64 (48 + a0)) % 256)]) (ok := fun _ => True) (okp := fun _ => True) ?hr ?hp (fun _ hk => hk) trivial (Below.refl _ _) (Nat.le_refl _) (by simp) ?_; (case hd => rfl); (case hg => rfl); (case hr => first | (go_simp; done) | (go_simp; rfl)); (case hp => exact (Reps.one (show Kd.M (Kd.int .u8) _ _ _ ((wrap64 (48 + a0)) % 256) [.int .u8 ((wrap64 (48 + a0)) % 256)] from rfl) (Reps.none _ _))); intro v211 w3 ho4 hb hg_ hnew_; clear hg_ hnew_; (first | rw [← Ny210.out] at ho4 | (simp only [Int.reduceToNat] at ho4; rw [← Ny210.out] at ho4)); have n0_ := Aside0.mk (Kd.R_lower ho4 (below_size (by repeat (first | (with_reducible first | exact HB.out | apply below_alloc | apply pw_below_drewN | apply below_drew1) | exact HB.out)))); have n1_ := Aside0.mk (below_step (by repeat (first | (with_reducible first | exact HB.out | apply below_alloc | apply pw_below_drewN | apply below_drew1) | exact HB.out)) hb); clear HB; have HO212 := n0_; have HB := n1_; clear n0_ n1_; clear hb ho4; have hcv5 := own_string (P := Tryd.prog) Tryd.underlying60 Tryd.underlying5 Tryd.underlying9 (Kd.own_of_R HO212.out)))
    go_ret
    exact ⟨by first | rfl | (simp [errW_none, errW_some] <;> rfl) | (simp [*, errW_none, errW_some] <;> rfl), by repeat (first | (with_reducible first | exact HB.out | apply below_alloc | apply pw_below_drewN | apply below_drew1) | exact HB.out)⟩
  · rw [if_neg c2] at H
    have c2b0 : decide (a0 < 10) = false := decide_eq_false c2
    clear c2
    replace H := Option.bind_eq_some_iff.mp H
    obtain ⟨t213, A60, H⟩ := H
    replace H : ((vinculumref01_Digits.f k (Int.tmod a0 10)).bind fun t214 => (if t213.size + t214.size ≤ 9223372036854775807 then (some (t213 ++ t214)) else (none))) = some r := H
    have A6 := Aside0.mk A60
    clear A60
    replace H := Option.bind_eq_some_iff.mp H
    obtain ⟨t214, A70, H⟩ := H
    replace H : (if t213.size + t214.size ≤ 9223372036854775807 then (some (t213 ++ t214)) else (none)) = some r := H
    have A7 := Aside0.mk A70
    clear A70
    by_cases c8 : t213.size + t214.size ≤ 9223372036854775807
    · rw [if_pos c8] at H
      have c8b0 := eq_true c8
      have c8b1 : decide (t213.size + t214.size ≤ 9223372036854775807) = true := decide_eq_true c8
      try have c8b2 : (9223372036854775807 < t213.size + t214.size) = False := eq_false (Nat.not_lt.2 c8)
      try (have c8b3 : (9223372036854775807 < t213.size + t214.size) = False := eq_false (Nat.not_lt.2 c8); simp only [ByteArray.size_append] at c8b3)
      obtain rfl := Option.some.inj H
      go_enter Tryd.func36, Tryd.ntmps36
      go_wp2_with (first | ((with_reducible refine gate_callee (f := 36) rfl ?_); refine goesL_ (some 12) rfl rfl Tryd.func36 (by kernel_rfl) rfl #[.int .i64 (wrap64 (Int.tdiv a0 10))] rfl (by (try simp only [List.map_toArray, List.map_cons, List.map_nil]); first | done | rfl | (simp only [List.length_drop, List.length_take]; rfl)) ?_; (with_reducible refine (ih k (by omega) (wrap64 (Int.tdiv a0 10)) t213 _ A6.out).mono ?_); rintro e w9 ⟨rfl, hb⟩; refine ⟨_, rfl, ?_⟩; have n0_ := Aside0.mk (below_step (by repeat (first | (with_reducible first | exact HB.out | apply below_alloc | apply pw_below_drewN | apply below_drew1) | exact HB.out)) hb); clear HB; have HB := n0_; clear n0_; (try clear hb); (try clear hb2); (try clear hk); (try clear hi)) | ((with_reducible refine gate_callee (f := 36) rfl ?_); refine goesL_ (some 15) rfl rfl Tryd.func36 (by kernel_rfl) rfl #[.int .i64 (Int.tmod a0 10)] rfl (by (try simp only [List.map_toArray, List.map_cons, List.map_nil]); first | done | rfl | (simp only [List.length_drop, List.length_take]; rfl)) ?_; (with_reducible refine (ih k (by omega) (Int.tmod a0 10) t214 _ A7.out).mono ?_); rintro e w10 ⟨rfl, hb⟩; refine ⟨_, rfl, ?_⟩; have n0_ := Aside0.mk (below_step (by repeat (first | (with_reducible first | exact HB.out | apply below_alloc | apply pw_below_drewN | apply below_drew1) | exact HB.out)) hb); clear HB; have HB := n0_; clear n0_; (try clear hb); (try clear hb2); (try clear hk); (try clear hi)))
      go_ret
      exact ⟨by first | rfl | (simp [errW_none, errW_some] <;> rfl) | (simp [*, errW_none, errW_some] <;> rfl), by repeat (first | (with_reducible first | exact HB.out | apply below_alloc | apply pw_below_drewN | apply below_drew1) | exact HB.out)⟩
    · rw [if_neg c8] at H
      exact absurd H (by simp)

end Go.Proofs.YtignpfhlagfijaaDoor.X
