-- Turned by sameux.py from a print of xprint.py. Lean checks it.
import Derived.Test.YtghdimmomnfakaaDoorProg
import Derived.Below
import Derived.Deep.Draws
import Derived.Deep.AppendLies
import Derived.Maps.AppendAt
import Derived.OwnWalk
import Derived.Laws.BytesArg
import Derived.Laws.MakeOwn
import Derived.Laws.OwnMore
import Derived.Deep.OwnRows
import Derived.Tactics
import Derived.Lib.ConvBytes
import Derived.Laws.Slices
import Derived.WalkKit
import Derived.KernelRfl
import Derived.RowKit3
import Derived.Deep.LoopGhost
import Derived.Deep.QuietTactic
import Derived.BigQuiet
import Derived.WideLaws
import Derived.Deep.DeepCutAuto
import Derived.Deep.CutBlock
import Derived.Deep.RegionHeld3
import Derived.Laws.Rows
import Derived.Lib.AppendStr
import Derived.ArgAppend
import Derived.Laws.IdiomCopy
import Derived.OrdersHeld
import Derived.Laws.BitsLemmas
import Derived.RowKit
import Derived.Test.YtghdimmomnfakaaDoorGiven
import Derived.Test.YtghdimmomnfakaaDoorWWords
import Derived.Test.YtghdimmomnfakaaDoorWLast
import Derived.Test.YtghdimmomnfakaaDoorWTab
import Derived.Test.YtghdimmomnfakaaDoorWFour
import Derived.Test.YtghdimmomnfakaaDoorWQPut
import Derived.Test.YtghdimmomnfakaaDoorWApart
import Derived.Test.YtghdimmomnfakaaDoorWArr
import Derived.Test.YtghdimmomnfakaaDoorWZeros
import Derived.Test.YtghdimmomnfakaaDoorWFoot
import Derived.Test.YtghdimmomnfakaaDoorWKept
import Derived.Test.YtghdimmomnfakaaDoorWShare
import Derived.Test.YtghdimmomnfakaaDoorWN
import Derived.Test.YtghdimmomnfakaaDoorWFootNe
import Derived.Test.YtghdimmomnfakaaDoorWAt
import Derived.Test.YtghdimmomnfakaaDoorWEqStruct
import Derived.Test.YtghdimmomnfakaaDoorWRepsOne
import Derived.Test.YtghdimmomnfakaaDoorWInv
import Derived.Test.YtghdimmomnfakaaDoorWInvWords
import Derived.Test.YtghdimmomnfakaaDoorWGuard
import Derived.Test.YtghdimmomnfakaaDoorWNEv
import Derived.Test.YtghdimmomnfakaaDoorWMore
import Derived.Test.YtghdimmomnfakaaDoorXx0
import Derived.Test.YtghdimmomnfakaaDoorReadBase
import Derived.Test.YtghdimmomnfakaaDoorXx1
import Derived.Test.YtghdimmomnfakaaDoorXx6
import Derived.Test.YtghdimmomnfakaaDoorGvClash
import Derived.Test.YtghdimmomnfakaaDoorGvProper
import Derived.Test.YtghdimmomnfakaaDoorReadK01
import Derived.Test.YtghdimmomnfakaaDoorGvReadK2
import Derived.Test.YtghdimmomnfakaaDoorGvReadK3
namespace Go.Proofs.YtghdimmomnfakaaDoor.U
open Go.Proofs.YtghdimmomnfakaaDoor.Gv
open Go.RowKit Go.Proofs.YtghdimmomnfakaaDoorW.PrintWords Go.Proofs.YtghdimmomnfakaaDoorW.PrintLast Go.Proofs.YtghdimmomnfakaaDoorW.PrintMore
open Go.Proofs.YtghdimmomnfakaaDoor.X (S38 k38 k38_open k38_openM k38_mk k38_mkM rd_T38 at_T38 z38)
attribute [local go_sem] max2_int min2_int max_two min_two max_three min_three max_four min_four   -- for this text's walks alone
set_option linter.unusedVariables false
set_option linter.unusedSimpArgs false
theorem info5 : (Tryd.prog.info? 5).map (fun i => (i.zero, i.size, i.bytes)) = some (some (.int .u8 0), 1, 1) := by kernel_rfl

theorem eqA38 (d : Nat) (w : World) (x0 y0 : Int) (x1 y1 : ByteArray) (x2 y2 : ByteArray) (x3 y3 : Int) (x4 y4 : Int) (x5 y5 : Int) :
    (Op.equalIn (d + 2) 38 (.agg #[.int .i64 x0, .string x1, .string x2, .int .i64 x3, .int .i64 x4, .int .i64 x5]) (.agg #[.int .i64 y0, .string y1, .string y2, .int .i64 y3, .int .i64 y4, .int .i64 y5])).run Tryd.prog w = .ok (x0 == y0 && (x1.toList == y1.toList && (x2.toList == y2.toList && (x3 == y3 && (x4 == y4 && (x5 == y5)))))) w := by
  refine eqA_of Tryd.underlying38 (by kernel_rfl) ?_
  refine eqf_cons (by rfl) (by go_simp; rfl) (by go_simp; rfl) (by go_simp) ?_
  refine eqf_cons (by rfl) (by go_simp; rfl) (by go_simp; rfl) (by go_simp) ?_
  refine eqf_cons (by rfl) (by go_simp; rfl) (by go_simp; rfl) (by go_simp) ?_
  refine eqf_cons (by rfl) (by go_simp; rfl) (by go_simp; rfl) (by go_simp) ?_
  refine eqf_cons (by rfl) (by go_simp; rfl) (by go_simp; rfl) (by go_simp) ?_
  exact eqf_last (by rfl) (by go_simp; rfl) (by go_simp; rfl) (by go_simp)

attribute [local go_sem high] eqA38
/-! ### vinculumref01_Digits: function 60 -/
def vinculumref01_Digits.f : Nat → Int → Option (ByteArray)
  | 0, _ => none
  | k + 1, a0 => if a0 < 10 then (some (strOfNums (([(wrap64 (48 + a0)) % 256] : List Int)))) else ((vinculumref01_Digits.f k (wrap64 (Int.tdiv a0 10))).bind fun t104 => ((vinculumref01_Digits.f k (Int.tmod a0 10)).bind fun t105 => (if t104.size + t105.size ≤ 9223372036854775807 then (some (t104 ++ t105)) else (none))))
theorem vinculumref01_Digits.mono_l : ∀ k, (∀ y0, LeO (vinculumref01_Digits.f k y0) (vinculumref01_Digits.f (k + 1) y0))
  | 0 => fun _ r h => by simp [vinculumref01_Digits.f] at h
  | k + 1 => by
    have ih0 := vinculumref01_Digits.mono_l k
    · intro y0
      unfold vinculumref01_Digits.f
      repeat' first
      | (with_reducible exact ih0 _)
      | (with_reducible exact LeO.refl _)
      | (with_reducible exact LeO.none _)
      | (with_reducible refine LeO.ite ?_ ?_)
      | (with_reducible refine LeO.bind ?_ (fun _ => ?_))
      | exact ih0 _
      | exact LeO.none _
      | refine LeO.ite ?_ ?_
      | refine LeO.bind ?_ (fun _ => ?_)
theorem vinculumref01_Digits.mono : ∀ a0 k, LeO (vinculumref01_Digits.f k a0) (vinculumref01_Digits.f (k + 1) a0) := by
  intro a0 k
  have ih0 := vinculumref01_Digits.mono_l k
  exact ih0 a0
set_option maxHeartbeats 8000000 in
set_option maxRecDepth 100000 in
theorem vinculumref01_Digits.calls (k : Nat) : ∀ (a0 : Int) (r : ByteArray) (w : World) (h : vinculumref01_Digits.f k a0 = some r),
    Calls Tryd.prog 60 #[.int .i64 a0] w fun e w' => e = .returned (.string r) ∧ Below w.heap.size w w' := by
  induction k using Nat.strongRecOn with
  | _ k ih =>
  intro a0 r w h
  cases k with
  | zero => exact absurd h (by simp [vinculumref01_Digits.f])
  | succ k =>
  simp only [vinculumref01_Digits.f] at h
  have HB := Aside0.mk (Below.refl w.heap.size w)
  have H : (if a0 < 10 then (some (strOfNums (([(wrap64 (48 + a0)) % 256] : List Int)))) else ((vinculumref01_Digits.f k (wrap64 (Int.tdiv a0 10))).bind fun t104 => ((vinculumref01_Digits.f k (Int.tmod a0 10)).bind fun t105 => (if t104.size + t105.size ≤ 9223372036854775807 then (some (t104 ++ t105)) else (none))))) = some r := h
  clear h
  by_cases c2 : a0 < 10
  · rw [if_pos c2] at H
    have c2b0 : decide (a0 < 10) = true := decide_eq_true c2
    clear c2
    obtain ⟨y101, hy101⟩ : ∃ y_ : List Int, y_ = (([(wrap64 (48 + a0)) % 256] : List Int)) := ⟨_, rfl⟩
    replace H : (some (strOfNums y101)) = some r := by first | (rw [hy101]; with_reducible exact H) | (have H2_ := (Option.bind_some _ _).symm.trans H; rw [hy101]; with_reducible exact H2_) | (have H2_ := (Option.bind_some _ _).symm.trans H; with_reducible exact H2_) | with_reducible exact H | (rw [hy101]; exact H) | exact H
    have Ny101 := Aside0.mk hy101
    clear hy101
    obtain rfl := Option.some.inj H
    go_enter Tryd.func60, Tryd.ntmps60
    go_wp2_with (first | ((with_reducible refine gate_dst (N := 8) rfl ?_); refine Kd.R_lit (Kd.int .u8) _ 5 ?hg (N := 8) ?hd (xs := ([(wrap64 (48 + a0)) % 256] : List Int)) (inner := [.int .u8 ((wrap64 (48 + a0)) % 256)]) (ok := fun _ => True) (okp := fun _ => True) ?hr ?hp (fun _ hk => hk) trivial (Below.refl _ _) (Nat.le_refl _) (by simp) ?_; (case hd => rfl); (case hg => rfl); (case hr => first | (go_simp; done) | (go_simp; rfl)); (case hp => exact (Reps.one (show Kd.M (Kd.int .u8) _ _ _ ((wrap64 (48 + a0)) % 256) [.int .u8 ((wrap64 (48 + a0)) % 256)] from rfl) (Reps.none _ _))); intro v102 w3 ho4 hb hg_ hnew_; clear hg_ hnew_; (first | rw [← Ny101.out] at ho4 | (simp only [Int.reduceToNat] at ho4; rw [← Ny101.out] at ho4)); have n0_ := Aside0.mk (Kd.R_lower ho4 (below_size (by repeat (first | (with_reducible first | exact HB.out | apply below_alloc | apply pw_below_drewN | apply below_drew1) | exact HB.out)))); have n1_ := Aside0.mk (below_step (by repeat (first | (with_reducible first | exact HB.out | apply below_alloc | apply pw_below_drewN | apply below_drew1) | exact HB.out)) hb); clear HB; have HO103 := n0_; have HB := n1_; clear n0_ n1_; clear hb ho4; have hcv5 := own_string (P := Tryd.prog) Tryd.underlying42 Tryd.underlying5 Tryd.underlying9 (Kd.own_of_R HO103.out)))
    go_ret
    exact ⟨by first | rfl | (simp [errW_none, errW_some] <;> rfl) | (simp [*, errW_none, errW_some] <;> rfl), by repeat (first | (with_reducible first | exact HB.out | apply below_alloc | apply pw_below_drewN | apply below_drew1) | exact HB.out)⟩
  · rw [if_neg c2] at H
    have c2b0 : decide (a0 < 10) = false := decide_eq_false c2
    clear c2
    replace H := Option.bind_eq_some_iff.mp H
    obtain ⟨t104, A60, H⟩ := H
    replace H : ((vinculumref01_Digits.f k (Int.tmod a0 10)).bind fun t105 => (if t104.size + t105.size ≤ 9223372036854775807 then (some (t104 ++ t105)) else (none))) = some r := H
    have A6 := Aside0.mk A60
    clear A60
    replace H := Option.bind_eq_some_iff.mp H
    obtain ⟨t105, A70, H⟩ := H
    replace H : (if t104.size + t105.size ≤ 9223372036854775807 then (some (t104 ++ t105)) else (none)) = some r := H
    have A7 := Aside0.mk A70
    clear A70
    by_cases c8 : t104.size + t105.size ≤ 9223372036854775807
    · rw [if_pos c8] at H
      have c8b0 := eq_true c8
      have c8b1 : decide (t104.size + t105.size ≤ 9223372036854775807) = true := decide_eq_true c8
      try have c8b2 : (9223372036854775807 < t104.size + t105.size) = False := eq_false (Nat.not_lt.2 c8)
      try (have c8b3 : (9223372036854775807 < t104.size + t105.size) = False := eq_false (Nat.not_lt.2 c8); simp only [ByteArray.size_append] at c8b3)
      obtain rfl := Option.some.inj H
      go_enter Tryd.func60, Tryd.ntmps60
      go_wp2_with (first | ((with_reducible refine gate_callee (f := 60) rfl ?_); refine goesL_ (some 12) rfl rfl Tryd.func60 (by kernel_rfl) rfl #[.int .i64 (wrap64 (Int.tdiv a0 10))] rfl (by (try simp only [List.map_toArray, List.map_cons, List.map_nil]); first | done | rfl | (simp only [List.length_drop, List.length_take]; rfl)) ?_; (with_reducible refine (ih k (by omega) (wrap64 (Int.tdiv a0 10)) t104 _ A6.out).mono ?_); rintro e w9 ⟨rfl, hb⟩; refine ⟨_, rfl, ?_⟩; have n0_ := Aside0.mk (below_step (by repeat (first | (with_reducible first | exact HB.out | apply below_alloc | apply pw_below_drewN | apply below_drew1) | exact HB.out)) hb); clear HB; have HB := n0_; clear n0_; (try clear hb); (try clear hb2); (try clear hk); (try clear hi)) | ((with_reducible refine gate_callee (f := 60) rfl ?_); refine goesL_ (some 15) rfl rfl Tryd.func60 (by kernel_rfl) rfl #[.int .i64 (Int.tmod a0 10)] rfl (by (try simp only [List.map_toArray, List.map_cons, List.map_nil]); first | done | rfl | (simp only [List.length_drop, List.length_take]; rfl)) ?_; (with_reducible refine (ih k (by omega) (Int.tmod a0 10) t105 _ A7.out).mono ?_); rintro e w10 ⟨rfl, hb⟩; refine ⟨_, rfl, ?_⟩; have n0_ := Aside0.mk (below_step (by repeat (first | (with_reducible first | exact HB.out | apply below_alloc | apply pw_below_drewN | apply below_drew1) | exact HB.out)) hb); clear HB; have HB := n0_; clear n0_; (try clear hb); (try clear hb2); (try clear hk); (try clear hi)))
      go_ret
      exact ⟨by first | rfl | (simp [errW_none, errW_some] <;> rfl) | (simp [*, errW_none, errW_some] <;> rfl), by repeat (first | (with_reducible first | exact HB.out | apply below_alloc | apply pw_below_drewN | apply below_drew1) | exact HB.out)⟩
    · rw [if_neg c8] at H
      exact absurd H (by simp)

-- NOT PRINTED: function 41 (vinculumref49_Line)

/-! ### vinculumref49_Same: function 21 -/
def vinculumref49_Same.l0 : Nat → List (S38) → List (S38) → Int → Option (Bool)
  | 0, _, _, _ => none
  | k + 1, x0, x1, x5 => if x5 < (x0.length : Int) then (if 0 ≤ x5 then (if x5 < (x1.length : Int) then (if (!(((rd_T38 x0 x5).f0) == ((rd_T38 x1 x5).f0)) || (!((((rd_T38 x0 x5).f1).toList) == (((rd_T38 x1 x5).f1).toList)) || (!((((rd_T38 x0 x5).f2).toList) == (((rd_T38 x1 x5).f2).toList)) || (!(((rd_T38 x0 x5).f3) == ((rd_T38 x1 x5).f3)) || (!(((rd_T38 x0 x5).f4) == ((rd_T38 x1 x5).f4)) || (!(((rd_T38 x0 x5).f5) == ((rd_T38 x1 x5).f5)))))))) = true then (some false) else (vinculumref49_Same.l0 k x0 x1 (wrap64 (x5 + 1)))) else (none)) else (none)) else (some true)
def vinculumref49_Same.f (k : Nat) (l0 : List (S38)) (l1 : List (S38)) : Option (Bool) := if (l0.length : Int) = (l1.length : Int) then (vinculumref49_Same.l0 k l0 l1 0) else (some false)
theorem vinculumref49_Same.mono_l : ∀ k, (∀ y0 y1 y2, LeO (vinculumref49_Same.l0 k y0 y1 y2) (vinculumref49_Same.l0 (k + 1) y0 y1 y2))
  | 0 => fun _ _ _ r h => by simp [vinculumref49_Same.l0] at h
  | k + 1 => by
    have ih0 := vinculumref49_Same.mono_l k
    · intro y0 y1 y2
      unfold vinculumref49_Same.l0
      repeat' first
      | (with_reducible exact ih0 _ _ _)
      | (with_reducible exact LeO.refl _)
      | (with_reducible exact LeO.none _)
      | (with_reducible refine LeO.ite ?_ ?_)
      | (with_reducible refine LeO.bind ?_ (fun _ => ?_))
      | exact ih0 _ _ _
      | exact LeO.none _
      | refine LeO.ite ?_ ?_
      | refine LeO.bind ?_ (fun _ => ?_)
theorem vinculumref49_Same.mono : ∀ a0 a1 k, LeO (vinculumref49_Same.f k a0 a1) (vinculumref49_Same.f (k + 1) a0 a1) := by
  intro a0 a1 k
  have ih0 := vinculumref49_Same.mono_l k
  unfold vinculumref49_Same.f
  repeat' first
      | (with_reducible exact ih0 _ _ _)
      | (with_reducible exact LeO.refl _)
      | (with_reducible exact LeO.none _)
      | (with_reducible refine LeO.ite ?_ ?_)
      | (with_reducible refine LeO.bind ?_ (fun _ => ?_))
      | exact ih0 _ _ _
      | exact LeO.none _
      | refine LeO.ite ?_ ?_
      | refine LeO.bind ?_ (fun _ => ?_)
set_option maxHeartbeats 8000000 in
set_option maxRecDepth 100000 in
theorem vinculumref49_Same.calls (k : Nat) (A0 : Option Addr) (c0 : Nat) (l0 : List (S38)) (A1 : Option Addr) (c1 : Nat) (l1 : List (S38)) (r : Bool) (w : World) (hr0 : Kd.C k38 w A0 l0.length l0) (hc0 : l0.length ≤ c0) (hr1 : Kd.C k38 w A1 l1.length l1) (hc1 : l1.length ≤ c1) (h : vinculumref49_Same.f k l0 l1 = some r) :
    Calls Tryd.prog 21 #[.slice A0 l0.length c0, .slice A1 l1.length c1] w fun e w' => e = .returned (.bool r) ∧ Drawn0 w w' := by
  have hu38 := Tryd.underlying38
  have HR0 := Aside0.mk hr0
  have HC0 := Aside0.mk hc0
  clear hr0 hc0
  have HR1 := Aside0.mk hr1
  have HC1 := Aside0.mk hc1
  clear hr1 hc1
  have H : (if (l0.length : Int) = (l1.length : Int) then (vinculumref49_Same.l0 k l0 l1 0) else (some false)) = some r := h
  clear h
  by_cases c3 : (l0.length : Int) = (l1.length : Int)
  · rw [if_pos c3] at H
    have c3b0 : ((l0.length : Int) == (l1.length : Int)) = true := beq_iff_eq.mpr c3
    have c3b1 : ((l0.length : Int) != (l1.length : Int)) = false := bne_eq_false_iff_eq.mpr c3
    have c3b2 : (l0.length == l1.length) = true := by first | simpa using c3 | (simp at c3 ⊢; omega)
    clear c3
    have H' := Aside0.mk H
    clear H
    go_enter Tryd.func21, Tryd.ntmps21
    go_wp2
    repeat (go_quiet (fail); try go_wp2)
    go_loopg [5] k (fun kq v5 w' => ∃ (x5_1 : Int), v5 = .int .i64 x5_1 ∧ Aside0 (vinculumref49_Same.l0 kq l0 l1 x5_1 = some r) ∧ Aside0 (kq ≤ k) ∧ Drawn0 w w')
    case atStart => exact ⟨(0), (by first | rfl | (simp; done) | (simp [*]; done)), H', ⟨Nat.le_refl _⟩, by repeat (first | exact Drawn0.refl _ | apply Drawn0.step)⟩
    case round =>
      clear H'
      try clear c1
      try clear c2
      try clear p2
      try clear c3
      try clear c3b0
      try clear c3b1
      try clear c3b2
      obtain ⟨x5_1, rfl, HA, HK1, ⟨m1, rfl⟩⟩ := hrel
      cases gk with
      | zero => exact absurd HA.out (by simp [vinculumref49_Same.l0])
      | succ k1 =>
        have H := HA.out
        clear HA
        simp only [vinculumref49_Same.l0] at H
        by_cases c4 : x5_1 < (l0.length : Int)
        · rw [if_pos c4] at H
          have c4b0 : decide (x5_1 < (l0.length : Int)) = true := decide_eq_true c4
          clear c4
          by_cases c5 : 0 ≤ x5_1
          · rw [if_pos c5] at H
            have c5b0 : decide (0 ≤ x5_1) = true := decide_eq_true c5
            clear c5
            by_cases c6 : x5_1 < (l1.length : Int)
            · rw [if_pos c6] at H
              have c6b0 : decide (x5_1 < (l1.length : Int)) = true := decide_eq_true c6
              clear c6
              by_cases c7 : (!(((rd_T38 l0 x5_1).f0) == ((rd_T38 l1 x5_1).f0)) || (!((((rd_T38 l0 x5_1).f1).toList) == (((rd_T38 l1 x5_1).f1).toList)) || (!((((rd_T38 l0 x5_1).f2).toList) == (((rd_T38 l1 x5_1).f2).toList)) || (!(((rd_T38 l0 x5_1).f3) == ((rd_T38 l1 x5_1).f3)) || (!(((rd_T38 l0 x5_1).f4) == ((rd_T38 l1 x5_1).f4)) || (!(((rd_T38 l0 x5_1).f5) == ((rd_T38 l1 x5_1).f5)))))))) = true
              · rw [if_pos c7] at H
                have c7b0 : (!(((rd_T38 l0 x5_1).f0) == ((rd_T38 l1 x5_1).f0)) || (!((((rd_T38 l0 x5_1).f1).toList) == (((rd_T38 l1 x5_1).f1).toList)) || (!((((rd_T38 l0 x5_1).f2).toList) == (((rd_T38 l1 x5_1).f2).toList)) || (!(((rd_T38 l0 x5_1).f3) == ((rd_T38 l1 x5_1).f3)) || (!(((rd_T38 l0 x5_1).f4) == ((rd_T38 l1 x5_1).f4)) || (!(((rd_T38 l0 x5_1).f5) == ((rd_T38 l1 x5_1).f5)))))))) = true := c7
                clear c7
                obtain rfl := Option.some.inj H
                have p110 : 0 ≤ (x5_1 : Int) := of_decide_eq_true (by first | (with_reducible assumption) | assumption)
                have q110 : x5_1 < (l0.length : Int) := of_decide_eq_true (by first | (with_reducible assumption) | assumption)
                obtain ⟨ad110, e110, hx110_0, hx110_1, hx110_2, hx110_3, hx110_4, hx110_5⟩ := at_T38 HR0.out x5_1 p110 q110
                cases e110
                replace p110 := eq_true p110
                replace q110 := eq_true q110
                have p111 : 0 ≤ (x5_1 : Int) := of_decide_eq_true (by first | (with_reducible assumption) | assumption)
                have q111 : x5_1 < (l1.length : Int) := of_decide_eq_true (by first | (with_reducible assumption) | assumption)
                obtain ⟨ad111, e111, hx111_0, hx111_1, hx111_2, hx111_3, hx111_4, hx111_5⟩ := at_T38 HR1.out x5_1 p111 q111
                cases e111
                replace p111 := eq_true p111
                replace q111 := eq_true q111
                go_wp2
                repeat (go_quiet (fail); try go_wp2)
                go_ret
                exact ⟨by first | rfl | (simp; done) | (simp [*]; done), by repeat (first | exact Drawn0.refl _ | apply Drawn0.step)⟩
              · rw [if_neg c7] at H
                have c7b0 : (!(((rd_T38 l0 x5_1).f0) == ((rd_T38 l1 x5_1).f0)) || (!((((rd_T38 l0 x5_1).f1).toList) == (((rd_T38 l1 x5_1).f1).toList)) || (!((((rd_T38 l0 x5_1).f2).toList) == (((rd_T38 l1 x5_1).f2).toList)) || (!(((rd_T38 l0 x5_1).f3) == ((rd_T38 l1 x5_1).f3)) || (!(((rd_T38 l0 x5_1).f4) == ((rd_T38 l1 x5_1).f4)) || (!(((rd_T38 l0 x5_1).f5) == ((rd_T38 l1 x5_1).f5)))))))) = false := by simpa using c7
                clear c7
                have H' := Aside0.mk H
                clear H
                have p110 : 0 ≤ (x5_1 : Int) := of_decide_eq_true (by first | (with_reducible assumption) | assumption)
                have q110 : x5_1 < (l0.length : Int) := of_decide_eq_true (by first | (with_reducible assumption) | assumption)
                obtain ⟨ad110, e110, hx110_0, hx110_1, hx110_2, hx110_3, hx110_4, hx110_5⟩ := at_T38 HR0.out x5_1 p110 q110
                cases e110
                replace p110 := eq_true p110
                replace q110 := eq_true q110
                have p111 : 0 ≤ (x5_1 : Int) := of_decide_eq_true (by first | (with_reducible assumption) | assumption)
                have q111 : x5_1 < (l1.length : Int) := of_decide_eq_true (by first | (with_reducible assumption) | assumption)
                obtain ⟨ad111, e111, hx111_0, hx111_1, hx111_2, hx111_3, hx111_4, hx111_5⟩ := at_T38 HR1.out x5_1 p111 q111
                cases e111
                replace p111 := eq_true p111
                replace q111 := eq_true q111
                go_wp2
                repeat (go_quiet (fail); try go_wp2)
                go_roundg k1
                case measure => have := HK1.out; omega
                case rel => exact ⟨(wrap64 (x5_1 + 1)), (by first | rfl | (simp; done) | (simp [*]; done)), H', ⟨by have := HK1.out; omega⟩, by repeat (first | exact Drawn0.refl _ | apply Drawn0.step)⟩
            · rw [if_neg c6] at H
              exact absurd H (by simp)
          · rw [if_neg c5] at H
            exact absurd H (by simp)
        · rw [if_neg c4] at H
          have c4b0 : decide (x5_1 < (l0.length : Int)) = false := decide_eq_false c4
          clear c4
          obtain rfl := Option.some.inj H
          go_wp2
          repeat (go_quiet (fail); try go_wp2)
          go_ret
          exact ⟨by first | rfl | (simp; done) | (simp [*]; done), by repeat (first | exact Drawn0.refl _ | apply Drawn0.step)⟩
  · rw [if_neg c3] at H
    have c3b0 : ((l0.length : Int) == (l1.length : Int)) = false := beq_eq_false_iff_ne.mpr c3
    have c3b1 : ((l0.length : Int) != (l1.length : Int)) = true := bne_iff_ne.mpr c3
    have c3b2 : (l0.length == l1.length) = false := by first | simpa using c3 | (simp at c3 ⊢; omega)
    obtain rfl := Option.some.inj H
    go_enter Tryd.func21, Tryd.ntmps21
    go_wp2
    repeat (go_quiet (fail); try go_wp2)
    go_ret
    exact ⟨by first | rfl | (simp; done) | (simp [*]; done), by repeat (first | exact Drawn0.refl _ | apply Drawn0.step)⟩

end Go.Proofs.YtghdimmomnfakaaDoor.U

set_option linter.unusedVariables false
namespace Go.Proofs.YtghdimmomnfakaaDoor.Pure
open Go.RowKit Go.Proofs.YtghdimmomnfakaaDoorW.PrintWords Go.Proofs.YtghdimmomnfakaaDoorW.PrintLast Go.Proofs.YtghdimmomnfakaaDoorW.PrintMore Go.Proofs.YtghdimmomnfakaaDoor.Gv Go.Proofs.YtghdimmomnfakaaDoor.X
def textL : List S38 → List UInt8
  | [] => []
  | x :: r => (lineB x).data.toList ++ 10 :: textL r
theorem textL_append : ∀ a b, textL (a ++ b) = textL a ++ textL b
  | [], b => rfl
  | x :: r, b => by simp [textL, textL_append r b]
/-- rules that are proper, with strings that are not too long -/
def okR (M : Nat) (l : List S38) : Prop := ∀ x ∈ l, prR x = true ∧ x.f1.size ≤ M ∧ x.f2.size ≤ M
theorem lineB_len (x : S38) (M : Nat) (hM : 30 ≤ M) (h : prR x = true) (h1 : x.f1.size ≤ M) (h2 : x.f2.size ≤ M) : (lineB x).data.toList.length ≤ 6 * (M + 1) := by
  have hw := joinB_len (wordsR x) M (words_size x M hM h h1 h2)
  have h6 := Nat.mul_le_mul_right (M + 1) (wordsR_len x)
  show (joinB (wordsR x) sp).toArray.toList.length ≤ _
  rw [List.toList_toArray]
  omega
theorem lines_f (M : Nat) (hM : 30 ≤ M) (hM2 : M ≤ 1000000) (k : Nat) (hk : 3 ≤ k) : ∀ l, okR M l → lines k l = some (textL l)
  | [], _ => rfl
  | x :: r, h => by
    obtain ⟨hp, h1, h2⟩ := h x (by simp)
    rw [lines, line_f x M hM hM2 hp h1 h2 k hk, lines_f M hM hM2 k hk r (fun y hy => h y (by simp [hy]))]
    rfl
theorem textL_len (M : Nat) (hM : 30 ≤ M) : ∀ l, okR M l → (textL l).length ≤ l.length * (6 * (M + 1) + 1)
  | [], _ => by simp [textL]
  | x :: r, h => by
    obtain ⟨hp, h1, h2⟩ := h x (by simp)
    have h3 := lineB_len x M hM hp h1 h2
    have ih := textL_len M hM r (fun y hy => h y (by simp [hy]))
    simp only [textL, List.length_append, List.length_cons, Nat.add_mul, Nat.one_mul]
    omega
theorem rd_lt {l : List S38} {j : Nat} (h : j < l.length) : rd_T38 l (j : Int) = l[j] := by
  unfold rd_T38
  rw [show ((j : Int)).toNat = j from rfl, List.getD_eq_getElem?_getD, List.getElem?_eq_getElem h]
  rfl
theorem rd_take {l : List S38} {m j : Nat} (h : j < m) (hm : m ≤ l.length) : rd_T38 (l.take m) (j : Int) = rd_T38 l (j : Int) := by
  rw [rd_lt (by simp; omega), rd_lt (by omega)]
  simp
theorem clRest_take {l : List S38} {m : Nat} (hm : m ≤ l.length) (y : S38) : ∀ n j, j + n ≤ m → clRest (l.take m) y n j = clRest l y n j
  | 0, _, _ => rfl
  | n + 1, j, h => by rw [clRest, clRest, rd_take (by omega) hm, clRest_take hm y n (j + 1) (by omega)]
theorem vRest_take {l : List S38} {m : Nat} (hm : m ≤ l.length) : ∀ n i, i + n ≤ m → vRest (l.take m) n i = vRest l n i
  | 0, _, _ => rfl
  | n + 1, i, h => by rw [vRest, vRest, rd_take (by omega) hm, clRest_take hm _ i 0 (by omega), vRest_take hm n (i + 1) (by omega)]
theorem vRest_less {l : List S38} : ∀ n m i, n ≤ m → vRest l m i = true → vRest l n i = true
  | 0, _, _, _, _ => rfl
  | n + 1, 0, _, h, _ => by omega
  | n + 1, m + 1, i, h, hv => by
    rw [vRest, Bool.and_eq_true] at hv ⊢
    exact ⟨hv.1, vRest_less n m (i + 1) (by omega) hv.2⟩
theorem vRest_pr {l : List S38} : ∀ n i, vRest l n i = true → ∀ j, i ≤ j → j < i + n → prR (rd_T38 l (j : Int)) = true
  | 0, _, _, j, _, _ => by omega
  | n + 1, i, hv, j, h1, h2 => by
    rw [vRest, Bool.and_eq_true, Bool.and_eq_true] at hv
    by_cases e : j = i
    · subst e; exact hv.1.1
    · exact vRest_pr n (i + 1) hv.2 j (by omega) (by omega)
theorem okR_of {M : Nat} {l : List S38} (hs : smallR M l) (hv : vRest l l.length 0 = true) : okR M l := by
  intro x hx
  obtain ⟨j, hj, rfl⟩ := List.getElem_of_mem hx
  rw [← rd_lt hj]
  exact ⟨vRest_pr _ _ hv j (by omega) (by omega), hs j hj⟩
theorem smallR_take {M : Nat} {l : List S38} (hs : smallR M l) (m : Nat) (hm : m ≤ l.length) : smallR M (l.take m) := fun j hj => by
  have : j < m := by simp at hj; omega
  rw [rd_take this hm]
  exact hs j (by omega)
theorem text_f (M : Nat) (hM : 30 ≤ M) (hM2 : M ≤ 1000000) (l : List S38) (hl : l.length ≤ 64) (hs : smallR M l) (hv : vRest l l.length 0 = true) (k : Nat) (hk : l.length + M + 60 ≤ k) : grammar_Text.f k l = some ⟨(textL l).toArray⟩ := by
  have hok := okR_of hs hv
  have hlen := textL_len M hM l hok
  have : l.length * (6 * (M + 1) + 1) ≤ 64 * (6 * (M + 1) + 1) := Nat.mul_le_mul_right _ hl
  unfold grammar_Text.f
  rw [impl_valid l M (by omega) (by omega) hs k hk, hv, decide_eq_true hl, Option.bind_some, Bool.and_self, if_pos rfl, lines_f M hM hM2 k (by omega) l hok, Option.bind_some, if_pos (by omega)]
theorem text_no (M : Nat) (hM2 : M ≤ 1000000) (l : List S38) (hl : l.length ≤ 9223372036854775807) (hs : smallR M l) (h : (decide (l.length ≤ 64) && vRest l l.length 0) = false) (k : Nat) (hk : l.length + M + 60 ≤ k) : grammar_Text.f k l = some ⟨#[]⟩ := by
  unfold grammar_Text.f
  rw [impl_valid l M (by omega) hl hs k hk, h, Option.bind_some, if_neg (by decide)]
end Go.Proofs.YtghdimmomnfakaaDoor.Pure

set_option linter.unusedVariables false
namespace Go.Proofs.YtghdimmomnfakaaDoor.Pure
open Go.RowKit Go.Proofs.YtghdimmomnfakaaDoorW.PrintWords Go.Proofs.YtghdimmomnfakaaDoorW.PrintLast Go.Proofs.YtghdimmomnfakaaDoorW.PrintMore Go.Proofs.YtghdimmomnfakaaDoor.Gv Go.Proofs.YtghdimmomnfakaaDoor.X
theorem short_says (l : List S38) (hl : l.length ≤ 9223372036854775807) : ∀ k i, i ≤ l.length → vinculumlaw49_short.l0 k l (i : Int) = some true →
    l.length ≤ 80 ∧ ∀ j, i ≤ j → j < l.length → (rd_T38 l (j : Int)).f1.size ≤ 100 ∧ (rd_T38 l (j : Int)).f2.size ≤ 100
  | 0, i, _, h => by simp [vinculumlaw49_short.l0] at h
  | k + 1, i, hi, h => by
    rw [vinculumlaw49_short.l0] at h
    by_cases c : (i : Int) < (l.length : Int)
    · rw [if_pos c, if_pos (by omega)] at h
      by_cases c1 : ((rd_T38 l (i : Int)).f1.size : Int) > 100
      · rw [if_pos c1] at h; simp at h
      rw [if_neg c1] at h
      by_cases c2 : ((rd_T38 l (i : Int)).f2.size : Int) > 100
      · rw [if_pos c2] at h; simp at h
      rw [if_neg c2, w64 (x := (i : Int) + 1) (by omega) (by omega)] at h
      obtain ⟨h1, h2⟩ := short_says l hl k (i + 1) (by omega) h
      refine ⟨h1, fun j hj hj2 => ?_⟩
      by_cases e : j = i
      · subst e; omega
      · exact h2 j (by omega) hj2
    · rw [if_neg c] at h
      have := of_decide_eq_true (Option.some.inj h)
      exact ⟨by omega, fun j hj hj2 => by omega⟩
end Go.Proofs.YtghdimmomnfakaaDoor.Pure

set_option linter.unusedVariables false
set_option linter.unusedSimpArgs false
namespace Go.Proofs.YtghdimmomnfakaaDoor.Gv
open Go.RowKit Go.Proofs.YtghdimmomnfakaaDoorW.PrintWords Go.Proofs.YtghdimmomnfakaaDoorW.PrintLast Go.Proofs.YtghdimmomnfakaaDoorW.PrintMore
open Go.Proofs.YtghdimmomnfakaaDoor.X (S38 k38 rd_T38 at_T38 z38)
open Go.Proofs.YtghdimmomnfakaaDoor.Pure
theorem tens_all {P : Int → Bool} (h : ((List.range 102).all fun i => P (i : Int)) = true) {n : Int} (h0 : 0 ≤ n) (h1 : n ≤ 101) : P n = true := by
  rw [List.all_eq_true] at h
  have := h n.toNat (List.mem_range.2 (by omega))
  rwa [show ((n.toNat : Nat) : Int) = n by omega] at this
theorem digits_f {n : Int} (h0 : 0 ≤ n) (h1 : n ≤ 101) : Go.Proofs.YtghdimmomnfakaaDoor.U.vinculumref01_Digits.f 6 n = some (itoaB n) := by
  have := tens_all (P := fun n => decide (Go.Proofs.YtghdimmomnfakaaDoor.U.vinculumref01_Digits.f 6 n = some (itoaB n))) (by decide +kernel) h0 h1
  simpa using this
theorem digits_any {n : Int} (h0 : 0 ≤ n) (h1 : n ≤ 101) (w : World) :
    Calls Tryd.prog 60 #[.int .i64 n] w fun e w' => e = .returned (.string (itoaB n)) ∧ Below w.heap.size w w' :=
  Go.Proofs.YtghdimmomnfakaaDoor.U.vinculumref01_Digits.calls 6 n _ w (digits_f h0 h1)
theorem lineS2 {W0 W W1 : World} {b : Nat} {x : S38} (h : W.cell? ⟨b, 3, none⟩ = some (.int .i64 x.f3) ∧ W.cell? ⟨b, 4, none⟩ = some (.int .i64 x.f4) ∧ W.cell? ⟨b, 5, none⟩ = some (.int .i64 x.f5) ∧ Below W0.heap.size W0 W) (hb : Below W.heap.size W W1) :
    W1.cell? ⟨b, 3, none⟩ = some (.int .i64 x.f3) ∧ W1.cell? ⟨b, 4, none⟩ = some (.int .i64 x.f4) ∧ W1.cell? ⟨b, 5, none⟩ = some (.int .i64 x.f5) ∧ Below W0.heap.size W0 W1 :=
  ⟨keepC hb h.1, keepC hb h.2.1, keepC hb h.2.2.1, keepB hb h.2.2.2⟩
theorem lineB_of {W0 W : World} {b : Nat} {x : S38} (h : W.cell? ⟨b, 3, none⟩ = some (.int .i64 x.f3) ∧ W.cell? ⟨b, 4, none⟩ = some (.int .i64 x.f4) ∧ W.cell? ⟨b, 5, none⟩ = some (.int .i64 x.f5) ∧ Below W0.heap.size W0 W) : Below W0.heap.size W0 W := h.2.2.2
theorem line_k1 (x : S38) (h : x.f0 = 1) : (⟨#[105, 110, 102, 105, 120, 32]⟩ : ByteArray) ++ x.f1 ++ (⟨#[32]⟩ : ByteArray) ++ x.f2 ++ ((⟨#[32]⟩ : ByteArray) ++ itoaB x.f3) ++ ((⟨#[32]⟩ : ByteArray) ++ itoaB x.f4) ++ ((⟨#[32]⟩ : ByteArray) ++ itoaB x.f5) = lineB x := by
  unfold lineB wordsR
  rw [if_pos h]
  apply ByteArray.ext; apply Array.ext'
  simp [joinB, Lib.join_cons, Lib.joinTail, sp, ByteArray.data_append]
theorem line_k2 (x : S38) (h : x.f0 = 2) : (⟨#[112, 114, 101, 102, 105, 120, 32]⟩ : ByteArray) ++ x.f1 ++ (⟨#[32]⟩ : ByteArray) ++ x.f2 ++ ((⟨#[32]⟩ : ByteArray) ++ itoaB x.f3) ++ ((⟨#[32]⟩ : ByteArray) ++ itoaB x.f5) = lineB x := by
  unfold lineB wordsR
  rw [if_neg (by omega), if_pos h]
  apply ByteArray.ext; apply Array.ext'
  simp [joinB, Lib.join_cons, Lib.joinTail, sp, ByteArray.data_append]
theorem line_k3 (x : S38) (h : x.f0 = 3) : (⟨#[112, 111, 115, 116, 102, 105, 120, 32]⟩ : ByteArray) ++ x.f1 ++ (⟨#[32]⟩ : ByteArray) ++ x.f2 ++ ((⟨#[32]⟩ : ByteArray) ++ itoaB x.f3) ++ ((⟨#[32]⟩ : ByteArray) ++ itoaB x.f4) = lineB x := by
  unfold lineB wordsR
  rw [if_neg (by omega), if_neg (by omega), if_pos h]
  apply ByteArray.ext; apply Array.ext'
  simp [joinB, Lib.join_cons, Lib.joinTail, sp, ByteArray.data_append]
theorem line_k4 (x : S38) (h : x.f0 = 4) : (⟨#[106, 117, 120, 116, 97, 112, 111, 115, 101, 32]⟩ : ByteArray) ++ x.f2 ++ ((⟨#[32]⟩ : ByteArray) ++ itoaB x.f3) ++ ((⟨#[32]⟩ : ByteArray) ++ itoaB x.f4) ++ ((⟨#[32]⟩ : ByteArray) ++ itoaB x.f5) = lineB x := by
  unfold lineB wordsR
  rw [if_neg (by omega), if_neg (by omega), if_neg (by omega)]
  apply ByteArray.ext; apply Array.ext'
  simp [joinB, Lib.join_cons, Lib.joinTail, sp, ByteArray.data_append]
set_option maxHeartbeats 4000000 in
set_option maxRecDepth 1000000 in
theorem ref_line (x : S38) (w : World) (h : prR x = true) (hs1 : x.f1.size ≤ 1000000) (hs2 : x.f2.size ≤ 1000000) :
    Calls Tryd.prog 41 #[.agg #[.int .i64 x.f0, .string x.f1, .string x.f2, .int .i64 x.f3, .int .i64 x.f4, .int .i64 x.f5]] w fun e w' => e = .returned (.string (lineB x)) ∧ Below w.heap.size w w' := by
  have hp := prB_parts h
  have hk := hp.1
  have h3 := hp.2.1
  have h4 := hp.2.2.1
  have h5 := hp.2.2.2.1
  clear hp
  have D3 := Aside0.mk (fun W => digits_any (n := x.f3) (by omega) (by omega) W)
  have D4 := Aside0.mk (fun W => digits_any (n := x.f4) h4.1 h4.2 W)
  have D5 := Aside0.mk (fun W => digits_any (n := x.f5) h5.1 h5.2 W)
  have z3 := itoaB_size x.f3 (by omega) (by omega)
  have z4 := itoaB_size x.f4 (by omega) (by omega)
  have z5 := itoaB_size x.f5 (by omega) (by omega)
  have K := Aside0.mk hk
  have L1 := Aside0.mk (line_k1 x)
  have L2 := Aside0.mk (line_k2 x)
  have L3 := Aside0.mk (line_k3 x)
  have L4 := Aside0.mk (line_k4 x)
  clear hk h3 h4 h5 h
  generalize hd3 : itoaB x.f3 = d3 at *
  generalize hd4 : itoaB x.f4 = d4 at *
  generalize hd5 : itoaB x.f5 = d5 at *
  have s3 : ¬ 9223372036854775807 < (⟨#[32]⟩ : ByteArray).size + d3.size := by have e : (⟨#[32]⟩ : ByteArray).size = 1 := rfl; omega
  have r3 : ¬ 9223372036854775807 < 1 + d3.size := by omega
  have s4 : ¬ 9223372036854775807 < (⟨#[32]⟩ : ByteArray).size + d4.size := by have e : (⟨#[32]⟩ : ByteArray).size = 1 := rfl; omega
  have r4 : ¬ 9223372036854775807 < 1 + d4.size := by omega
  have s5 : ¬ 9223372036854775807 < (⟨#[32]⟩ : ByteArray).size + d5.size := by have e : (⟨#[32]⟩ : ByteArray).size = 1 := rfl; omega
  have r5 : ¬ 9223372036854775807 < 1 + d5.size := by omega
  go_enter Tryd.func41, Tryd.ntmps41
  go_upto_region 1 with fail
  generalize hW : w.alloc (.cells #[.int .i64 x.f0, .string x.f1, .string x.f2, .int .i64 x.f3, .int .i64 x.f4, .int .i64 x.f5] 38) = W0
  have BK : W0.heap[w.heap.size]? = some (.cells #[.int .i64 x.f0, .string x.f1, .string x.f2, .int .i64 x.f3, .int .i64 x.f4, .int .i64 x.f5] 38 (0, 0)) := by rw [← hW]; exact blk_new _ _
  have B0 : Below w.heap.size w W0 := by rw [← hW]; exact (Below.refl _ _).alloc (Nat.le_refl _) _
  have hlt := blk_lt BK
  have SD := Aside0.mk (show W0.drew.cell? ⟨w.heap.size, 3, none⟩ = some (.int .i64 x.f3) ∧ W0.drew.cell? ⟨w.heap.size, 4, none⟩ = some (.int .i64 x.f4) ∧ W0.drew.cell? ⟨w.heap.size, 5, none⟩ = some (.int .i64 x.f5) ∧ Below W0.heap.size W0 W0.drew from ⟨(blk_cell (blk_drew BK) 3).trans rfl, (blk_cell (blk_drew BK) 4).trans rfl, (blk_cell (blk_drew BK) 5).trans rfl, below_drew (Below.refl _ _)⟩)
  have x3 := (blk_cell BK 3).trans rfl
  have BK' := Aside0.mk BK
  have B0' := Aside0.mk B0
  clear BK B0 hW
  go_cut [3, 4, 5] (fun a b c wx => a = .string ((⟨#[32]⟩ : ByteArray) ++ d3) ∧ b = .string ((⟨#[32]⟩ : ByteArray) ++ d4) ∧ c = .string ((⟨#[32]⟩ : ByteArray) ++ d5) ∧ Aside0 (Below W0.heap.size W0 wx))
  case first =>
    go_region_held3 (fun wx => wx.cell? ⟨w.heap.size, 3, none⟩ = some (.int .i64 x.f3) ∧ wx.cell? ⟨w.heap.size, 4, none⟩ = some (.int .i64 x.f4) ∧ wx.cell? ⟨w.heap.size, 5, none⟩ = some (.int .i64 x.f5) ∧ Below W0.heap.size W0 wx) (first | assumption | exact SD.out | (refine lineS2 ?_ ‹_›; assumption)) (first | (go_at_call_of 60 (x.f3); refine (D3.out _).mono ?_; rintro e w' ⟨rfl, hb⟩) | (go_at_call_of 60 (x.f4); refine (D4.out _).mono ?_; rintro e w' ⟨rfl, hb⟩) | (go_at_call_of 60 (x.f5); refine (D5.out _).mono ?_; rintro e w' ⟨rfl, hb⟩))
    all_goals (try go_wp2_with fail)
    all_goals go_meet
    all_goals (refine ⟨rfl, rfl, rfl, ⟨lineB_of (b := w.heap.size) (x := x) ?_⟩⟩; assumption)
  case rest =>
    obtain ⟨rfl, rfl, rfl, BX⟩ := hcut
    have BKc := Aside0.mk (blk_below BK'.out BX.out)
    have BC := Aside0.mk (keepB BX.out B0'.out)
    have c0 := (blk_cell BKc.out 0).trans rfl
    have c1 := (blk_cell BKc.out 1).trans rfl
    have c2 := (blk_cell BKc.out 2).trans rfl
    clear BX BK' B0' SD hlt x3 s3 s4 s5 r3 r4 r5
    have t3 : ((⟨#[32]⟩ : ByteArray) ++ d3).size ≤ 30 := by rw [ByteArray.size_append]; have e : (⟨#[32]⟩ : ByteArray).size = 1 := rfl; omega
    have t4 : ((⟨#[32]⟩ : ByteArray) ++ d4).size ≤ 30 := by rw [ByteArray.size_append]; have e : (⟨#[32]⟩ : ByteArray).size = 1 := rfl; omega
    have t5 : ((⟨#[32]⟩ : ByteArray) ++ d5).size ≤ 30 := by rw [ByteArray.size_append]; have e : (⟨#[32]⟩ : ByteArray).size = 1 := rfl; omega
    generalize (⟨#[32]⟩ : ByteArray) ++ d3 = e3 at *
    generalize (⟨#[32]⟩ : ByteArray) ++ d4 = e4 at *
    generalize (⟨#[32]⟩ : ByteArray) ++ d5 = e5 at *
    rcases K.out with hk | hk | hk | hk
    · have c0' : wc.cell? ⟨w.heap.size, 0, none⟩ = some (.int .i64 1) := by rw [← hk]; exact c0
      have LL := Aside0.mk (L1.out hk)
      clear c0 hk
      go_wp2
      go_ret
      exact ⟨by rw [← LL.out]; rfl, BC.out⟩
    · have c0' : wc.cell? ⟨w.heap.size, 0, none⟩ = some (.int .i64 2) := by rw [← hk]; exact c0
      have LL := Aside0.mk (L2.out hk)
      clear c0 hk
      go_wp2
      go_ret
      exact ⟨by rw [← LL.out]; rfl, BC.out⟩
    · have c0' : wc.cell? ⟨w.heap.size, 0, none⟩ = some (.int .i64 3) := by rw [← hk]; exact c0
      have LL := Aside0.mk (L3.out hk)
      clear c0 hk
      go_wp2
      go_ret
      exact ⟨by rw [← LL.out]; rfl, BC.out⟩
    · have c0' : wc.cell? ⟨w.heap.size, 0, none⟩ = some (.int .i64 4) := by rw [← hk]; exact c0
      have LL := Aside0.mk (L4.out hk)
      clear c0 hk
      go_wp2
      go_ret
      exact ⟨by rw [← LL.out]; rfl, BC.out⟩
end Go.Proofs.YtghdimmomnfakaaDoor.Gv

set_option linter.unusedVariables false
set_option linter.unusedSimpArgs false
namespace Go.Proofs.YtghdimmomnfakaaDoor.Gv
open Go.RowKit Go.Proofs.YtghdimmomnfakaaDoorW.PrintWords Go.Proofs.YtghdimmomnfakaaDoorW.PrintLast Go.Proofs.YtghdimmomnfakaaDoorW.PrintMore
open Go.Proofs.YtghdimmomnfakaaDoor.X (S38 k38 rd_T38 at_T38 z38)
open Go.Proofs.YtghdimmomnfakaaDoor.Pure
def textB (l : List S38) : ByteArray := ⟨(textL l).toArray⟩
theorem textB_size (l : List S38) : (textB l).size = (textL l).length := by show (textL l).toArray.size = _; simp
theorem textB_step {l : List S38} {k : Nat} (hk : k < l.length) : textB (l.take k) ++ (lineB (rd_T38 l (k : Int)) ++ (⟨#[10]⟩ : ByteArray)) = textB (l.take (k + 1)) := by
  unfold textB
  rw [List.take_succ_eq_append_getElem hk, textL_append, rd_lt hk]
  apply ByteArray.ext; apply Array.ext'
  simp [textL, ByteArray.data_append]
theorem okR_take {M : Nat} {l : List S38} (h : okR M l) (k : Nat) : okR M (l.take k) := fun x hx => h x (List.mem_of_mem_take hx)
theorem okR_at {M : Nat} {l : List S38} (h : okR M l) {k : Nat} (hk : k < l.length) : prR (rd_T38 l (k : Int)) = true ∧ (rd_T38 l (k : Int)).f1.size ≤ M ∧ (rd_T38 l (k : Int)).f2.size ≤ M := by
  rw [rd_lt hk]; exact h _ (List.getElem_mem _)
theorem textB_take {l : List S38} (h : okR 100 l) (h64 : l.length ≤ 64) (k : Nat) : (textB (l.take k)).size ≤ 40000 := by
  rw [textB_size]
  have := textL_len 100 (by omega) _ (okR_take h k)
  have e : (l.take k).length ≤ 64 := by simp; omega
  have := Nat.mul_le_mul_right (6 * (100 + 1) + 1) e
  omega
theorem line_small {x : S38} (h : prR x = true ∧ x.f1.size ≤ 100 ∧ x.f2.size ≤ 100) : (lineB x).size ≤ 700 := by
  have := lineB_len x 100 (by omega) h.1 h.2.1 h.2.2
  rw [Array.length_toList] at this
  show (lineB x).data.size ≤ 700
  omega
theorem refv (A0 : Option Addr) (c0 : Nat) (l : List S38) (w : World) (hr : Kd.C k38 w A0 l.length l) (hc : l.length ≤ c0) (hl : l.length ≤ 9223372036854775807) (hs : smallR 100 l) :
    Calls Tryd.prog 10 #[.slice A0 l.length c0] w fun e w' => e = .returned (.bool (vRest l l.length 0 && decide (l.length ≤ 64))) ∧ Below w.heap.size w w' :=
  Go.Proofs.YtghdimmomnfakaaDoor.X.vinculumref49_Valid.calls _ A0 c0 l _ w hr hc (ref_valid l 100 (by omega) hl hs _ (Nat.le_refl _))
set_option maxHeartbeats 4000000 in
set_option maxRecDepth 1000000 in
theorem ref_text_no (A0 : Option Addr) (c0 : Nat) (l : List S38) (w : World) (hr : Kd.C k38 w A0 l.length l) (hc : l.length ≤ c0) (hl : l.length ≤ 9223372036854775807) (hs : smallR 100 l) (hv : (vRest l l.length 0 && decide (l.length ≤ 64)) = false) :
    Calls Tryd.prog 20 #[.slice A0 l.length c0] w fun e w' => e = .returned (.string ⟨#[]⟩) ∧ Below w.heap.size w w' := by
  have va := refv A0 c0 l w hr hc hl hs
  rw [hv] at va
  have VA := Aside0.mk va
  clear va hr hv hs
  go_enter Tryd.func20, Tryd.ntmps20
  go_wp2_with fail
  refine VA.out.mono ?_
  rintro e w1 ⟨rfl, hb1⟩
  have B1 := Aside0.mk hb1
  clear hb1 VA
  go_wp2
  go_ret
  exact ⟨rfl, B1.out⟩
set_option maxHeartbeats 4000000 in
set_option maxRecDepth 1000000 in
theorem ref_text (A0 : Option Addr) (c0 : Nat) (l : List S38) (w : World) (hr : Kd.C k38 w A0 l.length l) (hc : l.length ≤ c0) (hs : smallR 100 l) (hv : vRest l l.length 0 = true) (h64 : l.length ≤ 64) :
    Calls Tryd.prog 20 #[.slice A0 l.length c0] w fun e w' => e = .returned (.string (textB l)) ∧ Below w.heap.size w w' := by
  have va := refv A0 c0 l w hr hc (by omega) hs
  rw [hv, decide_eq_true h64] at va
  have OK := Aside0.mk (okR_of hs hv)
  have VA := Aside0.mk va
  have HR := Aside0.mk hr
  have F := Aside0.mk (show textB (l.take l.length) = textB l by rw [List.take_length])
  clear va hr hv hs
  generalize hn : l.length = n at *
  have HN := Aside0.mk hn
  clear hn
  go_enter Tryd.func20, Tryd.ntmps20
  go_wp2_with fail
  refine VA.out.mono ?_
  rintro e w1 ⟨rfl, hb1⟩
  have B1 := Aside0.mk hb1
  clear hb1 VA
  go_wp2
  go_loopw [3, 4] (fun t i wr => ∃ k : Nat, k ≤ n ∧ t = .string (textB (l.take k)) ∧ i = .int .i64 k ∧ Aside0 (Below w.heap.size w wr)) (fun _ i _ => n - (intOf i).toNat)
  case atStart => exact ⟨0, Nat.zero_le _, rfl, rfl, B1⟩
  case round =>
    obtain ⟨k, hk, rfl, rfl, BW⟩ := hrel
    by_cases hlt : k < n
    · obtain ⟨ad, e, x0, x1, x2, x3, x4, x5⟩ := at_T38 HR.out (k : Int) (by omega) (by omega)
      cases e
      replace x0 := keepC BW.out x0
      replace x1 := keepC BW.out x1
      replace x2 := keepC BW.out x2
      replace x3 := keepC BW.out x3
      replace x4 := keepC BW.out x4
      replace x5 := keepC BW.out x5
      have hkl : k < l.length := by have := HN.out; omega
      have ok := okR_at OK.out hkl
      have ST := Aside0.mk (textB_step hkl)
      have sz := textB_take OK.out (by have := HN.out; omega) k
      have lz := line_small ok
      generalize rd_T38 l (k : Int) = y at *
      rw [show ((k : Int)).toNat = k from rfl] at x0 x1 x2 x3 x4 x5
      have LN := Aside0.mk (fun W => ref_line y W ok.1 (by omega) (by omega))
      have hk0 : (0 : Int) ≤ (k : Int) := by omega
      have hkn : (k : Int) < (n : Int) := by omega
      generalize textB (l.take k) = acc at *
      generalize lineB y = ln at *
      have hz : (ln ++ (⟨#[10]⟩ : ByteArray)).size ≤ 800 := by rw [ByteArray.size_append]; have e : (⟨#[10]⟩ : ByteArray).size = 1 := rfl; omega
      clear ok
      go_wp2_with fail
      refine (LN.out _).mono ?_
      rintro e w2 ⟨rfl, hb2⟩
      have B2 := Aside0.mk (keepB hb2 BW.out)
      clear hb2 BW x0 x1 x2 x3 x4 x5
      go_wp2
      go_roundw
      case rel => exact ⟨k + 1, by omega, by rw [← ST.out], by go_num, B2⟩
      case measure => simp [intOf]; omega
    · have hkn : k = n := by omega
      subst hkn
      go_wp2
      go_ret
      exact ⟨by rw [← F.out]; rfl, BW.out⟩
end Go.Proofs.YtghdimmomnfakaaDoor.Gv

set_option linter.unusedVariables false
set_option linter.unusedSimpArgs false
namespace Go.Proofs.YtghdimmomnfakaaDoor.Gv
open Go.RowKit Go.Proofs.YtghdimmomnfakaaDoorW.PrintWords Go.Proofs.YtghdimmomnfakaaDoorW.PrintLast Go.Proofs.YtghdimmomnfakaaDoorW.PrintMore
open Go.Proofs.YtghdimmomnfakaaDoor.X (S38 k38 rd_T38 at_T38 z38 k38_mkM)
theorem info_rule : (Tryd.prog.info? 38).map (fun i => (i.zero, i.size, i.bytes)) = some (some (.agg #[.int .i64 0, .string ⟨#[]⟩, .string ⟨#[]⟩, .int .i64 0, .int .i64 0, .int .i64 0]), k38.sz, 64) := by kernel_rfl
set_option maxHeartbeats 1000000 in
theorem closureP_calls (a0 : Int) (a1 a2 : ByteArray) (a3 a4 a5 : Int) (W : World) (x : S38) (g : Nat) (hk : W.heap[g]? = some (.cells #[.int .i64 a0, .string a1, .string a2, .int .i64 a3, .int .i64 a4, .int .i64 a5] 38 (0, 0))) :
    Calls Tryd.prog 40 #[ruleV x, .pointer (some ⟨g, 0, none⟩)] W fun e w' => e = .returned (.bool (clashP a0 a1 a2 a3 a4 a5 x)) ∧ Below W.heap.size W w' := by
  have l1 : g < W.heap.size := blk_lt hk
  have n1 : ¬ g = W.heap.size := Nat.ne_of_lt l1
  have n3 : ¬ W.heap.size = g := fun e => n1 e.symm
  have call := fun W' => Go.Proofs.YtghdimmomnfakaaDoor.Y.grammar_clash.calls x.f0 x.f1 x.f2 x.f3 x.f4 x.f5 a0 a1 a2 a3 a4 a5 _ W' (clash_total a0 a1 a2 a3 a4 a5 x)
  generalize clashP a0 a1 a2 a3 a4 a5 x = b at call ⊢
  have c0 := (blk_cell hk 0).trans rfl
  have c1 := (blk_cell hk 1).trans rfl
  have c2 := (blk_cell hk 2).trans rfl
  have c3 := (blk_cell hk 3).trans rfl
  have c4 := (blk_cell hk 4).trans rfl
  have c5 := (blk_cell hk 5).trans rfl
  clear hk
  go_enter Tryd.func40, Tryd.ntmps40
  go_wp2_with (go_at_call 32; refine (call _).mono ?_; rintro e w' ⟨rfl, hb'⟩)
  go_ret
  exact ⟨rfl, keepB hb' ((Below.refl _ _).alloc (Nat.le_refl _) _)⟩
theorem anyY (y : S38) (l : List S38) (g : Nat) (A0 : Option Addr) (c0 : Nat) (w : World) (hr : Kd.C k38 w A0 l.length l) (hc : l.length ≤ c0)
    (hk : w.heap[g]? = some (.cells #[.int .i64 y.f0, .string y.f1, .string y.f2, .int .i64 y.f3, .int .i64 y.f4, .int .i64 y.f5] 38 (0, 0))) :
    Calls Tryd.prog 30 #[.slice A0 l.length c0, .func (.func 40) #[] #[.pointer (some ⟨g, 0, none⟩)]] w fun e w' => e = .returned (.bool (decide (0 ≤ idxP (clashP y.f0 y.f1 y.f2 y.f3 y.f4 y.f5) l))) ∧ Below w.heap.size w w' :=
  containsFunc 40 _ (clashP y.f0 y.f1 y.f2 y.f3 y.f4 y.f5) (enters_of Tryd.func40 (by kernel_rfl) rfl) A0 c0 l w hr hc (fun W x hb => closureP_calls y.f0 y.f1 y.f2 y.f3 y.f4 y.f5 W x g (blk_below hk hb))
/-- does a rule ahead clash with the i-th -/
def clY (y : S38) (l : List S38) : Bool := decide (0 ≤ idxP (clashP y.f0 y.f1 y.f2 y.f3 y.f4 y.f5) l)
def clAt (l : List S38) (i : Nat) : Bool := clY (rd_T38 l (i : Int)) (l.take i)
theorem anyP (l : List S38) (i : Nat) (hi : i ≤ l.length) (y : S38) (hy : rd_T38 l (i : Int) = y) (g : Nat) (A0 : Option Addr) (c0 : Nat) (w : World) (hr : Kd.C k38 w A0 l.length l) (hc : l.length ≤ c0)
    (hk : w.heap[g]? = some (.cells #[.int .i64 y.f0, .string y.f1, .string y.f2, .int .i64 y.f3, .int .i64 y.f4, .int .i64 y.f5] 38 (0, 0))) :
    Calls Tryd.prog 30 #[.slice A0 (i : Nat) c0, .func (.func 40) #[] #[.pointer (some ⟨g, 0, none⟩)]] w fun e w' => e = .returned (.bool (clAt l i)) ∧ Below w.heap.size w w' := by
  have e : (l.take i).length = i := by simp; omega
  have h := anyY y (l.take i) g A0 c0 w (Kd.C_take (m := i) hr hi) (by omega) hk
  rw [e] at h
  unfold clAt
  rw [hy]
  exact h
def lineC (t : ByteArray) : ByteArray := ⟨(Lib.cut t.data.toList [10]).1.toArray⟩
def restC (t : ByteArray) : ByteArray := ⟨(Lib.cut t.data.toList [10]).2.1.toArray⟩
def foundC (t : ByteArray) : Bool := (Lib.cut t.data.toList [10]).2.2
theorem lineC_size (t : ByteArray) : (lineC t).size ≤ t.size := by
  have h := (cut_len t.data.toList [10]).1
  show (Lib.cut t.data.toList [10]).1.toArray.size ≤ t.size
  rw [List.size_toArray]; exact h
theorem restC_size (t : ByteArray) (h : foundC t = true) : (restC t).size + 1 ≤ t.size := by
  unfold foundC at h
  show (Lib.cut t.data.toList [10]).2.1.toArray.size + 1 ≤ t.size
  rw [List.size_toArray]
  have e : t.data.toList.length = t.size := Array.length_toList
  rw [Spl.cut_eq] at h ⊢
  generalize he : Spl.splitL 10 t.data.toList = q at h ⊢
  have hj := Spl.join_splitL 10 t.data.toList
  rw [he] at hj
  match q with
  | [] => simp at h
  | [a] => simp at h
  | a :: b :: r =>
    rw [← hj] at e
    rw [← e]
    simp only [Lib.join_cons, Lib.joinTail, List.flatten_cons, List.length_append]
    simp
    try omega
/-- the rules of the lines, or the line that is none -/
def lpF (rd : ByteArray → S38 × Bool) : Nat → ByteArray → List S38 → Except Int (List S38)
  | 0, _, acc => .ok acc
  | k + 1, t, acc => if t.toList.isEmpty = true then .ok acc else if (rd (lineC t)).2 = true then (if foundC t = true then lpF rd k (restC t) (acc ++ [(rd (lineC t)).1]) else .error (acc.length + 1)) else .error (acc.length + 1)
/-- the first rule that clashes, or is one too many -/
def chF (l : List S38) : Nat → Nat → Int × Int
  | 0, _ => (0, 0)
  | m + 1, i => if clAt l i = true then (i + 1, 9) else if (i : Int) = 64 then (i + 1, 6) else chF l m (i + 1)
theorem lpF_done (rd : ByteArray → S38 × Bool) : ∀ k {t : ByteArray} (acc : List S38), t.toList.isEmpty = true → lpF rd k t acc = .ok acc
  | 0, _, _, _ => rfl
  | _ + 1, _, _, h => by rw [lpF, if_pos h]
theorem size_of_ne {t : ByteArray} (h : t.toList.isEmpty = false) : 1 ≤ t.size := by
  rw [ByteArray.toList_eq] at h
  have e : t.data.toList.length = t.size := Array.length_toList
  cases hl : t.data.toList with
  | nil => rw [hl] at h; cases h
  | cons a r => rw [hl] at e; simp at e; omega
theorem chF_step (l : List S38) {i : Nat} (hi : i < l.length) : chF l (l.length - i) i = if clAt l i = true then ((i : Int) + 1, 9) else if (i : Int) = 64 then ((i : Int) + 1, 6) else chF l (l.length - (i + 1)) (i + 1) := by
  rw [show l.length - i = (l.length - (i + 1)) + 1 by omega]; rfl
def parseG (rd : ByteArray → S38 × Bool) (s : ByteArray) : List S38 × Int × Int :=
  match lpF rd s.size s [] with
  | .error n => ([], n, 3)
  | .ok l => if (chF l l.length 0).2 = 0 then (l, 0, 0) else ([], (chF l l.length 0).1, (chF l l.length 0).2)
theorem parseG_err {rd : ByteArray → S38 × Bool} {s : ByteArray} {n : Int} (h : lpF rd s.size s [] = .error n) : parseG rd s = ([], n, 3) := by unfold parseG; rw [h]
theorem parseG_ok {rd : ByteArray → S38 × Bool} {s : ByteArray} {l : List S38} (h : lpF rd s.size s [] = .ok l) (hc : (chF l l.length 0) = (0, 0)) : parseG rd s = (l, 0, 0) := by unfold parseG; rw [h]; simp only [hc]; rfl
theorem parseG_no {rd : ByteArray → S38 × Bool} {s : ByteArray} {l : List S38} {n c : Int} (h : lpF rd s.size s [] = .ok l) (hc : (chF l l.length 0) = (n, c)) (h0 : c ≠ 0) : parseG rd s = ([], n, c) := by unfold parseG; rw [h]; simp only [hc]; rw [if_neg h0]
abbrev ruleC (x : S38) : Array Value := #[.int .i64 x.f0, .string x.f1, .string x.f2, .int .i64 x.f3, .int .i64 x.f4, .int .i64 x.f5]
/-- a list of rules of the call's own -/
abbrev OwnR (w : World) (b : Nat) (v : Value) (l : List S38) : Prop := Kd.R k38 38 w b (fun _ => True) v l
set_option maxHeartbeats 8000000 in
set_option maxRecDepth 1000000 in
theorem parse_any (rd : ByteArray → S38 × Bool) (RD : ∀ (s : ByteArray) (W : World), Ge W → s.size ≤ 1000000 → Calls Tryd.prog 39 #[.string s] W fun e w' => e = .returned (.tuple #[.agg (ruleC (rd s).1), .bool (rd s).2]) ∧ Below W.heap.size W w') (s : ByteArray) (w : World) (hG : Ge w) (hs : s.size ≤ 1000000) :
    Calls Tryd.prog 19 #[.string s] w fun e w' => ∃ v, e = .returned (.tuple #[v, .int .i64 (parseG rd s).2.1, .int .i64 (parseG rd s).2.2]) ∧ OwnR w' w.heap.size v (parseG rd s).1 ∧ Below w.heap.size w w' := by
  have HG := Aside0.mk hG
  have RDA := Aside0.mk RD
  clear hG RD
  go_enter Tryd.func19, Tryd.ntmps19
  go_wp2
  go_loopg [0, 5, 6, 7, 8, 9, 10, 11] s.size (fun gg s0 s5 s6 _ _ _ _ _ wr => ∃ (t : ByteArray) (acc : List S38), t.size ≤ gg ∧ acc.length + t.size ≤ s.size ∧ s0 = .string t ∧ s6 = .int .i64 (acc.length + 1 : Nat) ∧ Aside0 (lpF rd gg t acc = lpF rd s.size s []) ∧ Aside0 (OwnR wr w.heap.size s5 acc) ∧ Aside0 (Below w.heap.size w wr))
  case atStart => exact ⟨s, [], Nat.le_refl _, by simp, rfl, rfl, ⟨rfl⟩, ⟨Kd.R_nil _ _ _ _ _⟩, ⟨Below.refl _ _⟩⟩
  case round =>
    obtain ⟨t, acc, hg, hl, rfl, rfl, HL, HO, BW⟩ := hrel
    obtain ⟨A, c, ev⟩ := Kd.R_slice HO.out
    subst ev
    have hn63 : ((acc.length + 1 : Nat) : Int) ≤ 2000000 := by omega
    by_cases he : t.toList.isEmpty = true
    · have HP := Aside0.mk (HL.out.symm.trans (lpF_done rd gk acc he))
      obtain ⟨b0, O1⟩ : ∃ b, Aside0 (OwnR wr b (.slice A acc.length c) acc ∧ b = w.heap.size) := ⟨_, ⟨HO.out, rfl⟩⟩
      have HR := Aside0.mk (Kd.R_reads' HO.out)
      have hl63 : (acc.length : Int) ≤ 1000000 := by omega
      have hac : (acc.length : Int) ≤ (c : Int) := by have := HR.out.2.1; omega
      generalize hn : acc.length = n at *
      have HN := Aside0.mk hn
      clear hn HL HO
      go_wp2
      go_loopw [12, 13, 43] (fun _ _ i wr2 => ∃ k : Nat, k ≤ n ∧ i = .int .i64 k ∧ Aside0 (chF acc n 0 = chF acc (n - k) k) ∧ Aside0 (Below wr.heap.size wr wr2)) (fun _ _ i _ => n - (intOf i).toNat)
      case atStart => exact ⟨0, Nat.zero_le _, rfl, ⟨rfl⟩, ⟨Below.refl _ _⟩⟩
      case round =>
        obtain ⟨k, hk, rfl, HC, B2⟩ := hrel
        by_cases hlt : k < n
        · obtain ⟨ad, e, x0, x1, x2, x3, x4, x5⟩ := at_T38 HR.out.2.2 (k : Int) (by omega) (by have := HN.out; omega)
          cases e
          replace x0 := keepC B2.out x0
          replace x1 := keepC B2.out x1
          replace x2 := keepC B2.out x2
          replace x3 := keepC B2.out x3
          replace x4 := keepC B2.out x4
          replace x5 := keepC B2.out x5
          have hk0 : (0 : Int) ≤ (k : Int) := by omega
          have hkn : (k : Int) < (n : Int) := by omega
          have hkc : (k : Int) ≤ (c : Int) := by omega
          have ey := chF_step acc (i := k) (by have := HN.out; omega)
          rw [HN.out] at ey
          have EY := Aside0.mk ey
          clear ey
          obtain ⟨y, hy⟩ : ∃ y, rd_T38 acc (k : Int) = y := ⟨_, rfl⟩
          rw [hy, show ((k : Int)).toNat = k from rfl] at x0 x1 x2 x3 x4 x5
          have HY := Aside0.mk hy
          have R2 := Aside0.mk (Kd.C_below HR.out.2.2 B2.out)
          clear hy
          go_wp2_with fail
          refine (anyP acc k (by have := HN.out; omega) y HY.out wr.heap.size (some ad) c _ (by rw [HN.out]; exact Kd.C_alloc R2.out _) (by have := HN.out; omega) (blk_new _ _)).mono ?_
          rintro e w5 ⟨rfl, hb5⟩
          have B5 := Aside0.mk (keepB (box_below hb5) B2.out)
          clear hb5 x0 x1 x2 x3 x4 x5 R2 HY
          cases hc : clAt acc k with
          | true =>
            have HZ := Aside0.mk (HC.out.trans (EY.out.trans (if_pos hc)))
            have HF := Aside0.mk (parseG_no (n := (k : Int) + 1) (c := 9) HP.out (by rw [HN.out]; exact HZ.out) (by decide))
            clear hc
            go_wp2
            go_ret3
            refine ⟨.slice none 0 0, by rw [HF.out]; rfl, by rw [HF.out]; exact Kd.R_nil _ _ _ _ _, keepB B5.out BW.out⟩
          | false =>
            by_cases h64 : (k : Int) = 64
            · have HZ := Aside0.mk (HC.out.trans (EY.out.trans ((if_neg (by rw [hc]; decide)).trans (if_pos h64))))
              have h64b : ((k : Int) == 64) = true := beq_iff_eq.2 h64
              have HF := Aside0.mk (parseG_no (n := (k : Int) + 1) (c := 6) HP.out (by rw [HN.out, HZ.out]) (by decide))
              clear hc h64
              go_wp2
              go_ret3
              refine ⟨.slice none 0 0, by rw [HF.out]; rfl, by rw [HF.out]; exact Kd.R_nil _ _ _ _ _, keepB B5.out BW.out⟩
            · have HZ := Aside0.mk (HC.out.trans (EY.out.trans ((if_neg (by rw [hc]; decide)).trans (if_neg h64))))
              have h64b : ((k : Int) == 64) = false := beq_eq_false_iff_ne.2 h64
              clear hc h64
              go_wp2
              go_roundw
              case rel => exact ⟨k + 1, by omega, by go_num, HZ, B5⟩
              case measure => simp [intOf]; omega
        · have hkn : k = n := by omega
          subst hkn
          have HZ := Aside0.mk (HC.out.trans (by rw [Nat.sub_self]))
          have HF := Aside0.mk (parseG_ok HP.out (by rw [HN.out]; exact HZ.out))
          go_wp2
          go_ret3
          refine ⟨.slice A k c, ?_, ?_, ?_⟩
          · rw [HF.out]; rfl
          · rw [HF.out]
            have h := Kd.R_below O1.out.1 B2.out
            rw [O1.out.2] at h
            exact h
          · exact keepB B2.out BW.out
    · have hef : t.toList.isEmpty = false := by simpa using he
      clear he
      have h1 := size_of_ne hef
      match gk, hg, HL with
      | 0, hg, _ => omega
      | gk + 1, hg, HL =>
      have hL : (if (rd (lineC t)).2 = true then (if foundC t = true then lpF rd gk (restC t) (acc ++ [(rd (lineC t)).1]) else .error (acc.length + 1)) else .error (acc.length + 1)) = lpF rd s.size s [] := by
        have h := HL.out
        rw [lpF, if_neg (by rw [hef]; decide)] at h
        exact h
      have HL2 := Aside0.mk hL
      have HS := Aside0.mk (lineC_size t)
      have HRS := Aside0.mk (restC_size t)
      have CUT := Aside0.mk (fun W hW => show Calls Tryd.prog 38 #[.string t, .string ⟨#[10]⟩] W fun e w' => e = .returned (.tuple #[.string (lineC t), .string (restC t), .bool (foundC t)]) ∧ Below W.heap.size W w' from cut_any t ⟨#[10]⟩ W hW (by omega))
      generalize lineC t = line at *
      generalize restC t = rest at *
      generalize foundC t = found at *
      have RDL := Aside0.mk (fun W hW => RDA.out line W hW (by have := HS.out; omega))
      generalize (rd line).1 = x at *
      generalize (rd line).2 = ok at *
      clear hL HL
      go_wp2_with fail
      refine (CUT.out _ (Gw.below HG.out.g BW.out)).mono ?_
      rintro e w2 ⟨rfl, hb2⟩
      have O2 := Aside0.mk (Kd.R_below HO.out hb2)
      have B2 := Aside0.mk (keepB hb2 BW.out)
      clear hb2 HO BW CUT
      go_wp2_with fail
      refine (RDL.out _ (Ge.below HG.out B2.out)).mono ?_
      rintro e w3 ⟨rfl, hb3⟩
      have O3 := Aside0.mk (Kd.R_alloc (Kd.R_below O2.out hb3) (.cells (ruleC x) 38))
      have B3 := Aside0.mk (Below.alloc (keepB hb3 B2.out) (keepB hb3 B2.out).size (.cells (ruleC x) 38))
      have l3 := (keepB hb3 B2.out).size
      clear hb3 O2 B2 RDL
      cases ok with
      | false =>
        have HF := Aside0.mk (parseG_err (HL2.out.symm.trans (if_neg (by decide))))
        go_wp2
        go_ret3
        refine ⟨.slice none 0 0, by rw [HF.out]; rfl, by rw [HF.out]; exact Kd.R_nil _ _ _ _ _, B3.out⟩
      | true =>
        cases found with
        | false =>
          have HF := Aside0.mk (parseG_err (HL2.out.symm.trans ((if_pos rfl).trans (if_neg (by decide)))))
          go_wp2
          go_ret3
          refine ⟨.slice none 0 0, by rw [HF.out]; rfl, by rw [HF.out]; exact Kd.R_nil _ _ _ _ _, B3.out⟩
        | true =>
          have HL3 := Aside0.mk (HL2.out.symm.trans ((if_pos rfl).trans (if_pos rfl))).symm
          have hr2 := HRS.out rfl
          go_wp2_with ((with_reducible refine gate_builtin (b := .append) (xs := #[.tmp 36, .tmp 38]) rfl ?_); at_builtin; refine Kd.R_append k38 (w0 := w) w.heap.size rfl (.tmp 36) (.tmp 38) 22 38 (.agg #[.int .i64 0, .string ⟨#[]⟩, .string ⟨#[]⟩, .int .i64 0, .int .i64 0, .int .i64 0]) 64 rfl Tryd.underlying22 info_rule rfl (by decide) (by omega) (.slice A acc.length c) acc x [.int .i64 x.f0, .string x.f1, .string x.f2, .int .i64 x.f3, .int .i64 x.f4, .int .i64 x.f5] (fun _ => True) (fun _ => False) rfl (by first | (go_simp; done) | (go_simp; rfl)) ?aP (fun _ hk => hk.elim) ?aF ?aO ?aB ?aS ?aL ?_; (case aP => exact k38_mkM _ _ _ _); (case aB => exact B3.out); (case aF => exact (fun _ _ => trivial)); (case aO => exact O3.out); (case aS => exact B3.out.size); (case aL => omega); intro v1 w17 ho hb hg hat; have HO2 := Aside0.mk ho; have BW2 := Aside0.mk hb; clear ho hb hg hat)
          go_roundg gk
          case measure => omega
          case rel => exact ⟨rest, acc ++ [x], by omega, by simp; omega, rfl, by simp, HL3, HO2, BW2⟩
end Go.Proofs.YtghdimmomnfakaaDoor.Gv

set_option linter.unusedVariables false
namespace Go.Proofs.YtghdimmomnfakaaDoor.Gv
open Go.RowKit Go.Proofs.YtghdimmomnfakaaDoorW.PrintWords Go.Proofs.YtghdimmomnfakaaDoorW.PrintLast Go.Proofs.YtghdimmomnfakaaDoorW.PrintMore
open Go.Proofs.YtghdimmomnfakaaDoor.X (S38 k38 rd_T38 at_T38 z38)
open Go.Proofs.YtghdimmomnfakaaDoor.Pure (prR lineB)
theorem kindIdx_ways (x : ByteArray) : kindIdx x = -1 ∨ kindIdx x = 0 ∨ kindIdx x = 1 ∨ kindIdx x = 2 ∨ kindIdx x = 3 := by
  unfold kindIdx
  split
  · exact .inr (.inl rfl)
  · split
    · exact .inr (.inr (.inl rfl))
    · split
      · exact .inr (.inr (.inr (.inl rfl)))
      · split
        · exact .inr (.inr (.inr (.inr rfl)))
        · exact .inl rfl
theorem parts_ne (c : UInt8) (s : ByteArray) : 0 < (partsS c s).length := by
  unfold partsS
  rw [List.length_map]
  exact List.length_pos_iff.2 (Spl.splitL_ne c _)
theorem read_any (s : ByteArray) (w : World) (hG : Ge w) (hs : s.size ≤ 1000000) :
    Calls Tryd.prog 39 #[.string s] w fun e w' => e = .returned (.tuple #[.agg (rule6 (readR s).1), .bool (readR s).2]) ∧ Below w.heap.size w w' := by
  have h0 := parts_ne 32 s
  rcases kindIdx_ways (nthS (partsS 32 s) 0) with h | h | h | h | h
  · have e : readR s = (z38, false) := by unfold readR; rw [h]; exact if_pos (by decide)
    rw [e]
    exact read_none s w hG hs h0 h
  · have e : readR s = (readX 0 (partsS 32 s), prR (readX 0 (partsS 32 s)) && decide (lineB (readX 0 (partsS 32 s)) = s)) := by unfold readR; rw [h]; exact if_neg (by decide)
    rw [e]
    exact read_k0 s w hG hs h0 h
  · have e : readR s = (readX 1 (partsS 32 s), prR (readX 1 (partsS 32 s)) && decide (lineB (readX 1 (partsS 32 s)) = s)) := by unfold readR; rw [h]; exact if_neg (by decide)
    rw [e]
    exact read_k1 s w hG hs h0 h
  · have e : readR s = (readX 2 (partsS 32 s), prR (readX 2 (partsS 32 s)) && decide (lineB (readX 2 (partsS 32 s)) = s)) := by unfold readR; rw [h]; exact if_neg (by decide)
    rw [e]
    exact read_k2 s w hG hs h0 h
  · have e : readR s = (readX 3 (partsS 32 s), prR (readX 3 (partsS 32 s)) && decide (lineB (readX 3 (partsS 32 s)) = s)) := by unfold readR; rw [h]; exact if_neg (by decide)
    rw [e]
    exact read_k3 s w hG hs h0 h
theorem grammar_Parse.any (s : ByteArray) (w : World) (hG : Ge w) (hs : s.size ≤ 1000000) :
    Calls Tryd.prog 19 #[.string s] w fun e w' => ∃ v, e = .returned (.tuple #[v, .int .i64 (parseG readR s).2.1, .int .i64 (parseG readR s).2.2]) ∧ OwnR w' w.heap.size v (parseG readR s).1 ∧ Below w.heap.size w w' :=
  parse_any readR read_any s w hG hs
end Go.Proofs.YtghdimmomnfakaaDoor.Gv

set_option linter.unusedVariables false
set_option linter.unusedSimpArgs false
namespace Go.Proofs.YtghdimmomnfakaaDoor.Pure
open Go.RowKit Go.Proofs.YtghdimmomnfakaaDoorW.PrintWords Go.Proofs.YtghdimmomnfakaaDoorW.PrintLast Go.Proofs.YtghdimmomnfakaaDoorW.PrintMore Go.Proofs.YtghdimmomnfakaaDoor.Gv Go.Proofs.YtghdimmomnfakaaDoor.X
theorem let_free {c : UInt8} (hc : c = 32 ∨ c = 10) {l : List UInt8} (h : l.all letB = true) : c ∉ l := fun hm => by
  have := List.all_eq_true.1 h c hm
  rcases hc with rfl | rfl <;> revert this <;> decide
theorem name_free {c : UInt8} (hc : c = 32 ∨ c = 10) {s : ByteArray} (h : nameB s = true) : c ∉ s.data.toList := by
  unfold nameB at h
  rw [Bool.and_eq_true] at h
  exact let_free hc h.1
theorem sym_free {c : UInt8} (hc : c = 32 ∨ c = 10) {s : ByteArray} (h : symB s = true) : c ∉ s.data.toList := fun hm => by
  by_cases h1 : s.size = 1
  · have hl : s.data.toList.length = 1 := by rw [Array.length_toList]; exact h1
    obtain ⟨b, hb⟩ := List.length_eq_one_iff.1 hl
    rw [hb, List.mem_singleton] at hm
    subst hm
    have e : s = ⟨#[c]⟩ := by apply ByteArray.ext; apply Array.ext'; rw [hb]
    rw [e] at h
    rcases hc with rfl | rfl <;> revert h <;> decide +kernel
  · unfold symB at h
    rw [if_neg h1, Bool.and_eq_true] at h
    have hr := h.1
    unfold restLet at hr
    rw [List.drop_zero] at hr
    exact let_free hc hr hm
theorem itoa_free {c : UInt8} (hc : c = 32 ∨ c = 10) {n : Int} (h0 : 0 ≤ n) (h1 : n ≤ 101) : c ∉ (itoaB n).data.toList := by
  have := tens_all (P := fun n => decide ((32 : UInt8) ∉ (itoaB n).data.toList ∧ (10 : UInt8) ∉ (itoaB n).data.toList)) (by decide +kernel) h0 h1
  rw [decide_eq_true_eq] at this
  rcases hc with rfl | rfl
  · exact this.1
  · exact this.2
theorem num_itoa {n : Int} (h0 : 0 ≤ n) (h1 : n ≤ 101) : numG (itoaB n) = n := by
  have := tens_all (P := fun n => decide (numG (itoaB n) = n)) (by decide +kernel) h0 h1
  simpa using this
theorem words_free {c : UInt8} (hc : c = 32 ∨ c = 10) {x : S38} (h : prR x = true) : ∀ p ∈ wordsR x, c ∉ p.data.toList := by
  obtain ⟨hk, h3, h4, h5, hn, hd⟩ := prB_parts h
  have f3 := itoa_free hc (n := x.f3) (by omega) (by omega)
  have f4 := itoa_free hc h4.1 h4.2
  have f5 := itoa_free hc h5.1 h5.2
  have f2 := name_free hc hn
  intro p hp
  unfold wordsR at hp
  unfold kindB at hd
  rcases hk with e | e | e | e
  · rw [if_pos e] at hp hd
    have f1 := sym_free hc hd
    simp only [List.mem_cons, List.mem_nil_iff, or_false] at hp
    rcases hp with rfl | rfl | rfl | rfl | rfl | rfl <;> first | assumption | (rcases hc with rfl | rfl <;> decide)
  · rw [if_neg (by omega), if_pos e] at hp hd
    rw [Bool.and_eq_true] at hd
    have f1 := sym_free hc hd.1
    simp only [List.mem_cons, List.mem_nil_iff, or_false] at hp
    rcases hp with rfl | rfl | rfl | rfl | rfl <;> first | assumption | (rcases hc with rfl | rfl <;> decide)
  · rw [if_neg (by omega), if_neg (by omega), if_pos e] at hp hd
    rw [Bool.and_eq_true] at hd
    have f1 := sym_free hc hd.1
    simp only [List.mem_cons, List.mem_nil_iff, or_false] at hp
    rcases hp with rfl | rfl | rfl | rfl | rfl <;> first | assumption | (rcases hc with rfl | rfl <;> decide)
  · rw [if_neg (by omega), if_neg (by omega), if_neg (by omega)] at hp
    simp only [List.mem_cons, List.mem_nil_iff, or_false] at hp
    rcases hp with rfl | rfl | rfl | rfl | rfl <;> first | assumption | (rcases hc with rfl | rfl <;> decide)
theorem words_ne (x : S38) : wordsR x ≠ [] := by
  unfold wordsR
  split
  · simp
  · split
    · simp
    · split <;> simp
theorem lineB_list (x : S38) : (lineB x).data.toList = Lib.join ((wordsR x).map (·.data.toList)) [32] := by
  show (joinB (wordsR x) sp).toArray.toList = _
  rw [List.toList_toArray]
  rfl
theorem parts_line {x : S38} (h : prR x = true) : partsS 32 (lineB x) = wordsR x := by
  unfold partsS
  rw [lineB_list, Spl.splitL_join _ (by simpa using words_ne x) (fun p hp => by
    obtain ⟨q, hq, rfl⟩ := List.mem_map.1 hp
    exact words_free (.inl rfl) h q hq), List.map_map]
  have : ((fun p : List UInt8 => (⟨p.toArray⟩ : ByteArray)) ∘ fun x : ByteArray => x.data.toList) = id := by
    funext x; simp
  rw [this, List.map_id]
theorem join_free {c d : UInt8} (hcd : c ≠ d) : ∀ (ps : List (List UInt8)), (∀ p ∈ ps, c ∉ p) → c ∉ Lib.join ps [d]
  | [], _ => by simp [Lib.join_nil]
  | p :: r, h => by
    rw [Lib.join_cons]
    intro hm
    rcases List.mem_append.1 hm with hm | hm
    · exact h p (by simp) hm
    · unfold Lib.joinTail at hm
      obtain ⟨q, hq, hm⟩ := List.mem_flatten.1 hm
      obtain ⟨u, hu, rfl⟩ := List.mem_map.1 hq
      rcases List.mem_append.1 hm with hm | hm
      · rw [List.mem_singleton] at hm; exact hcd hm
      · exact h u (by simp [hu]) hm
theorem line_free {x : S38} (h : prR x = true) : (10 : UInt8) ∉ (lineB x).data.toList := by
  rw [lineB_list]
  exact join_free (by decide) _ (fun p hp => by
    obtain ⟨q, hq, rfl⟩ := List.mem_map.1 hp
    exact words_free (.inr rfl) h q hq)
theorem size0 {s : ByteArray} (h : s.size = 0) : (⟨#[]⟩ : ByteArray) = s := by
  apply ByteArray.ext; apply Array.ext'
  have : s.data.toList.length = 0 := by rw [Array.length_toList]; exact h
  rw [List.length_eq_zero_iff.1 this]
theorem readX_line {x : S38} (h : prR x = true) : kindIdx (nthS (wordsR x) 0) = x.f0 - 1 ∧ readX (x.f0 - 1).toNat (wordsR x) = x := by
  obtain ⟨hk, h3, h4, h5, hn, hd⟩ := prB_parts h
  have n3 := num_itoa (n := x.f3) (by omega) (by omega)
  have n4 := num_itoa h4.1 h4.2
  have n5 := num_itoa h5.1 h5.2
  obtain ⟨f0, f1, f2, f3, f4, f5⟩ := x
  simp only at hk n3 n4 n5 hd
  unfold wordsR
  unfold kindB at hd
  rcases hk with rfl | rfl | rfl | rfl
  · rw [if_pos rfl]
    refine ⟨(show kindIdx ⟨#[105, 110, 102, 105, 120]⟩ = (1 : Int) - 1 by decide +kernel), ?_⟩
    show (⟨1, f1, f2, numG (itoaB f3), numG (itoaB f4), numG (itoaB f5)⟩ : S38) = _
    rw [n3, n4, n5]
  · rw [if_neg (show ¬ (2 : Int) = 1 by decide), if_pos rfl]
    rw [if_neg (by decide), if_pos rfl, Bool.and_eq_true, decide_eq_true_eq] at hd
    refine ⟨(show kindIdx ⟨#[112, 114, 101, 102, 105, 120]⟩ = (2 : Int) - 1 by decide +kernel), ?_⟩
    show (⟨2, f1, f2, numG (itoaB f3), 0, numG (itoaB f5)⟩ : S38) = _
    rw [n3, n5, hd.2]
  · rw [if_neg (show ¬ (3 : Int) = 1 by decide), if_neg (show ¬ (3 : Int) = 2 by decide), if_pos rfl]
    rw [if_neg (by decide), if_neg (by decide), if_pos rfl, Bool.and_eq_true, decide_eq_true_eq] at hd
    refine ⟨(show kindIdx ⟨#[112, 111, 115, 116, 102, 105, 120]⟩ = (3 : Int) - 1 by decide +kernel), ?_⟩
    show (⟨3, f1, f2, numG (itoaB f3), numG (itoaB f4), 0⟩ : S38) = _
    rw [n3, n4, hd.2]
  · rw [if_neg (show ¬ (4 : Int) = 1 by decide), if_neg (show ¬ (4 : Int) = 2 by decide), if_neg (show ¬ (4 : Int) = 3 by decide)]
    rw [if_neg (by decide), if_neg (by decide), if_neg (by decide), if_pos rfl, decide_eq_true_eq] at hd
    refine ⟨(show kindIdx ⟨#[106, 117, 120, 116, 97, 112, 111, 115, 101]⟩ = (4 : Int) - 1 by decide +kernel), ?_⟩
    show (⟨4, ⟨#[]⟩, f2, numG (itoaB f3), numG (itoaB f4), numG (itoaB f5)⟩ : S38) = _
    rw [n3, n4, n5, size0 hd]
theorem readR_line {x : S38} (h : prR x = true) : readR (lineB x) = (x, true) := by
  have hk := (prB_parts h).1
  obtain ⟨k1, k2⟩ := readX_line h
  unfold readR
  rw [parts_line h, k1, if_neg (by omega), k2, h]
  simp
theorem textB_list (l : List S38) : (textB l).data.toList = textL l := by show (textL l).toArray.toList = _; rw [List.toList_toArray]
theorem cut_text {x : S38} (r : List S38) (h : prR x = true) : Lib.cut (textB (x :: r)).data.toList [10] = ((lineB x).data.toList, textL r, true) := by
  rw [textB_list]
  exact Spl.cut_some (line_free h)
theorem lp_text : ∀ (r acc : List S38) (k : Nat), okR 100 r → (textL r).length ≤ k → lpF readR k (textB r) acc = .ok (acc ++ r)
  | [], acc, k, _, _ => by rw [List.append_nil]; exact lpF_done readR k acc (by rw [ByteArray.toList_eq]; rfl)
  | x :: r, acc, 0, _, hk => by simp [textL] at hk
  | x :: r, acc, k + 1, h, hk => by
    have hp := (h x (by simp)).1
    have hc := cut_text r hp
    have e0 : (textB (x :: r)).toList.isEmpty = false := by
      rw [ByteArray.toList_eq, textB_list, textL]
      cases (lineB x).data.toList <;> rfl
    have e1 : lineC (textB (x :: r)) = lineB x := by unfold lineC; rw [hc]
    have e2 : restC (textB (x :: r)) = textB r := by unfold restC; rw [hc]; rfl
    have e3 : foundC (textB (x :: r)) = true := by unfold foundC; rw [hc]
    rw [lpF, if_neg (by rw [e0]; decide), e1, e2, e3, readR_line hp, if_pos rfl, if_pos rfl]
    have hl : (textL r).length ≤ k := by
      simp only [textL, List.length_append, List.length_cons] at hk
      omega
    rw [lp_text r (acc ++ [x]) k (fun y hy => h y (by simp [hy])) hl]
    simp
theorem clAt_is (l : List S38) (i : Nat) (hi : i ≤ l.length) : clAt l i = clRest l (rd_T38 l (i : Int)) i 0 := by
  have h := impl_any l (rd_T38 l (i : Int)) i hi
  unfold api_Rule.f at h
  exact Option.some.inj h
theorem ch_none (l : List S38) (h64 : l.length ≤ 64) : ∀ n i, l.length = i + n → vRest l n i = true → chF l n i = (0, 0)
  | 0, _, _, _ => rfl
  | n + 1, i, hi, hv => by
    rw [vRest, Bool.and_eq_true, Bool.and_eq_true] at hv
    have hc : clAt l i = false := by
      rw [clAt_is l i (by omega)]
      simpa using hv.1.2
    rw [chF, if_neg (by rw [hc]; decide), if_neg (by omega)]
    exact ch_none l h64 n (i + 1) (by omega) hv.2
theorem parse_text (l : List S38) (h64 : l.length ≤ 64) (hs : smallR 100 l) (hv : vRest l l.length 0 = true) : parseG readR (textB l) = (l, 0, 0) := by
  have h := lp_text l [] (textB l).size (okR_of hs hv) (by rw [textB_size]; exact Nat.le_refl _)
  rw [List.nil_append] at h
  exact parseG_ok h (ch_none l h64 l.length 0 (by omega) hv)
end Go.Proofs.YtghdimmomnfakaaDoor.Pure

set_option linter.unusedVariables false
set_option linter.unusedSimpArgs false
namespace Go.Proofs.YtghdimmomnfakaaDoor.Gv
open Go.RowKit Go.Proofs.YtghdimmomnfakaaDoorW.PrintWords Go.Proofs.YtghdimmomnfakaaDoorW.PrintLast Go.Proofs.YtghdimmomnfakaaDoorW.PrintMore
open Go.Proofs.YtghdimmomnfakaaDoor.X (S38 k38 rd_T38 at_T38 z38)
open Go.Proofs.YtghdimmomnfakaaDoor.Pure
theorem awakeG (w : World) (hG : Gw w) : Calls Tryd.prog 8 #[] w fun e w' => e = .returned (.bool true) ∧ Below w.heap.size w w' :=
  Go.Proofs.YtghdimmomnfakaaDoor.X.vinculumlaw49_awake.calls 20 true w hG awake_at
def shortB (l : List S38) : Bool := (Go.Proofs.YtghdimmomnfakaaDoor.X.vinculumlaw49_short.f (l.length + 1) l).getD false
theorem shortB_is (l : List S38) (hl : l.length ≤ 9223372036854775807) : Go.Proofs.YtghdimmomnfakaaDoor.X.vinculumlaw49_short.f (l.length + 1) l = some (shortB l) := by
  obtain ⟨b, hb⟩ := short l hl (l.length + 1) (Nat.lt_succ_self _)
  unfold shortB; rw [hb]; rfl
theorem shortG (A0 : Option Addr) (c0 : Nat) (l : List S38) (w : World) (hr : Kd.C k38 w A0 l.length l) (hc : l.length ≤ c0) (hl : l.length ≤ 9223372036854775807) :
    Calls Tryd.prog 9 #[.slice A0 l.length c0] w fun e w' => e = .returned (.bool (shortB l)) ∧ Below w.heap.size w w' :=
  (Go.Proofs.YtghdimmomnfakaaDoor.X.vinculumlaw49_short.calls _ A0 c0 l _ w hr hc (shortB_is l hl)).mono (by
    rintro e w' ⟨rfl, m, rfl⟩
    exact ⟨rfl, below_drewN' m⟩)
theorem short_smalls {l : List S38} (hl : l.length ≤ 9223372036854775807) (h : shortB l = true) : l.length ≤ 80 ∧ smallR 100 l := by
  have hs := shortB_is l hl
  rw [h] at hs
  obtain ⟨h80, hsm⟩ := short_says l hl (l.length + 1) 0 (by omega) hs
  exact ⟨h80, fun j hj => hsm j (by omega) hj⟩
/-- what Text answers -/
def textR (l : List S38) : ByteArray := if (vRest l l.length 0 && decide (l.length ≤ 64)) = true then textB l else ⟨#[]⟩
theorem textG (A0 : Option Addr) (c0 : Nat) (l : List S38) (w : World) (hG : Gw w) (hr : Kd.C k38 w A0 l.length l) (hc : l.length ≤ c0) (hl : l.length ≤ 9223372036854775807) (hs : smallR 100 l) :
    Calls Tryd.prog 11 #[.slice A0 l.length c0] w fun e w' => e = .returned (.string (textR l)) ∧ Below w.heap.size w w' := by
  refine grammar_Text.calls (l.length + 200) A0 c0 l (textR l) w hG hr hc ?_
  unfold textR
  cases hv : (vRest l l.length 0 && decide (l.length ≤ 64)) with
  | false =>
    rw [if_neg (by decide)]
    exact text_no 100 (by omega) l hl hs (by rw [Bool.and_comm]; exact hv) _ (by omega)
  | true =>
    rw [if_pos rfl]
    rw [Bool.and_eq_true, decide_eq_true_eq] at hv
    exact text_f 100 (by omega) (by omega) l hv.2 hs hv.1 _ (by omega)
theorem same_l0 (l : List S38) (hl : l.length ≤ 9223372036854775807) : ∀ n i k, l.length = i + n → n < k → Go.Proofs.YtghdimmomnfakaaDoor.U.vinculumref49_Same.l0 k l l (i : Int) = some true
  | n, i, 0, _, hk => by omega
  | n, i, k + 1, hi, hk => by
    rw [Go.Proofs.YtghdimmomnfakaaDoor.U.vinculumref49_Same.l0]
    by_cases h : (i : Int) < (l.length : Int)
    · obtain ⟨m, rfl⟩ : ∃ m, n = m + 1 := ⟨n - 1, by omega⟩
      rw [if_pos h, if_pos (by omega), if_pos h, if_neg (by simp), w64 (x := (i : Int) + 1) (by omega) (by omega)]
      exact same_l0 l hl m (i + 1) k (by omega) (by omega)
    · rw [if_neg h]
theorem sameG (A0 : Option Addr) (c0 : Nat) (A1 : Option Addr) (c1 : Nat) (l : List S38) (w : World) (h0 : Kd.C k38 w A0 l.length l) (hc0 : l.length ≤ c0) (h1 : Kd.C k38 w A1 l.length l) (hc1 : l.length ≤ c1) (hl : l.length ≤ 9223372036854775807) :
    Calls Tryd.prog 21 #[.slice A0 l.length c0, .slice A1 l.length c1] w fun e w' => e = .returned (.bool true) ∧ Below w.heap.size w w' :=
  (Go.Proofs.YtghdimmomnfakaaDoor.U.vinculumref49_Same.calls (l.length + 1) A0 c0 l A1 c1 l true w h0 hc0 h1 hc1 (by
    unfold Go.Proofs.YtghdimmomnfakaaDoor.U.vinculumref49_Same.f
    rw [if_pos rfl]
    exact same_l0 l hl l.length 0 _ (by omega) (Nat.lt_succ_self _))).mono (by
    rintro e w' ⟨rfl, m, rfl⟩
    exact ⟨rfl, below_drewN' m⟩)
set_option maxHeartbeats 4000000 in
set_option maxRecDepth 1000000 in
theorem GrammarText.calls (A0 : Option Addr) (c0 : Nat) (l : List S38) (w : World) (hG : Ge w) (hr : Kd.C k38 w A0 l.length l) (hc : l.length ≤ c0) :
    Calls Tryd.prog 6 #[.slice A0 l.length c0] w fun e w' => e = .returned (.bool true) ∧ Below w.heap.size w w' := by
  have hl : l.length ≤ 9223372036854775807 := by
    have := hr.2.1
    first | exact this | (unfold maxLen at this; omega)
  have HG := Aside0.mk hG
  have HR := Aside0.mk hr
  have AW := Aside0.mk (awakeG w hG.g)
  have SH := Aside0.mk (fun W hW => shortG A0 c0 l W hW hc hl)
  have RV := Aside0.mk (fun W hW hs => refv A0 c0 l W hW hc hl hs)
  have TX := Aside0.mk (fun W hW hC hs => textG A0 c0 l W hW hC hc hl hs)
  have SS := Aside0.mk (short_smalls hl)
  have TN := Aside0.mk (fun W hC hs hv => ref_text_no A0 c0 l W hC hc hl hs hv)
  have TY := Aside0.mk (fun W hC hs hv h64 => ref_text A0 c0 l W hC hc hs hv h64)
  have SM := Aside0.mk (fun W h0 A1 c1 h1 hc1 => sameG A0 c0 A1 c1 l W h0 hc h1 hc1 hl)
  have PT := Aside0.mk (parse_text l)
  have TR := Aside0.mk (show ∀ b, (vRest l l.length 0 && decide (l.length ≤ 64)) = b → textR l = if b = true then textB l else ⟨#[]⟩ from fun b hb => by unfold textR; rw [hb])
  have VV := Aside0.mk (show (vRest l l.length 0 && decide (l.length ≤ 64)) = true → vRest l l.length 0 = true ∧ l.length ≤ 64 from fun h => by rw [Bool.and_eq_true, decide_eq_true_eq] at h; exact h)
  generalize (vRest l l.length 0 && decide (l.length ≤ 64)) = vb at *
  generalize hvr : vRest l l.length 0 = vr at *
  generalize hn : l.length = n at *
  have HN := Aside0.mk hn
  have TS := Aside0.mk (fun (h : n ≤ 64) (hs : smallR 100 l) (hv : vr = true) => (show (textB l).size ≤ 40000 by
    have := textB_take (okR_of hs (by rw [hn, hvr]; exact hv)) (by omega) n
    rwa [← hn, List.take_length] at this))
  clear hn hr hG hvr
  go_enter Tryd.func6, Tryd.ntmps6
  go_wp2_with fail
  refine AW.out.mono ?_
  rintro e w1 ⟨rfl, hb⟩
  have B1 := Aside0.mk hb
  clear hb AW
  go_wp2_with fail
  refine (SH.out _ (Kd.C_below HR.out B1.out)).mono ?_
  rintro e w2 ⟨rfl, hb⟩
  have B2 := Aside0.mk (keepB hb B1.out)
  clear hb SH B1
  cases hsb : shortB l with
  | false =>
    go_wp2
    go_ret
    exact ⟨rfl, B2.out⟩
  | true =>
    have hss := SS.out hsb
    have HSM := Aside0.mk hss.2
    clear hss hsb SS
    go_wp2_with fail
    refine (TX.out _ (Gw.below HG.out.g B2.out) (Kd.C_below HR.out B2.out) HSM.out).mono ?_
    rintro e w3 ⟨rfl, hb⟩
    have B3 := Aside0.mk (keepB hb B2.out)
    clear hb B2 TX
    cases vb with
    | false =>
      have e0 := TR.out false rfl
      rw [if_neg (by decide)] at e0
      rw [e0]
      have PS := Aside0.mk (grammar_Parse.any ⟨#[]⟩ w3 (Ge.below HG.out B3.out) (by decide))
      clear e0 TR
      go_wp2_with fail
      refine PS.out.mono ?_
      rintro e w4 ⟨v, rfl, ho, hb⟩
      have B4 := Aside0.mk (keepB hb B3.out)
      clear hb ho B3 PS
      go_wp2_with fail
      refine (RV.out _ (Kd.C_below HR.out B4.out) HSM.out).mono ?_
      rintro e w5 ⟨rfl, hb⟩
      have B5 := Aside0.mk (keepB hb B4.out)
      clear hb B4 RV
      go_wp2
      go_ret
      exact ⟨by first | rfl | simp, B5.out⟩
    | true =>
      obtain ⟨hv1, hv2⟩ := VV.out rfl
      have e0 := TR.out true rfl
      rw [if_pos rfl] at e0
      rw [e0]
      have hts := TS.out hv2 HSM.out hv1
      have PS := Aside0.mk (grammar_Parse.any (textB l) w3 (Ge.below HG.out B3.out) (by omega))
      have EP := Aside0.mk (PT.out hv2 HSM.out hv1)
      have TYA := Aside0.mk (fun W hC => TY.out W hC HSM.out hv1 hv2)
      clear e0 TR TS TY hv1 hv2 VV PT
      go_wp2_with fail
      refine PS.out.mono ?_
      rintro e w4 ⟨v, rfl, ho, hb⟩
      have B4 := Aside0.mk (keepB hb B3.out)
      rw [EP.out] at ho
      obtain ⟨A1, c1, ev⟩ := Kd.R_slice ho
      subst ev
      have hr' := Kd.R_reads' ho
      have OC := Aside0.mk (show n ≤ c1 ∧ Kd.C k38 w4 A1 n l from by
        have := HN.out
        have h := hr'.2.2
        have h2 := hr'.2.1
        rw [this] at h h2
        exact ⟨h2, h⟩)
      clear hb ho B3 PS hr'
      rw [EP.out, HN.out]
      go_wp2_with fail
      refine (RV.out _ (Kd.C_below HR.out B4.out) HSM.out).mono ?_
      rintro e w5 ⟨rfl, hb⟩
      have B5 := Aside0.mk (keepB hb B4.out)
      have OC5 := Aside0.mk (Kd.C_below OC.out.2 hb)
      clear hb B4 RV
      go_wp2_with fail
      refine (TYA.out _ (Kd.C_below HR.out B5.out)).mono ?_
      rintro e w6 ⟨rfl, hb⟩
      have B6 := Aside0.mk (keepB hb B5.out)
      have OC6 := Aside0.mk (Kd.C_below OC5.out hb)
      clear hb B5 OC5 TYA
      go_wp2_with fail
      refine (SM.out _ (Kd.C_below HR.out B6.out) _ _ OC6.out OC.out.1).mono ?_
      rintro e w7 ⟨rfl, hb⟩
      have B7 := Aside0.mk (keepB hb B6.out)
      clear hb B6 OC6 SM
      go_wp2
      go_ret
      exact ⟨by first | rfl | simp, B7.out⟩
end Go.Proofs.YtghdimmomnfakaaDoor.Gv

set_option linter.unusedVariables false
set_option linter.unusedSimpArgs false
namespace Go.Proofs.YtghdimmomnfakaaDoor.Gv
open Go.RowKit Go.Proofs.YtghdimmomnfakaaDoorW.PrintWords Go.Proofs.YtghdimmomnfakaaDoorW.PrintLast Go.Proofs.YtghdimmomnfakaaDoorW.PrintMore
open Go.Proofs.YtghdimmomnfakaaDoor.X (S38 k38 rd_T38 at_T38 z38 k38_mkM k38_openM)
open Go.Proofs.YtghdimmomnfakaaDoor.Pure
def stdR : List S38 := [(⟨1, ⟨#[44]⟩, ⟨#[112, 97, 105, 114]⟩, 10, 10, 11⟩ : S38),
  (⟨1, ⟨#[61]⟩, ⟨#[101, 113]⟩, 20, 21, 21⟩ : S38),
  (⟨1, ⟨#[60]⟩, ⟨#[108, 116]⟩, 20, 21, 21⟩ : S38),
  (⟨1, ⟨#[62]⟩, ⟨#[103, 116]⟩, 20, 21, 21⟩ : S38),
  (⟨1, ⟨#[108, 101]⟩, ⟨#[108, 101]⟩, 20, 21, 21⟩ : S38),
  (⟨1, ⟨#[103, 101]⟩, ⟨#[103, 101]⟩, 20, 21, 21⟩ : S38),
  (⟨1, ⟨#[110, 101]⟩, ⟨#[110, 101]⟩, 20, 21, 21⟩ : S38),
  (⟨1, ⟨#[105, 110]⟩, ⟨#[105, 110]⟩, 20, 21, 21⟩ : S38),
  (⟨1, ⟨#[116, 111]⟩, ⟨#[116, 111]⟩, 30, 31, 31⟩ : S38),
  (⟨1, ⟨#[43]⟩, ⟨#[112, 108, 117, 115]⟩, 40, 40, 41⟩ : S38),
  (⟨1, ⟨#[45]⟩, ⟨#[109, 105, 110, 117, 115]⟩, 40, 40, 41⟩ : S38),
  (⟨1, ⟨#[112, 109]⟩, ⟨#[112, 108, 117, 115, 109, 105, 110, 117, 115]⟩, 40, 40, 41⟩ : S38),
  (⟨1, ⟨#[42]⟩, ⟨#[116, 105, 109, 101, 115]⟩, 50, 50, 51⟩ : S38),
  (⟨1, ⟨#[99, 100, 111, 116]⟩, ⟨#[99, 100, 111, 116]⟩, 50, 50, 51⟩ : S38),
  (⟨1, ⟨#[116, 105, 109, 101, 115]⟩, ⟨#[99, 114, 111, 115, 115]⟩, 50, 50, 51⟩ : S38),
  (⟨1, ⟨#[47]⟩, ⟨#[111, 118, 101, 114]⟩, 50, 50, 51⟩ : S38),
  (⟨2, ⟨#[45]⟩, ⟨#[110, 101, 103]⟩, 45, 0, 50⟩ : S38),
  (⟨2, ⟨#[43]⟩, ⟨#[112, 111, 115]⟩, 45, 0, 50⟩ : S38),
  (⟨2, ⟨#[115, 117, 109]⟩, ⟨#[115, 117, 109]⟩, 45, 0, 50⟩ : S38),
  (⟨2, ⟨#[112, 114, 111, 100]⟩, ⟨#[112, 114, 111, 100]⟩, 45, 0, 50⟩ : S38),
  (⟨2, ⟨#[115, 105, 110]⟩, ⟨#[115, 105, 110]⟩, 61, 0, 61⟩ : S38),
  (⟨2, ⟨#[99, 111, 115]⟩, ⟨#[99, 111, 115]⟩, 61, 0, 61⟩ : S38),
  (⟨2, ⟨#[116, 97, 110]⟩, ⟨#[116, 97, 110]⟩, 61, 0, 61⟩ : S38),
  (⟨2, ⟨#[108, 111, 103]⟩, ⟨#[108, 111, 103]⟩, 61, 0, 61⟩ : S38),
  (⟨2, ⟨#[108, 110]⟩, ⟨#[108, 110]⟩, 61, 0, 61⟩ : S38),
  (⟨2, ⟨#[101, 120, 112]⟩, ⟨#[101, 120, 112]⟩, 61, 0, 61⟩ : S38),
  (⟨4, ⟨#[]⟩, ⟨#[112, 114, 111, 100, 117, 99, 116]⟩, 60, 60, 61⟩ : S38),
  (⟨3, ⟨#[33]⟩, ⟨#[102, 97, 99, 116, 111, 114, 105, 97, 108]⟩, 70, 70, 0⟩ : S38),
  (⟨3, ⟨#[39]⟩, ⟨#[112, 114, 105, 109, 101]⟩, 80, 80, 0⟩ : S38)]
theorem std_valid : vRest stdR stdR.length 0 = true := by decide +kernel
theorem std_small : smallR 100 stdR := by
  have h : ((List.range 29).all fun j => decide ((rd_T38 stdR (j : Int)).f1.size ≤ 100 ∧ (rd_T38 stdR (j : Int)).f2.size ≤ 100)) = true := by decide +kernel
  intro j hj
  have := List.all_eq_true.1 h j (List.mem_range.2 hj)
  rwa [decide_eq_true_eq] at this
theorem std_parse : ∀ X : ByteArray, X = textB stdR → parseG readR X = (stdR, 0, 0) := by
  rintro _ rfl
  exact parse_text stdR (by decide) std_small std_valid
set_option maxHeartbeats 4000000 in
set_option maxRecDepth 1000000 in
theorem default_any (w : World) (hG : Ge w) :
    Calls Tryd.prog 22 #[] w fun e w' => ∃ v, e = .returned v ∧ OwnR w' w.heap.size v stdR ∧ Below w.heap.size w w' := by
  have PA := Aside0.mk (fun (X : ByteArray) (hX : X = textB stdR) => (show Calls Tryd.prog 19 #[.string X] w fun e w' => ∃ v, e = .returned (.tuple #[v, .int .i64 0, .int .i64 0]) ∧ OwnR w' w.heap.size v stdR ∧ Below w.heap.size w w' by
    have h := grammar_Parse.any X w hG (by subst hX; decide +kernel)
    rw [std_parse X hX] at h
    exact h))
  clear hG
  go_enter Tryd.func22, Tryd.ntmps22
  go_wp2_with fail
  refine (PA.out _ ?hX).mono ?_
  case hX => decide +kernel
  rintro e w1 ⟨v, rfl, ho, hb⟩
  have HO := Aside0.mk ho
  have HB := Aside0.mk hb
  clear ho hb
  go_wp2
  go_ret
  exact ⟨v, rfl, HO.out, HB.out⟩
end Go.Proofs.YtghdimmomnfakaaDoor.Gv

set_option linter.unusedVariables false
set_option linter.unusedSimpArgs false
namespace Go.Proofs.YtghdimmomnfakaaDoor.Gv
open Go.RowKit Go.Proofs.YtghdimmomnfakaaDoorW.PrintWords Go.Proofs.YtghdimmomnfakaaDoorW.PrintLast Go.Proofs.YtghdimmomnfakaaDoorW.PrintMore
open Go.Proofs.YtghdimmomnfakaaDoor.X (S38 k38 rd_T38 at_T38 z38 k38_mkM k38_open)
open Go.Proofs.YtghdimmomnfakaaDoor.Pure
theorem ownR_new {w : World} {base : Nat} (hb : base ≤ w.heap.size) (l : List S38) (inner : List Value) (hrep : ∀ (W : World) (b : Nat) (ok : Nat → Prop), Reps (k38.M W b ok) k38.sz l inner) (hm : l.length ≤ 1000) :
    OwnR (w.alloc (.cells inner.toArray 38)) base (.slice (some ⟨w.heap.size, 0, none⟩) l.length l.length) l := by
  refine ⟨fun k hk => trivial, inner, ?_, hrep _ _ _⟩
  have h2 := World.ownsRow_lit (base := base) (e := 38) (size := k38.sz) w inner.toArray l.length hb (by simp only [maxLen]; omega) (by simpa using (hrep w 0 (fun _ => True)).1)
  simpa using h2
theorem KM (W : World) (base : Nat) : ∀ (x : S38) (cs : List Value), k38.K W x cs → k38.M W base (fun _ => False) x cs := fun x cs h => by
  rw [Go.Proofs.YtghdimmomnfakaaDoor.X.k38_open h]; exact k38_mkM _ _ _ _
set_option maxHeartbeats 1000000 in
set_option maxRecDepth 100000 in
theorem rule_any (x : S38) (w : World) : Calls Tryd.prog 42 #[.int .i64 x.f0, .string x.f1, .string x.f2, .int .i64 x.f3, .int .i64 x.f4, .int .i64 x.f5] w fun e w' => e = .returned (.agg (ruleC x)) ∧ Below w.heap.size w w' := by
  go_enter Tryd.func42, Tryd.ntmps42
  go_wp2
  exact bodyPost_ret (results_cell_row rfl _ _ w.heap.size 38 (ruleC x) (0, 0) _ rfl (blk_new _ _) Tryd.underlying38 rfl (by kernel_rfl)) rfl ⟨rfl, (Below.refl _ _).alloc (Nat.le_refl _) _⟩
def pairsA : Array Value := #[.string ⟨#[61]⟩, .string ⟨#[101, 113]⟩, .string ⟨#[60]⟩, .string ⟨#[108, 116]⟩, .string ⟨#[62]⟩, .string ⟨#[103, 116]⟩, .string ⟨#[108, 101]⟩, .string ⟨#[108, 101]⟩, .string ⟨#[103, 101]⟩, .string ⟨#[103, 101]⟩, .string ⟨#[110, 101]⟩, .string ⟨#[110, 101]⟩, .string ⟨#[105, 110]⟩, .string ⟨#[105, 110]⟩]
def pairsB : Array Value := #[.string ⟨#[43]⟩, .string ⟨#[112, 108, 117, 115]⟩, .string ⟨#[45]⟩, .string ⟨#[109, 105, 110, 117, 115]⟩, .string ⟨#[112, 109]⟩, .string ⟨#[112, 108, 117, 115, 109, 105, 110, 117, 115]⟩]
def pairsD : Array Value := #[.string ⟨#[42]⟩, .string ⟨#[116, 105, 109, 101, 115]⟩, .string ⟨#[99, 100, 111, 116]⟩, .string ⟨#[99, 100, 111, 116]⟩, .string ⟨#[116, 105, 109, 101, 115]⟩, .string ⟨#[99, 114, 111, 115, 115]⟩, .string ⟨#[47]⟩, .string ⟨#[111, 118, 101, 114]⟩]
def namesA : Array Value := #[.string ⟨#[115, 105, 110]⟩, .string ⟨#[99, 111, 115]⟩, .string ⟨#[116, 97, 110]⟩, .string ⟨#[108, 111, 103]⟩, .string ⟨#[108, 110]⟩, .string ⟨#[101, 120, 112]⟩]
abbrev rS (j : Nat) : S38 := rd_T38 stdR (j : Int)
theorem sBelow1 {W W1 : World} {a : Addr} {v : Value} (h : W.cell? a = some v) (hb : Below W.heap.size W W1) : W1.cell? a = some v := keepC hb h
theorem sBelow2 {W W1 : World} {a b : Addr} {v u : Value} (h : W.cell? a = some v ∧ W.cell? b = some u) (hb : Below W.heap.size W W1) : W1.cell? a = some v ∧ W1.cell? b = some u := ⟨keepC hb h.1, keepC hb h.2⟩
theorem take_rS {j : Nat} (h : j < 29) : stdR.take j ++ [rS j] = stdR.take (j + 1) := by
  have hl : j < stdR.length := h
  show _ ++ [rd_T38 stdR (j : Int)] = _
  unfold rd_T38
  rw [show ((j : Int)).toNat = j from rfl, List.getD_eq_getElem?_getD, List.getElem?_eq_getElem hl]
  exact (List.take_succ_eq_append_getElem hl).symm
theorem atA {W : World} {b : Nat} (h : W.heap[b]? = some (.cells pairsA 59 (0, 0))) {k : Nat} (hk : k < 7) : W.cell? ⟨b, k * 2, none⟩ = some (.string (rS (1 + k)).f1) ∧ W.cell? ⟨b, k * 2 + 1, none⟩ = some (.string (rS (1 + k)).f2) ∧ (rS (1 + k)).f0 = 1 ∧ (rS (1 + k)).f3 = 20 ∧ (rS (1 + k)).f4 = 21 ∧ (rS (1 + k)).f5 = 21 := by
  have : k = 0 ∨ k = 1 ∨ k = 2 ∨ k = 3 ∨ k = 4 ∨ k = 5 ∨ k = 6 := by omega
  rcases this with rfl | rfl | rfl | rfl | rfl | rfl | rfl <;> exact ⟨(blk_cell h _).trans rfl, (blk_cell h _).trans rfl, rfl, rfl, rfl, rfl⟩
theorem atB {W : World} {b : Nat} (h : W.heap[b]? = some (.cells pairsB 59 (0, 0))) {k : Nat} (hk : k < 3) : W.cell? ⟨b, k * 2, none⟩ = some (.string (rS (9 + k)).f1) ∧ W.cell? ⟨b, k * 2 + 1, none⟩ = some (.string (rS (9 + k)).f2) ∧ (rS (9 + k)).f0 = 1 ∧ (rS (9 + k)).f3 = 40 ∧ (rS (9 + k)).f4 = 40 ∧ (rS (9 + k)).f5 = 41 := by
  have : k = 0 ∨ k = 1 ∨ k = 2 := by omega
  rcases this with rfl | rfl | rfl <;> exact ⟨(blk_cell h _).trans rfl, (blk_cell h _).trans rfl, rfl, rfl, rfl, rfl⟩
theorem atD {W : World} {b : Nat} (h : W.heap[b]? = some (.cells pairsD 59 (0, 0))) {k : Nat} (hk : k < 4) : W.cell? ⟨b, k * 2, none⟩ = some (.string (rS (12 + k)).f1) ∧ W.cell? ⟨b, k * 2 + 1, none⟩ = some (.string (rS (12 + k)).f2) ∧ (rS (12 + k)).f0 = 1 ∧ (rS (12 + k)).f3 = 50 ∧ (rS (12 + k)).f4 = 50 ∧ (rS (12 + k)).f5 = 51 := by
  have : k = 0 ∨ k = 1 ∨ k = 2 ∨ k = 3 := by omega
  rcases this with rfl | rfl | rfl | rfl <;> exact ⟨(blk_cell h _).trans rfl, (blk_cell h _).trans rfl, rfl, rfl, rfl, rfl⟩
theorem atN {W : World} {b : Nat} (h : W.heap[b]? = some (.cells namesA 9 (0, 0))) {k : Nat} (hk : k < 6) : W.cell? ⟨b, k, none⟩ = some (.string (rS (20 + k)).f1) ∧ (rS (20 + k)).f2 = (rS (20 + k)).f1 ∧ (rS (20 + k)).f0 = 2 ∧ (rS (20 + k)).f3 = 61 ∧ (rS (20 + k)).f4 = 0 ∧ (rS (20 + k)).f5 = 61 := by
  have : k = 0 ∨ k = 1 ∨ k = 2 ∨ k = 3 ∨ k = 4 ∨ k = 5 := by omega
  rcases this with rfl | rfl | rfl | rfl | rfl | rfl <;> exact ⟨(blk_cell h _).trans rfl, rfl, rfl, rfl, rfl, rfl⟩
set_option maxHeartbeats 16000000 in
set_option maxRecDepth 1000000 in
theorem refdef_any (w : World) : Calls Tryd.prog 23 #[] w fun e w' => ∃ v, e = .returned v ∧ OwnR w' w.heap.size v stdR ∧ Below w.heap.size w w' := by
  go_enter Tryd.func23, Tryd.ntmps23
  go_wp2_with fail
  refine (rule_any (⟨1, ⟨#[44]⟩, ⟨#[112, 97, 105, 114]⟩, 10, 10, 11⟩ : S38) _).mono ?_
  rintro e w1 ⟨rfl, hb⟩
  have N1 := Aside0.mk (ownR_new hb.size [(⟨1, ⟨#[44]⟩, ⟨#[112, 97, 105, 114]⟩, 10, 10, 11⟩ : S38)] [.int .i64 1, .string ⟨#[44]⟩, .string ⟨#[112, 97, 105, 114]⟩, .int .i64 10, .int .i64 10, .int .i64 11] (fun W b ok => (Reps.none _ _).snoc (k38_mkM W b ok (⟨1, ⟨#[44]⟩, ⟨#[112, 97, 105, 114]⟩, 10, 10, 11⟩ : S38)) rfl) (by decide))
  have O0 := Aside0.mk (show OwnR _ _ _ (stdR.take (1 + 0)) from Kd.R_alloc N1.out (.cells pairsA 59))
  have p0 := blk_new (w1.alloc (.cells #[.int .i64 1, .string ⟨#[44]⟩, .string ⟨#[112, 97, 105, 114]⟩, .int .i64 10, .int .i64 10, .int .i64 11] 38)) (.cells pairsA 59)
  rw [show (w1.alloc (.cells #[.int .i64 1, .string ⟨#[44]⟩, .string ⟨#[112, 97, 105, 114]⟩, .int .i64 10, .int .i64 10, .int .i64 11] 38)).heap.size = w1.heap.size + 1 by simp] at p0
  have P0 := Aside0.mk p0
  have B0 := Aside0.mk (Below.alloc (Below.alloc hb hb.size (.cells #[.int .i64 1, .string ⟨#[44]⟩, .string ⟨#[112, 97, 105, 114]⟩, .int .i64 10, .int .i64 10, .int .i64 11] 38)) (Below.alloc hb hb.size _).size (.cells pairsA 59))
  clear hb N1 p0
  go_wp2
  go_loopw [1, 3] (fun s i wr => ∃ k : Nat, k ≤ 7 ∧ i = .int .i64 k ∧ Aside0 (OwnR wr w.heap.size s (stdR.take (1 + k))) ∧ Aside0 (wr.heap[w1.heap.size + 1]? = some (.cells pairsA 59 (0, 0))) ∧ Aside0 (Below w.heap.size w wr)) (fun _ i _ => 7 - (intOf i).toNat)
  case atStart => exact ⟨0, Nat.zero_le _, rfl, O0, P0, B0⟩
  case round =>
    clear O0 P0 B0
    obtain ⟨k, hk, rfl, HO, P, BW⟩ := hrel
    obtain ⟨A, c, ev⟩ := Kd.R_slice HO.out
    subst ev
    have hxl : (stdR.take (1 + k)).length ≤ 29 := by rw [List.length_take]; exact Nat.min_le_right _ _
    by_cases hlt : k < 7
    · obtain ⟨px, py, f0, f3, f4, f5⟩ := atA P.out hlt
      have ru := fun W => rule_any (rS (1 + k)) W
      rw [f0, f3, f4, f5] at ru
      have TK := Aside0.mk (take_rS (j := 1 + k) (by omega))
      clear f0 f3 f4 f5
      generalize stdR.take (1 + k) = xs at *
      generalize hy : rS (1 + k) = y at *
      have Y := Aside0.mk hy
      clear hy
      have RU := Aside0.mk ru
      clear ru
      have hk0 : (0 : Int) ≤ (k : Int) := by omega
      have hkm : (k : Int) < 7 := by omega
      go_wp2
      have SD := Aside0.mk (show wr.drew.cell? ⟨w1.heap.size + 1, k * 2, none⟩ = some (.string y.f1) ∧ wr.drew.cell? ⟨w1.heap.size + 1, k * 2 + 1, none⟩ = some (.string y.f2) from ⟨keepC (below_drew (Below.refl _ _)) px, keepC (below_drew (Below.refl _ _)) py⟩)
      have OD := Aside0.mk (Kd.R_drew HO.out)
      have BD := Aside0.mk (below_drew BW.out)
      have PD := Aside0.mk (blk_drew P.out)
      clear BW HO P
      go_region_held3 (fun wx => wx.cell? ⟨w1.heap.size + 1, k * 2, none⟩ = some (.string y.f1) ∧ wx.cell? ⟨w1.heap.size + 1, k * 2 + 1, none⟩ = some (.string y.f2)) (first | assumption | exact SD.out | exact S3.out | exact S4.out | exact S5.out) (first | (go_at_call 42; refine (RU.out _).mono ?_; rintro e w2 ⟨rfl, hb⟩; have O3 := Aside0.mk (Kd.R_below OD.out hb); have B3 := Aside0.mk (keepB hb BD.out); have P3 := Aside0.mk (blk_below PD.out hb); have S3 := Aside0.mk (sBelow2 SD.out hb); have S4 := Aside0.mk (sBelow2 S3.out (Below.alloc (Below.refl w2.heap.size w2) (Nat.le_refl _) (.cells #[.int .i64 y.f0, .string y.f1, .string y.f2, .int .i64 y.f3, .int .i64 y.f4, .int .i64 y.f5] 38))); clear hb) | (refine Kd.R_append_step k38 (w0 := w) w.heap.size (by rfl) (.tmp 26) (.tmp 38) 22 38 (.agg #[.int .i64 0, .string ⟨#[]⟩, .string ⟨#[]⟩, .int .i64 0, .int .i64 0, .int .i64 0]) 64 rfl Tryd.underlying22 info_rule rfl (by decide) (by omega) (.slice A xs.length c) xs y [.int .i64 y.f0, .string y.f1, .string y.f2, .int .i64 y.f3, .int .i64 y.f4, .int .i64 y.f5] (fun _ => True) (fun _ => False) rfl (by first | (go_simp; done) | (go_simp; rfl) | rfl) ?aP (fun _ hk => hk.elim) ?aF ?aO ?aB ?aS ?aL ?_; (case aP => exact k38_mkM _ _ _ _); (case aB => exact B3.out); (case aF => exact (fun _ _ => trivial)); (case aO => exact O3.out); (case aS => exact B3.out.size); (case aL => omega); intro v1 w18 ho hb hg hat; rw [TK.out] at ho; have HO2 := Aside0.mk ho; have BW2 := Aside0.mk hb; have P2 := Aside0.mk (blk_grown P3.out hg (Kd.R_ne O3.out P3.out (by decide))); have S5 := Aside0.mk (show w18.cell? ⟨w1.heap.size + 1, k * 2, none⟩ = some (.string y.f1) ∧ w18.cell? ⟨w1.heap.size + 1, k * 2 + 1, none⟩ = some (.string y.f2) from (by rw [← Y.out]; exact ⟨(atA P2.out hlt).1, (atA P2.out hlt).2.1⟩)); clear ho hb hg hat))
      go_wp2
      go_roundw
      case rel => first | exact ⟨k + 1, by omega, by go_num, HO2, P2, BW2⟩ | exact ⟨_, _, _, _, _, _, _, _, _, _, _, _, _, _, _, _, _, _, _, _, _, _, ⟨k + 1, by omega, by go_num, HO2, P2, BW2⟩, rfl⟩
      case measure => simp [intOf]; omega
    · have hkm : k = 7 := by omega
      subst hkm
      generalize hx : stdR.take (1 + 7) = xs at *
      have HX := Aside0.mk hx.symm
      clear P hx
      go_wp2_with fail
      refine (rule_any (⟨1, ⟨#[116, 111]⟩, ⟨#[116, 111]⟩, 30, 31, 31⟩ : S38) _).mono ?_
      rintro e w2 ⟨rfl, hb⟩
      have O3 := Aside0.mk (Kd.R_below HO.out hb)
      have B3 := Aside0.mk (keepB hb BW.out)
      clear hb HO BW
      go_wp2_with ((with_reducible refine gate_builtin (b := .append) (xs := #[.tmp 40, .tmp 42]) rfl ?_); at_builtin; refine Kd.R_append k38 (w0 := w) w.heap.size rfl (.tmp 40) (.tmp 42) 22 38 (.agg #[.int .i64 0, .string ⟨#[]⟩, .string ⟨#[]⟩, .int .i64 0, .int .i64 0, .int .i64 0]) 64 rfl Tryd.underlying22 info_rule rfl (by decide) (by omega) (.slice A xs.length c) xs (⟨1, ⟨#[116, 111]⟩, ⟨#[116, 111]⟩, 30, 31, 31⟩ : S38) [.int .i64 1, .string ⟨#[116, 111]⟩, .string ⟨#[116, 111]⟩, .int .i64 30, .int .i64 31, .int .i64 31] (fun _ => True) (fun _ => False) rfl (by first | (go_simp; done) | (go_simp; rfl)) ?aP (fun _ hk => hk.elim) ?aF ?aO ?aB ?aS ?aL ?_; (case aP => exact k38_mkM _ _ _ _); (case aB => exact B3.out); (case aF => exact (fun _ _ => trivial)); (case aO => exact O3.out); (case aS => exact B3.out.size); (case aL => omega); intro v1 w17 ho hb hg hat; rw [HX.out, show stdR.take (1 + 7) ++ [(⟨1, ⟨#[116, 111]⟩, ⟨#[116, 111]⟩, 30, 31, 31⟩ : S38)] = stdR.take (9 + 0) from rfl] at ho; have HO2 := Aside0.mk ho; have BW2 := Aside0.mk hb; clear ho hb hg hat)
      have O0 := Aside0.mk (show OwnR _ _ _ (stdR.take (9 + 0)) from Kd.R_alloc HO2.out (.cells pairsB 59))
      have P0 := Aside0.mk (blk_new w17 (.cells pairsB 59))
      have B0 := Aside0.mk (Below.alloc BW2.out BW2.out.size (.cells pairsB 59))
      clear HO2 BW2 O3 B3 HX
      go_loopw [1, 5] (fun s i wr => ∃ k : Nat, k ≤ 3 ∧ i = .int .i64 k ∧ Aside0 (OwnR wr w.heap.size s (stdR.take (9 + k))) ∧ Aside0 (wr.heap[w17.heap.size]? = some (.cells pairsB 59 (0, 0))) ∧ Aside0 (Below w.heap.size w wr)) (fun _ i _ => 3 - (intOf i).toNat)
      case atStart => exact ⟨0, Nat.zero_le _, rfl, O0, P0, B0⟩
      case round =>
        clear O0 P0 B0
        obtain ⟨k, hk, rfl, HO, P, BW⟩ := hrel
        obtain ⟨A, c, ev⟩ := Kd.R_slice HO.out
        subst ev
        have hxl : (stdR.take (9 + k)).length ≤ 29 := by rw [List.length_take]; exact Nat.min_le_right _ _
        by_cases hlt : k < 3
        · obtain ⟨px, py, f0, f3, f4, f5⟩ := atB P.out hlt
          have ru := fun W => rule_any (rS (9 + k)) W
          rw [f0, f3, f4, f5] at ru
          have TK := Aside0.mk (take_rS (j := 9 + k) (by omega))
          clear f0 f3 f4 f5
          generalize stdR.take (9 + k) = xs at *
          generalize hy : rS (9 + k) = y at *
          have Y := Aside0.mk hy
          clear hy
          have RU := Aside0.mk ru
          clear ru
          have hk0 : (0 : Int) ≤ (k : Int) := by omega
          have hkm : (k : Int) < 3 := by omega
          go_wp2
          have SD := Aside0.mk (show wr.drew.cell? ⟨w17.heap.size, k * 2, none⟩ = some (.string y.f1) ∧ wr.drew.cell? ⟨w17.heap.size, k * 2 + 1, none⟩ = some (.string y.f2) from ⟨keepC (below_drew (Below.refl _ _)) px, keepC (below_drew (Below.refl _ _)) py⟩)
          have OD := Aside0.mk (Kd.R_drew HO.out)
          have BD := Aside0.mk (below_drew BW.out)
          have PD := Aside0.mk (blk_drew P.out)
          clear BW HO P
          go_region_held3 (fun wx => wx.cell? ⟨w17.heap.size, k * 2, none⟩ = some (.string y.f1) ∧ wx.cell? ⟨w17.heap.size, k * 2 + 1, none⟩ = some (.string y.f2)) (first | assumption | exact SD.out | exact S3.out | exact S4.out | exact S5.out) (first | (go_at_call 42; refine (RU.out _).mono ?_; rintro e w2 ⟨rfl, hb⟩; have O3 := Aside0.mk (Kd.R_below OD.out hb); have B3 := Aside0.mk (keepB hb BD.out); have P3 := Aside0.mk (blk_below PD.out hb); have S3 := Aside0.mk (sBelow2 SD.out hb); have S4 := Aside0.mk (sBelow2 S3.out (Below.alloc (Below.refl w2.heap.size w2) (Nat.le_refl _) (.cells #[.int .i64 y.f0, .string y.f1, .string y.f2, .int .i64 y.f3, .int .i64 y.f4, .int .i64 y.f5] 38))); clear hb) | (refine Kd.R_append_step k38 (w0 := w) w.heap.size (by rfl) (.tmp 54) (.tmp 66) 22 38 (.agg #[.int .i64 0, .string ⟨#[]⟩, .string ⟨#[]⟩, .int .i64 0, .int .i64 0, .int .i64 0]) 64 rfl Tryd.underlying22 info_rule rfl (by decide) (by omega) (.slice A xs.length c) xs y [.int .i64 y.f0, .string y.f1, .string y.f2, .int .i64 y.f3, .int .i64 y.f4, .int .i64 y.f5] (fun _ => True) (fun _ => False) rfl (by first | (go_simp; done) | (go_simp; rfl) | rfl) ?aP (fun _ hk => hk.elim) ?aF ?aO ?aB ?aS ?aL ?_; (case aP => exact k38_mkM _ _ _ _); (case aB => exact B3.out); (case aF => exact (fun _ _ => trivial)); (case aO => exact O3.out); (case aS => exact B3.out.size); (case aL => omega); intro v1 w18 ho hb hg hat; rw [TK.out] at ho; have HO2 := Aside0.mk ho; have BW2 := Aside0.mk hb; have P2 := Aside0.mk (blk_grown P3.out hg (Kd.R_ne O3.out P3.out (by decide))); have S5 := Aside0.mk (show w18.cell? ⟨w17.heap.size, k * 2, none⟩ = some (.string y.f1) ∧ w18.cell? ⟨w17.heap.size, k * 2 + 1, none⟩ = some (.string y.f2) from (by rw [← Y.out]; exact ⟨(atB P2.out hlt).1, (atB P2.out hlt).2.1⟩)); clear ho hb hg hat))
          go_wp2
          go_roundw
          case rel => first | exact ⟨k + 1, by omega, by go_num, HO2, P2, BW2⟩ | exact ⟨_, _, _, _, _, _, _, _, _, _, _, _, _, _, _, _, _, _, _, _, _, _, ⟨k + 1, by omega, by go_num, HO2, P2, BW2⟩, rfl⟩
          case measure => simp [intOf]; omega
        · have hkm : k = 3 := by omega
          subst hkm
          generalize hx : stdR.take (9 + 3) = xs at *
          have HX := Aside0.mk hx.symm
          clear P hx
          obtain ⟨wq, hq⟩ : ∃ x : World, x = wr := ⟨_, rfl⟩
          subst hq
          have O0 := Aside0.mk (show OwnR _ _ _ (stdR.take (12 + 0)) by rw [show stdR.take (12 + 0) = xs from HX.out.symm]; exact Kd.R_alloc HO.out (.cells pairsD 59))
          have P0 := Aside0.mk (blk_new wq (.cells pairsD 59))
          have B0 := Aside0.mk (Below.alloc BW.out BW.out.size (.cells pairsD 59))
          clear HO BW HX
          go_wp2
          go_loopw [1, 7] (fun s i wr => ∃ k : Nat, k ≤ 4 ∧ i = .int .i64 k ∧ Aside0 (OwnR wr w.heap.size s (stdR.take (12 + k))) ∧ Aside0 (wr.heap[wq.heap.size]? = some (.cells pairsD 59 (0, 0))) ∧ Aside0 (Below w.heap.size w wr)) (fun _ i _ => 4 - (intOf i).toNat)
          case atStart => exact ⟨0, Nat.zero_le _, rfl, O0, P0, B0⟩
          case round =>
            clear O0 P0 B0
            obtain ⟨k, hk, rfl, HO, P, BW⟩ := hrel
            obtain ⟨A, c, ev⟩ := Kd.R_slice HO.out
            subst ev
            have hxl : (stdR.take (12 + k)).length ≤ 29 := by rw [List.length_take]; exact Nat.min_le_right _ _
            by_cases hlt : k < 4
            · obtain ⟨px, py, f0, f3, f4, f5⟩ := atD P.out hlt
              have ru := fun W => rule_any (rS (12 + k)) W
              rw [f0, f3, f4, f5] at ru
              have TK := Aside0.mk (take_rS (j := 12 + k) (by omega))
              clear f0 f3 f4 f5
              generalize stdR.take (12 + k) = xs at *
              generalize hy : rS (12 + k) = y at *
              have Y := Aside0.mk hy
              clear hy
              have RU := Aside0.mk ru
              clear ru
              have hk0 : (0 : Int) ≤ (k : Int) := by omega
              have hkm : (k : Int) < 4 := by omega
              go_wp2
              have SD := Aside0.mk (show wr.drew.cell? ⟨wq.heap.size, k * 2, none⟩ = some (.string y.f1) ∧ wr.drew.cell? ⟨wq.heap.size, k * 2 + 1, none⟩ = some (.string y.f2) from ⟨keepC (below_drew (Below.refl _ _)) px, keepC (below_drew (Below.refl _ _)) py⟩)
              have OD := Aside0.mk (Kd.R_drew HO.out)
              have BD := Aside0.mk (below_drew BW.out)
              have PD := Aside0.mk (blk_drew P.out)
              clear BW HO P
              go_region_held3 (fun wx => wx.cell? ⟨wq.heap.size, k * 2, none⟩ = some (.string y.f1) ∧ wx.cell? ⟨wq.heap.size, k * 2 + 1, none⟩ = some (.string y.f2)) (first | assumption | exact SD.out | exact S3.out | exact S4.out | exact S5.out) (first | (go_at_call 42; refine (RU.out _).mono ?_; rintro e w2 ⟨rfl, hb⟩; have O3 := Aside0.mk (Kd.R_below OD.out hb); have B3 := Aside0.mk (keepB hb BD.out); have P3 := Aside0.mk (blk_below PD.out hb); have S3 := Aside0.mk (sBelow2 SD.out hb); have S4 := Aside0.mk (sBelow2 S3.out (Below.alloc (Below.refl w2.heap.size w2) (Nat.le_refl _) (.cells #[.int .i64 y.f0, .string y.f1, .string y.f2, .int .i64 y.f3, .int .i64 y.f4, .int .i64 y.f5] 38))); clear hb) | (refine Kd.R_append_step k38 (w0 := w) w.heap.size (by rfl) (.tmp 79) (.tmp 91) 22 38 (.agg #[.int .i64 0, .string ⟨#[]⟩, .string ⟨#[]⟩, .int .i64 0, .int .i64 0, .int .i64 0]) 64 rfl Tryd.underlying22 info_rule rfl (by decide) (by omega) (.slice A xs.length c) xs y [.int .i64 y.f0, .string y.f1, .string y.f2, .int .i64 y.f3, .int .i64 y.f4, .int .i64 y.f5] (fun _ => True) (fun _ => False) rfl (by first | (go_simp; done) | (go_simp; rfl) | rfl) ?aP (fun _ hk => hk.elim) ?aF ?aO ?aB ?aS ?aL ?_; (case aP => exact k38_mkM _ _ _ _); (case aB => exact B3.out); (case aF => exact (fun _ _ => trivial)); (case aO => exact O3.out); (case aS => exact B3.out.size); (case aL => omega); intro v1 w18 ho hb hg hat; rw [TK.out] at ho; have HO2 := Aside0.mk ho; have BW2 := Aside0.mk hb; have P2 := Aside0.mk (blk_grown P3.out hg (Kd.R_ne O3.out P3.out (by decide))); have S5 := Aside0.mk (show w18.cell? ⟨wq.heap.size, k * 2, none⟩ = some (.string y.f1) ∧ w18.cell? ⟨wq.heap.size, k * 2 + 1, none⟩ = some (.string y.f2) from (by rw [← Y.out]; exact ⟨(atD P2.out hlt).1, (atD P2.out hlt).2.1⟩)); clear ho hb hg hat))
              go_wp2
              go_roundw
              case rel => first | exact ⟨k + 1, by omega, by go_num, HO2, P2, BW2⟩ | exact ⟨_, _, _, _, _, _, _, _, _, _, _, _, _, _, _, _, _, _, _, _, _, _, ⟨k + 1, by omega, by go_num, HO2, P2, BW2⟩, rfl⟩
              case measure => simp [intOf]; omega
            · have hkm : k = 4 := by omega
              subst hkm
              generalize hx : stdR.take (12 + 4) = xs at *
              have HX := Aside0.mk hx.symm
              clear P hx
              go_wp2_with fail
              refine (rule_any (⟨2, ⟨#[45]⟩, ⟨#[110, 101, 103]⟩, 45, 0, 50⟩ : S38) _).mono ?_
              rintro e q0 ⟨rfl, hb⟩
              have O3 := Aside0.mk (Kd.R_below HO.out hb)
              have B3 := Aside0.mk (keepB hb BW.out)
              clear hb HO BW
              go_wp2_with fail
              refine (rule_any (⟨2, ⟨#[43]⟩, ⟨#[112, 111, 115]⟩, 45, 0, 50⟩ : S38) _).mono ?_
              rintro e q1 ⟨rfl, hb⟩
              have O4 := Aside0.mk (Kd.R_below O3.out hb)
              have B4 := Aside0.mk (keepB hb B3.out)
              clear hb O3 B3
              go_wp2_with fail
              refine (rule_any (⟨2, ⟨#[115, 117, 109]⟩, ⟨#[115, 117, 109]⟩, 45, 0, 50⟩ : S38) _).mono ?_
              rintro e q2 ⟨rfl, hb⟩
              have O5 := Aside0.mk (Kd.R_below O4.out hb)
              have B5 := Aside0.mk (keepB hb B4.out)
              clear hb O4 B4
              go_wp2_with fail
              refine (rule_any (⟨2, ⟨#[112, 114, 111, 100]⟩, ⟨#[112, 114, 111, 100]⟩, 45, 0, 50⟩ : S38) _).mono ?_
              rintro e q3 ⟨rfl, hb⟩
              have O6 := Aside0.mk (Kd.R_below O5.out hb)
              have B6 := Aside0.mk (keepB hb B5.out)
              clear hb O5 B5
              have N4 := Aside0.mk (ownR_new (base := w.heap.size) B6.out.size [(⟨2, ⟨#[45]⟩, ⟨#[110, 101, 103]⟩, 45, 0, 50⟩ : S38), (⟨2, ⟨#[43]⟩, ⟨#[112, 111, 115]⟩, 45, 0, 50⟩ : S38), (⟨2, ⟨#[115, 117, 109]⟩, ⟨#[115, 117, 109]⟩, 45, 0, 50⟩ : S38), (⟨2, ⟨#[112, 114, 111, 100]⟩, ⟨#[112, 114, 111, 100]⟩, 45, 0, 50⟩ : S38)] [.int .i64 2, .string ⟨#[45]⟩, .string ⟨#[110, 101, 103]⟩, .int .i64 45, .int .i64 0, .int .i64 50, .int .i64 2, .string ⟨#[43]⟩, .string ⟨#[112, 111, 115]⟩, .int .i64 45, .int .i64 0, .int .i64 50, .int .i64 2, .string ⟨#[115, 117, 109]⟩, .string ⟨#[115, 117, 109]⟩, .int .i64 45, .int .i64 0, .int .i64 50, .int .i64 2, .string ⟨#[112, 114, 111, 100]⟩, .string ⟨#[112, 114, 111, 100]⟩, .int .i64 45, .int .i64 0, .int .i64 50] (fun W b ok => (((((Reps.none _ _).snoc (k38_mkM W b ok (⟨2, ⟨#[45]⟩, ⟨#[110, 101, 103]⟩, 45, 0, 50⟩ : S38)) rfl).snoc (k38_mkM W b ok (⟨2, ⟨#[43]⟩, ⟨#[112, 111, 115]⟩, 45, 0, 50⟩ : S38)) rfl).snoc (k38_mkM W b ok (⟨2, ⟨#[115, 117, 109]⟩, ⟨#[115, 117, 109]⟩, 45, 0, 50⟩ : S38)) rfl).snoc (k38_mkM W b ok (⟨2, ⟨#[112, 114, 111, 100]⟩, ⟨#[112, 114, 111, 100]⟩, 45, 0, 50⟩ : S38)) rfl)) (by decide))
              have RR := Aside0.mk (Kd.R_reads' N4.out).2.2
              have OA := Aside0.mk (Kd.R_alloc O6.out (.cells #[.int .i64 2, .string ⟨#[45]⟩, .string ⟨#[110, 101, 103]⟩, .int .i64 45, .int .i64 0, .int .i64 50, .int .i64 2, .string ⟨#[43]⟩, .string ⟨#[112, 111, 115]⟩, .int .i64 45, .int .i64 0, .int .i64 50, .int .i64 2, .string ⟨#[115, 117, 109]⟩, .string ⟨#[115, 117, 109]⟩, .int .i64 45, .int .i64 0, .int .i64 50, .int .i64 2, .string ⟨#[112, 114, 111, 100]⟩, .string ⟨#[112, 114, 111, 100]⟩, .int .i64 45, .int .i64 0, .int .i64 50] 38))
              have BA := Aside0.mk (Below.alloc B6.out B6.out.size (.cells #[.int .i64 2, .string ⟨#[45]⟩, .string ⟨#[110, 101, 103]⟩, .int .i64 45, .int .i64 0, .int .i64 50, .int .i64 2, .string ⟨#[43]⟩, .string ⟨#[112, 111, 115]⟩, .int .i64 45, .int .i64 0, .int .i64 50, .int .i64 2, .string ⟨#[115, 117, 109]⟩, .string ⟨#[115, 117, 109]⟩, .int .i64 45, .int .i64 0, .int .i64 50, .int .i64 2, .string ⟨#[112, 114, 111, 100]⟩, .string ⟨#[112, 114, 111, 100]⟩, .int .i64 45, .int .i64 0, .int .i64 50] 38))
              clear N4 B6
              go_wp2_with ((with_reducible refine gate_builtin (b := .append) (xs := #[.tmp 93, .tmp 98]) rfl ?_); at_builtin; refine Kd.R_append_rows k38 (Rr := k38.K (q3.alloc (.cells #[.int .i64 2, .string ⟨#[45]⟩, .string ⟨#[110, 101, 103]⟩, .int .i64 45, .int .i64 0, .int .i64 50, .int .i64 2, .string ⟨#[43]⟩, .string ⟨#[112, 111, 115]⟩, .int .i64 45, .int .i64 0, .int .i64 50, .int .i64 2, .string ⟨#[115, 117, 109]⟩, .string ⟨#[115, 117, 109]⟩, .int .i64 45, .int .i64 0, .int .i64 50, .int .i64 2, .string ⟨#[112, 114, 111, 100]⟩, .string ⟨#[112, 114, 111, 100]⟩, .int .i64 45, .int .i64 0, .int .i64 50] 38))) (w0 := w) w.heap.size rfl (.tmp 93) (.tmp 98) 22 38 (.agg #[.int .i64 0, .string ⟨#[]⟩, .string ⟨#[]⟩, .int .i64 0, .int .i64 0, .int .i64 0]) 64 rfl Tryd.underlying22 info_rule rfl (by decide) (by omega) (.slice A xs.length c) xs [(⟨2, ⟨#[45]⟩, ⟨#[110, 101, 103]⟩, 45, 0, 50⟩ : S38), (⟨2, ⟨#[43]⟩, ⟨#[112, 111, 115]⟩, 45, 0, 50⟩ : S38), (⟨2, ⟨#[115, 117, 109]⟩, ⟨#[115, 117, 109]⟩, 45, 0, 50⟩ : S38), (⟨2, ⟨#[112, 114, 111, 100]⟩, ⟨#[112, 114, 111, 100]⟩, 45, 0, 50⟩ : S38)] (some ⟨q3.heap.size, 0, none⟩) 4 4 (fun _ => True) (fun _ => False) rfl (by first | (go_simp; done) | (go_simp; rfl)) ?aO ?aR ?aK (fun _ hk => hk.elim) ?aF ?aB ?aS ?aL ?_; (case aO => exact OA.out); (case aR => exact RR.out); (case aK => exact KM _ _); (case aB => exact BA.out); (case aF => exact (fun _ _ => trivial)); (case aS => exact BA.out.size); (case aL => omega); intro v1 w17 ho hb hg hat; rw [HX.out, show stdR.take (12 + 4) ++ [(⟨2, ⟨#[45]⟩, ⟨#[110, 101, 103]⟩, 45, 0, 50⟩ : S38), (⟨2, ⟨#[43]⟩, ⟨#[112, 111, 115]⟩, 45, 0, 50⟩ : S38), (⟨2, ⟨#[115, 117, 109]⟩, ⟨#[115, 117, 109]⟩, 45, 0, 50⟩ : S38), (⟨2, ⟨#[112, 114, 111, 100]⟩, ⟨#[112, 114, 111, 100]⟩, 45, 0, 50⟩ : S38)] = stdR.take (20 + 0) from rfl] at ho; have HO2 := Aside0.mk ho; have BW2 := Aside0.mk hb; clear ho hb hg hat)
              have O0 := Aside0.mk (Kd.R_alloc HO2.out (.cells namesA 9))
              have P0 := Aside0.mk (blk_new w17 (.cells namesA 9))
              have B0 := Aside0.mk (Below.alloc BW2.out BW2.out.size (.cells namesA 9))
              clear HO2 BW2 OA BA RR HX
              go_loopw [1, 9] (fun s i wr => ∃ k : Nat, k ≤ 6 ∧ i = .int .i64 k ∧ Aside0 (OwnR wr w.heap.size s (stdR.take (20 + k))) ∧ Aside0 (wr.heap[w17.heap.size]? = some (.cells namesA 9 (0, 0))) ∧ Aside0 (Below w.heap.size w wr)) (fun _ i _ => 6 - (intOf i).toNat)
              case atStart => exact ⟨0, Nat.zero_le _, rfl, O0, P0, B0⟩
              case round =>
                clear O0 P0 B0
                obtain ⟨k, hk, rfl, HO, P, BW⟩ := hrel
                obtain ⟨A, c, ev⟩ := Kd.R_slice HO.out
                subst ev
                have hxl : (stdR.take (20 + k)).length ≤ 29 := by rw [List.length_take]; exact Nat.min_le_right _ _
                by_cases hlt : k < 6
                · obtain ⟨px, f2, f0, f3, f4, f5⟩ := atN P.out hlt
                  have ru := fun W => rule_any (rS (20 + k)) W
                  rw [f2, f0, f3, f4, f5] at ru
                  have TK := Aside0.mk (take_rS (j := 20 + k) (by omega))
                  clear f2 f0 f3 f4 f5
                  generalize stdR.take (20 + k) = xs at *
                  generalize hy : rS (20 + k) = y at *
                  have Y := Aside0.mk hy
                  clear hy
                  have RU := Aside0.mk ru
                  clear ru
                  have hk0 : (0 : Int) ≤ (k : Int) := by omega
                  have hkm : (k : Int) < 6 := by omega
                  go_wp2
                  have SD := Aside0.mk (show wr.drew.cell? ⟨w17.heap.size, k, none⟩ = some (.string y.f1) from keepC (below_drew (Below.refl _ _)) px)
                  have OD := Aside0.mk (Kd.R_drew HO.out)
                  have BD := Aside0.mk (below_drew BW.out)
                  have PD := Aside0.mk (blk_drew P.out)
                  clear BW HO P
                  go_region_held3 (fun wx => wx.cell? ⟨w17.heap.size, k, none⟩ = some (.string y.f1)) (first | assumption | exact SD.out | exact S3.out | exact S4.out | exact S5.out) (first | (go_at_call 42; refine (RU.out _).mono ?_; rintro e w2 ⟨rfl, hb⟩; have O3 := Aside0.mk (Kd.R_below OD.out hb); have B3 := Aside0.mk (keepB hb BD.out); have P3 := Aside0.mk (blk_below PD.out hb); have S3 := Aside0.mk (sBelow1 SD.out hb); have S4 := Aside0.mk (sBelow1 S3.out (Below.alloc (Below.refl w2.heap.size w2) (Nat.le_refl _) (.cells #[.int .i64 y.f0, .string y.f1, .string y.f2, .int .i64 y.f3, .int .i64 y.f4, .int .i64 y.f5] 38))); clear hb) | (refine Kd.R_append_step k38 (w0 := w) w.heap.size (by rfl) (.tmp 107) (.tmp 117) 22 38 (.agg #[.int .i64 0, .string ⟨#[]⟩, .string ⟨#[]⟩, .int .i64 0, .int .i64 0, .int .i64 0]) 64 rfl Tryd.underlying22 info_rule rfl (by decide) (by omega) (.slice A xs.length c) xs y [.int .i64 y.f0, .string y.f1, .string y.f2, .int .i64 y.f3, .int .i64 y.f4, .int .i64 y.f5] (fun _ => True) (fun _ => False) rfl (by first | (go_simp; done) | (go_simp; rfl) | rfl) ?aP (fun _ hk => hk.elim) ?aF ?aO ?aB ?aS ?aL ?_; (case aP => exact k38_mkM _ _ _ _); (case aB => exact B3.out); (case aF => exact (fun _ _ => trivial)); (case aO => exact O3.out); (case aS => exact B3.out.size); (case aL => omega); intro v1 w18 ho hb hg hat; rw [TK.out] at ho; have HO2 := Aside0.mk ho; have BW2 := Aside0.mk hb; have P2 := Aside0.mk (blk_grown P3.out hg (Kd.R_ne O3.out P3.out (by decide))); have S5 := Aside0.mk (show w18.cell? ⟨w17.heap.size, k, none⟩ = some (.string y.f1) from (by rw [← Y.out] ; exact (atN P2.out hlt).1)); clear ho hb hg hat))
                  go_wp2
                  go_roundw
                  case rel => first | exact ⟨k + 1, by omega, by go_num, HO2, P2, BW2⟩ | exact ⟨_, _, _, _, _, _, _, _, _, _, _, _, _, _, _, _, _, _, _, _, ⟨k + 1, by omega, by go_num, HO2, P2, BW2⟩, rfl⟩
                  case measure => simp [intOf]; omega
                · have hkm : k = 6 := by omega
                  subst hkm
                  generalize hx : stdR.take (20 + 6) = xs at *
                  have HX := Aside0.mk hx.symm
                  clear P hx
                  go_wp2_with fail
                  refine (rule_any (⟨4, ⟨#[]⟩, ⟨#[112, 114, 111, 100, 117, 99, 116]⟩, 60, 60, 61⟩ : S38) _).mono ?_
                  rintro e q0 ⟨rfl, hb⟩
                  have O3 := Aside0.mk (Kd.R_below HO.out hb)
                  have B3 := Aside0.mk (keepB hb BW.out)
                  clear hb HO BW
                  go_wp2_with fail
                  refine (rule_any (⟨3, ⟨#[33]⟩, ⟨#[102, 97, 99, 116, 111, 114, 105, 97, 108]⟩, 70, 70, 0⟩ : S38) _).mono ?_
                  rintro e q1 ⟨rfl, hb⟩
                  have O4 := Aside0.mk (Kd.R_below O3.out hb)
                  have B4 := Aside0.mk (keepB hb B3.out)
                  clear hb O3 B3
                  go_wp2_with fail
                  refine (rule_any (⟨3, ⟨#[39]⟩, ⟨#[112, 114, 105, 109, 101]⟩, 80, 80, 0⟩ : S38) _).mono ?_
                  rintro e q2 ⟨rfl, hb⟩
                  have O5 := Aside0.mk (Kd.R_below O4.out hb)
                  have B5 := Aside0.mk (keepB hb B4.out)
                  clear hb O4 B4
                  have N4 := Aside0.mk (ownR_new (base := w.heap.size) B5.out.size [(⟨4, ⟨#[]⟩, ⟨#[112, 114, 111, 100, 117, 99, 116]⟩, 60, 60, 61⟩ : S38), (⟨3, ⟨#[33]⟩, ⟨#[102, 97, 99, 116, 111, 114, 105, 97, 108]⟩, 70, 70, 0⟩ : S38), (⟨3, ⟨#[39]⟩, ⟨#[112, 114, 105, 109, 101]⟩, 80, 80, 0⟩ : S38)] [.int .i64 4, .string ⟨#[]⟩, .string ⟨#[112, 114, 111, 100, 117, 99, 116]⟩, .int .i64 60, .int .i64 60, .int .i64 61, .int .i64 3, .string ⟨#[33]⟩, .string ⟨#[102, 97, 99, 116, 111, 114, 105, 97, 108]⟩, .int .i64 70, .int .i64 70, .int .i64 0, .int .i64 3, .string ⟨#[39]⟩, .string ⟨#[112, 114, 105, 109, 101]⟩, .int .i64 80, .int .i64 80, .int .i64 0] (fun W b ok => ((((Reps.none _ _).snoc (k38_mkM W b ok (⟨4, ⟨#[]⟩, ⟨#[112, 114, 111, 100, 117, 99, 116]⟩, 60, 60, 61⟩ : S38)) rfl).snoc (k38_mkM W b ok (⟨3, ⟨#[33]⟩, ⟨#[102, 97, 99, 116, 111, 114, 105, 97, 108]⟩, 70, 70, 0⟩ : S38)) rfl).snoc (k38_mkM W b ok (⟨3, ⟨#[39]⟩, ⟨#[112, 114, 105, 109, 101]⟩, 80, 80, 0⟩ : S38)) rfl)) (by decide))
                  have RR := Aside0.mk (Kd.R_reads' N4.out).2.2
                  have OA := Aside0.mk (Kd.R_alloc O5.out (.cells #[.int .i64 4, .string ⟨#[]⟩, .string ⟨#[112, 114, 111, 100, 117, 99, 116]⟩, .int .i64 60, .int .i64 60, .int .i64 61, .int .i64 3, .string ⟨#[33]⟩, .string ⟨#[102, 97, 99, 116, 111, 114, 105, 97, 108]⟩, .int .i64 70, .int .i64 70, .int .i64 0, .int .i64 3, .string ⟨#[39]⟩, .string ⟨#[112, 114, 105, 109, 101]⟩, .int .i64 80, .int .i64 80, .int .i64 0] 38))
                  have BA := Aside0.mk (Below.alloc B5.out B5.out.size (.cells #[.int .i64 4, .string ⟨#[]⟩, .string ⟨#[112, 114, 111, 100, 117, 99, 116]⟩, .int .i64 60, .int .i64 60, .int .i64 61, .int .i64 3, .string ⟨#[33]⟩, .string ⟨#[102, 97, 99, 116, 111, 114, 105, 97, 108]⟩, .int .i64 70, .int .i64 70, .int .i64 0, .int .i64 3, .string ⟨#[39]⟩, .string ⟨#[112, 114, 105, 109, 101]⟩, .int .i64 80, .int .i64 80, .int .i64 0] 38))
                  clear N4 B5
                  go_wp2_with ((with_reducible refine gate_builtin (b := .append) (xs := #[.tmp 119, .tmp 123]) rfl ?_); at_builtin; refine Kd.R_append_rows k38 (Rr := k38.K (q2.alloc (.cells #[.int .i64 4, .string ⟨#[]⟩, .string ⟨#[112, 114, 111, 100, 117, 99, 116]⟩, .int .i64 60, .int .i64 60, .int .i64 61, .int .i64 3, .string ⟨#[33]⟩, .string ⟨#[102, 97, 99, 116, 111, 114, 105, 97, 108]⟩, .int .i64 70, .int .i64 70, .int .i64 0, .int .i64 3, .string ⟨#[39]⟩, .string ⟨#[112, 114, 105, 109, 101]⟩, .int .i64 80, .int .i64 80, .int .i64 0] 38))) (w0 := w) w.heap.size rfl (.tmp 119) (.tmp 123) 22 38 (.agg #[.int .i64 0, .string ⟨#[]⟩, .string ⟨#[]⟩, .int .i64 0, .int .i64 0, .int .i64 0]) 64 rfl Tryd.underlying22 info_rule rfl (by decide) (by omega) (.slice A xs.length c) xs [(⟨4, ⟨#[]⟩, ⟨#[112, 114, 111, 100, 117, 99, 116]⟩, 60, 60, 61⟩ : S38), (⟨3, ⟨#[33]⟩, ⟨#[102, 97, 99, 116, 111, 114, 105, 97, 108]⟩, 70, 70, 0⟩ : S38), (⟨3, ⟨#[39]⟩, ⟨#[112, 114, 105, 109, 101]⟩, 80, 80, 0⟩ : S38)] (some ⟨q2.heap.size, 0, none⟩) 3 3 (fun _ => True) (fun _ => False) rfl (by first | (go_simp; done) | (go_simp; rfl)) ?aO ?aR ?aK (fun _ hk => hk.elim) ?aF ?aB ?aS ?aL ?_; (case aO => exact OA.out); (case aR => exact RR.out); (case aK => exact KM _ _); (case aB => exact BA.out); (case aF => exact (fun _ _ => trivial)); (case aS => exact BA.out.size); (case aL => omega); intro v1 w17 ho hb hg hat; rw [HX.out, show stdR.take (20 + 6) ++ [(⟨4, ⟨#[]⟩, ⟨#[112, 114, 111, 100, 117, 99, 116]⟩, 60, 60, 61⟩ : S38), (⟨3, ⟨#[33]⟩, ⟨#[102, 97, 99, 116, 111, 114, 105, 97, 108]⟩, 70, 70, 0⟩ : S38), (⟨3, ⟨#[39]⟩, ⟨#[112, 114, 105, 109, 101]⟩, 80, 80, 0⟩ : S38)] = stdR.take (29 + 0) from rfl] at ho; have HO2 := Aside0.mk ho; have BW2 := Aside0.mk hb; clear ho hb hg hat)
                  go_ret
                  exact ⟨_, rfl, HO2.out, BW2.out⟩
end Go.Proofs.YtghdimmomnfakaaDoor.Gv

set_option linter.unusedVariables false
set_option linter.unusedSimpArgs false
namespace Go.Proofs.YtghdimmomnfakaaDoor.Gv
open Go.RowKit Go.Proofs.YtghdimmomnfakaaDoorW.PrintWords Go.Proofs.YtghdimmomnfakaaDoorW.PrintLast Go.Proofs.YtghdimmomnfakaaDoorW.PrintMore
open Go.Proofs.YtghdimmomnfakaaDoor.X (S38 k38 rd_T38 at_T38 z38)
open Go.Proofs.YtghdimmomnfakaaDoor.Pure
theorem validG (A0 : Option Addr) (c0 : Nat) (l : List S38) (w : World) (hG : Gw w) (hr : Kd.C k38 w A0 l.length l) (hc : l.length ≤ c0) (hl : l.length ≤ 9223372036854775807) (hs : smallR 100 l) :
    Calls Tryd.prog 12 #[.slice A0 l.length c0] w fun e w' => e = .returned (.bool (vRest l l.length 0 && decide (l.length ≤ 64))) ∧ Below w.heap.size w w' := by
  refine Go.Proofs.YtghdimmomnfakaaDoor.X.grammar_Valid.calls (l.length + 200) A0 c0 l _ w hG hr hc ?_
  rw [impl_valid l 100 (by omega) hl hs _ (by omega), Bool.and_comm]
theorem small_append {a b : List S38} (ha : smallR 100 a) (hb : smallR 100 b) : smallR 100 (a ++ b) := by
  intro j hj
  rw [rd_lt hj]
  by_cases h : j < a.length
  · rw [List.getElem_append_left h, ← rd_lt h]; exact ha j h
  · rw [List.getElem_append_right (by omega), ← rd_lt (by rw [List.length_append] at hj; omega)]
    exact hb _ (by rw [List.length_append] at hj; omega)
set_option maxHeartbeats 8000000 in
set_option maxRecDepth 1000000 in
theorem GrammarDefault.calls (A0 : Option Addr) (c0 : Nat) (l : List S38) (w : World) (hG : Ge w) (hr : Kd.C k38 w A0 l.length l) (hc : l.length ≤ c0) :
    Calls Tryd.prog 7 #[.slice A0 l.length c0] w fun e w' => e = .returned (.bool true) ∧ Below w.heap.size w w' := by
  have hl : l.length ≤ 9223372036854775807 := by
    have := hr.2.1
    first | exact this | (unfold maxLen at this; omega)
  have HG := Aside0.mk hG
  have HR := Aside0.mk hr
  have AW := Aside0.mk (awakeG w hG.g)
  have SH := Aside0.mk (fun W hW => shortG A0 c0 l W hW hc hl)
  have SS := Aside0.mk (short_smalls hl)
  have VS := Aside0.mk (fun (A : Option Addr) (c : Nat) W hW hC (hc : 29 ≤ c) => (show Calls Tryd.prog 12 #[.slice A 29 c] W fun e w' => e = .returned (.bool true) ∧ Below W.heap.size W w' by
    have h := validG A c stdR W hW hC hc (by decide) std_small
    rw [std_valid] at h
    exact h))
  have SD := Aside0.mk (fun (A : Option Addr) (c : Nat) (A1 : Option Addr) (c1 : Nat) W hC (hc : 29 ≤ c) hC1 (hc1 : 29 ≤ c1) => (show Calls Tryd.prog 21 #[.slice A 29 c, .slice A1 29 c1] W fun e w' => e = .returned (.bool true) ∧ Below W.heap.size W w' from sameG A c A1 c1 stdR W hC hc hC1 hc1 (by decide)))
  have VA := Aside0.mk (fun (A : Option Addr) (c n : Nat) (h80 : l.length ≤ 80) (hs : smallR 100 l) (hn : (stdR ++ l).length = n) (W : World) (hW : Gw W) (hC : Kd.C k38 W A n (stdR ++ l)) (hc : n ≤ c) => (show Calls Tryd.prog 12 #[.slice A n c] W fun e w' => e = .returned (.bool (vRest (stdR ++ l) n 0 && decide (n ≤ 64))) ∧ Below W.heap.size W w' by
    subst hn
    exact validG A c (stdR ++ l) W hW hC hc (by rw [List.length_append]; have : stdR.length = 29 := rfl; omega) (small_append std_small hs)))
  have VR := Aside0.mk (fun (A : Option Addr) (c n : Nat) (h80 : l.length ≤ 80) (hs : smallR 100 l) (hn : (stdR ++ l).length = n) (W : World) (hC : Kd.C k38 W A n (stdR ++ l)) (hc : n ≤ c) => (show Calls Tryd.prog 10 #[.slice A n c] W fun e w' => e = .returned (.bool (vRest (stdR ++ l) n 0 && decide (n ≤ 64))) ∧ Below W.heap.size W w' by
    subst hn
    exact refv A c (stdR ++ l) W hC hc (by rw [List.length_append]; have : stdR.length = 29 := rfl; omega) (small_append std_small hs)))
  generalize hn : l.length = n at *
  have HN := Aside0.mk hn
  clear hn hr hG
  go_enter Tryd.func7, Tryd.ntmps7
  go_wp2_with fail
  refine AW.out.mono ?_
  rintro e w1 ⟨rfl, hb⟩
  have B1 := Aside0.mk hb
  clear hb AW
  go_wp2_with fail
  refine (SH.out _ (Kd.C_below HR.out B1.out)).mono ?_
  rintro e w2 ⟨rfl, hb⟩
  have B2 := Aside0.mk (keepB hb B1.out)
  clear hb SH B1
  cases hsb : shortB l with
  | false =>
    go_wp2
    go_ret
    exact ⟨rfl, B2.out⟩
  | true =>
    have hss := SS.out hsb
    have HSM := Aside0.mk hss.2
    have h80 := hss.1
    clear hss hsb SS
    have DF := Aside0.mk (default_any w2 (Ge.below HG.out B2.out))
    go_wp2_with fail
    refine DF.out.mono ?_
    rintro e w3 ⟨v, rfl, ho, hb⟩
    have B3 := Aside0.mk (keepB hb B2.out)
    obtain ⟨A, c, ev⟩ := Kd.R_slice ho
    subst ev
    have OD := Aside0.mk ho
    have hrr := Kd.R_reads' ho
    have CD := Aside0.mk hrr.2.2
    have hcd : 29 ≤ c := hrr.2.1
    have e29 : stdR.length = 29 := rfl
    rw [e29]
    have HLT := Aside0.mk (Kd.C_below HR.out B3.out)
    clear hb ho B2 DF hrr e29
    have OE := Aside0.mk (ownR_new (w := w3) (base := w3.heap.size) (Nat.le_refl _) [] [] (fun W b ok => Reps.none _ _) (by decide))
    have BE := Aside0.mk ((Below.refl w3.heap.size w3).alloc (Nat.le_refl _) (.cells #[] 38))
    go_wp2_with (first | ((with_reducible refine gate_builtin (b := .append) (xs := #[.tmp 11, .tmp 12]) rfl ?_); at_builtin; refine Kd.R_append_rows k38 (Rr := k38.K (w3.alloc (.cells #[] 38))) (w0 := w3) w3.heap.size rfl (.tmp 11) (.tmp 12) 22 38 (.agg #[.int .i64 0, .string ⟨#[]⟩, .string ⟨#[]⟩, .int .i64 0, .int .i64 0, .int .i64 0]) 64 rfl Tryd.underlying22 info_rule rfl (by decide) (by omega) (.slice (some ⟨w3.heap.size, 0, none⟩) 0 0) [] stdR A 29 c (fun _ => True) (fun _ => False) rfl (by first | (go_simp; done) | (go_simp; rfl) | rfl) ?aO ?aR ?aK (fun _ hk => hk.elim) ?aF ?aB ?aS ?aL ?_; (case aO => exact OE.out); (case aR => exact Kd.C_alloc CD.out _); (case aK => exact KM _ _); (case aB => exact BE.out); (case aF => exact (fun _ _ => trivial)); (case aS => exact (BE.out).size); (case aL => decide); intro v1 w4 ho hb hg hat; have O4 := Aside0.mk (show OwnR w4 w3.heap.size v1 stdR from ho); have B4 := Aside0.mk hb; clear ho hb hg hat) | ((with_reducible refine gate_builtin (b := .append) (xs := #[.tmp 13, .tmp 14]) rfl ?_); at_builtin; refine Kd.R_append_rows k38 (Rr := k38.K w4) (w0 := w3) w3.heap.size rfl (.tmp 13) (.tmp 14) 22 38 (.agg #[.int .i64 0, .string ⟨#[]⟩, .string ⟨#[]⟩, .int .i64 0, .int .i64 0, .int .i64 0]) 64 rfl Tryd.underlying22 info_rule rfl (by decide) (by omega) v1 stdR l A0 n c0 (fun _ => True) (fun _ => False) rfl (by first | (go_simp; done) | (go_simp; rfl) | rfl) ?aO ?aR ?aK (fun _ hk => hk.elim) ?aF ?aB ?aS ?aL ?_; (case aO => exact O4.out); (case aR => exact Kd.C_below HR.out (keepB B4.out B3.out)); (case aK => exact KM _ _); (case aB => exact B4.out); (case aF => exact (fun _ _ => trivial)); (case aS => exact (B4.out).size); (case aL => have e29 : stdR.length = 29 := rfl; omega); intro v2 w5 ho hb hg hat; have O5 := Aside0.mk ho; have B5 := Aside0.mk hb; clear ho hb hg hat))
    obtain ⟨A2, c2, ev⟩ := Kd.R_slice O5.out
    subst ev
    have hrr := Kd.R_reads' O5.out
    have C5 := Aside0.mk hrr.2.2
    have hc2 := hrr.2.1
    clear hrr O5 OE BE O4 B4
    generalize hm : (stdR ++ l).length = m at C5 hc2 ⊢
    have HM := Aside0.mk hm
    clear hm
    refine (refdef_any _).mono ?_
    rintro e w6 ⟨v3, rfl, ho, hb⟩
    have C6 := Aside0.mk (Kd.C_below C5.out hb)
    have D6 := Aside0.mk (Kd.C_below CD.out (keepB hb B5.out))
    have B6 := Aside0.mk (keepB (keepB hb B5.out) B3.out)
    obtain ⟨A3, c3, ev⟩ := Kd.R_slice ho
    subst ev
    have hrr := Kd.R_reads' ho
    have E6 := Aside0.mk hrr.2.2
    have hc3 : 29 ≤ c3 := hrr.2.1
    have e29 : stdR.length = 29 := rfl
    rw [e29]
    clear hrr ho hb C5 CD B5 e29 HLT OD B3
    go_wp2_with fail
    refine (SD.out A c A3 c3 _ D6.out hcd E6.out hc3).mono ?_
    rintro e w7 ⟨rfl, hb⟩
    have C7 := Aside0.mk (Kd.C_below C6.out hb)
    have D7 := Aside0.mk (Kd.C_below D6.out hb)
    have B7 := Aside0.mk (keepB hb B6.out)
    clear hb C6 D6 B6 E6 SD
    go_wp2_with fail
    refine (VS.out A c _ (Gw.below HG.out.g B7.out) D7.out hcd).mono ?_
    rintro e w8 ⟨rfl, hb⟩
    have C8 := Aside0.mk (Kd.C_below C7.out hb)
    have B8 := Aside0.mk (keepB hb B7.out)
    clear hb C7 D7 B7 VS
    go_wp2_with fail
    refine (VA.out A2 c2 m h80 HSM.out HM.out _ (Gw.below HG.out.g B8.out) C8.out hc2).mono ?_
    rintro e w9 ⟨rfl, hb⟩
    have C9 := Aside0.mk (Kd.C_below C8.out hb)
    have B9 := Aside0.mk (keepB hb B8.out)
    clear hb C8 B8 VA
    go_wp2_with fail
    refine (VR.out A2 c2 m h80 HSM.out HM.out _ C9.out hc2).mono ?_
    rintro e w10 ⟨rfl, hb⟩
    have B10 := Aside0.mk (keepB hb B9.out)
    clear hb C9 B9 VR
    generalize (vRest (stdR ++ l) m 0 && decide (m ≤ 64)) = b
    cases b
    · go_wp2
      go_ret
      exact ⟨by first | rfl | simp, B10.out⟩
    · go_wp2
      go_ret
      exact ⟨by first | rfl | simp, B10.out⟩
end Go.Proofs.YtghdimmomnfakaaDoor.Gv
