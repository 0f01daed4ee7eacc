/-
  unit.Root.
-/
import Derived.Test.YtjnheoelcahkaaaDoorUnArith
set_option linter.unusedVariables false
set_option linter.unusedSimpArgs false
namespace Go.Proofs.YtjnheoelcahkaaaDoor.Gv
open Go.RowKit Go.Proofs.YtjnheoelcahkaaaDoorW.PrintWords Go.Proofs.YtjnheoelcahkaaaDoorW.PrintLast Go.Proofs.YtjnheoelcahkaaaDoorW.PrintMore
def evenI (x : Int) : Bool := x.tmod 2 == 0
def evenD (d : Nat → Int) : Bool := evenI (d 0) && (evenI (d 1) && (evenI (d 2) && (evenI (d 3) && (evenI (d 4) && (evenI (d 5) && evenI (d 6))))))
theorem evenD_iff (d : Nat → Int) : evenD d = true ↔ ∀ j, j < 7 → evenI (d j) = true := by
  unfold evenD
  simp only [Bool.and_eq_true]
  constructor
  · rintro ⟨h0, h1, h2, h3, h4, h5, h6⟩ j hj
    rcases lt7 hj with rfl | rfl | rfl | rfl | rfl | rfl | rfl <;> assumption
  · intro h
    exact ⟨h 0 (by omega), h 1 (by omega), h 2 (by omega), h 3 (by omega), h 4 (by omega), h 5 (by omega), h 6 (by omega)⟩
theorem evenD_no {d : Nat → Int} {k : Nat} (hk : k < 7) (h : evenI (d k) = false) : evenD d = false := by
  cases e : evenD d with
  | false => rfl
  | true => have := (evenD_iff d).1 e k hk; rw [h] at this; cases this
def halfD (d : Nat → Int) (k j : Nat) : Int := if j < k then (d j).tdiv 2 else d j
theorem halfD_zero (d : Nat → Int) : halfD d 0 = d := by funext j; exact if_neg (Nat.not_lt_zero j)
theorem halfD_at (d : Nat → Int) (k : Nat) : halfD d k k = d k := if_neg (Nat.lt_irrefl k)
theorem halfD_succ (d : Nat → Int) (k : Nat) : updD (halfD d k) k ((d k).tdiv 2) = halfD d (k + 1) := by
  funext j
  unfold updD halfD
  by_cases e : j = k
  · subst e; rw [if_pos rfl, if_pos (by omega)]
  · rw [if_neg e]
    by_cases h : j < k
    · rw [if_pos h, if_pos (by omega)]
    · rw [if_neg h, if_neg (by omega)]
/-- what Root answers -/
def rootD (d : Nat → Int) : (Nat → Int) × Int :=
  if dimB d = true then (if evenD d = true then (halfD d 7, 0) else (zeroD, 2)) else (zeroD, 1)
theorem rootD_bad {d : Nat → Int} (h : dimB d = false) : Ending.returned (.tuple #[.agg (agg7 zeroD), .int .i64 1]) = .returned (.tuple #[.agg (agg7 (rootD d).1), .int .i64 (rootD d).2]) := by
  unfold rootD; rw [if_neg (by rw [h]; decide)]
theorem rootD_odd {d : Nat → Int} (h : dimB d = true) (h2 : evenD d = false) : Ending.returned (.tuple #[.agg (agg7 zeroD), .int .i64 2]) = .returned (.tuple #[.agg (agg7 (rootD d).1), .int .i64 (rootD d).2]) := by
  unfold rootD; rw [if_pos h, if_neg (by rw [h2]; decide)]
theorem rootD_yes {d : Nat → Int} (h : dimB d = true) (h2 : evenD d = true) : Ending.returned (.tuple #[.agg (agg7 (halfD d 7)), .int .i64 0]) = .returned (.tuple #[.agg (agg7 (rootD d).1), .int .i64 (rootD d).2]) := by
  unfold rootD; rw [if_pos h, if_pos h2]
structure Two (w : World) (B : Nat) (a c : Nat → Int) : Prop where
  x : Box7 w B a
  z : Box7 w (B + 1) c
theorem Two.below {w w1 : World} {B : Nat} {a c : Nat → Int} (h : Two w B a c) (hb : Below w.heap.size w w1) : Two w1 B a c := ⟨blk_below h.x hb, blk_below h.z hb⟩
theorem Two.start (w : World) (a : Nat → Int) : Two ((w.alloc (.cells (agg7 a) 23)).alloc (.cells (agg7 zeroD) 23)) w.heap.size a zeroD :=
  ⟨blk_alloc (blk_new _ _) _, by have := blk_new (w.alloc (.cells (agg7 a) 23)) (.cells (agg7 zeroD) 23); rw [show (w.alloc (.cells (agg7 a) 23)).heap.size = w.heap.size + 1 by simp] at this; exact this⟩
theorem Two.back {w w1 : World} (a : Nat → Int) (hb : Below ((w.alloc (.cells (agg7 a) 23)).alloc (.cells (agg7 zeroD) 23)).heap.size ((w.alloc (.cells (agg7 a) 23)).alloc (.cells (agg7 zeroD) 23)) w1) : Below w.heap.size w w1 :=
  box_below (box_below hb)
theorem Two.setX {w : World} {B : Nat} {a c : Nat → Int} (h : Two w B a c) {k : Nat} (hk : k < 7) (v : Int) : Two (w.setCell ⟨B, k, none⟩ (.int .i64 v)) B (updD a k v) c :=
  ⟨set7 h.x hk v, blk_far h.z (by show B + 1 ≠ B; omega) _⟩
set_option maxHeartbeats 2000000 in
set_option maxRecDepth 1000000 in
theorem unit_Root.any (a : Nat → Int) (w : World) :
    Calls Tryd.prog 15 #[.agg (agg7 a)] w fun e w' => e = .returned (.tuple #[.agg (agg7 (rootD a).1), .int .i64 (rootD a).2]) ∧ Below w.heap.size w w' := by
  cases ha : dimB a with
  | false =>
    have va := unit_Valid.is a _ ha
    have HM := Aside0.mk ha
    clear ha
    go_enter Tryd.func15, Tryd.ntmps15
    go_wp2_with fail
    refine (va _).mono ?_
    rintro e w1 ⟨rfl, hb1⟩
    have T1 := Aside0.mk ((Two.start w a).below hb1)
    have B1 := Aside0.mk (Two.back a hb1)
    clear hb1 va
    obtain ⟨z0, z1, z2, z3, z4, z5, z6⟩ := cells7 T1.out.z
    have f0 := blk_frozen T1.out.z 0
    have f1 := blk_frozen T1.out.z 1
    have f2 := blk_frozen T1.out.z 2
    have f3 := blk_frozen T1.out.z 3
    have f4 := blk_frozen T1.out.z 4
    have f5 := blk_frozen T1.out.z 5
    have f6 := blk_frozen T1.out.z 6
    go_wp2
    exact bodyPost_ret (results_ct (p := 2) (u := 3) rfl _ _ (w.heap.size + 1) 23 (agg7 zeroD) (0, 0) _ rfl (store7 T1.out.z zeroD) Tryd.underlying23 rfl (by kernel_rfl)) rfl ⟨rootD_bad HM.out, below7 B1.out (by omega) zeroD⟩
  | true =>
    have va := unit_Valid.is a _ ha
    have HA := Aside0.mk ((dimB_iff a).1 ha)
    clear ha
    go_enter Tryd.func15, Tryd.ntmps15
    go_wp2_with fail
    refine (va _).mono ?_
    rintro e w1 ⟨rfl, hb1⟩
    have T1 := Aside0.mk ((Two.start w a).below hb1)
    have B1 := Aside0.mk (Two.back a hb1)
    clear hb1 va
    obtain ⟨x0, x1, x2, x3, x4, x5, x6⟩ := cells7 T1.out.x
    go_wp2
    go_loopw [4, 5, 11] (fun _ _ i wr => ∃ k : Nat, k ≤ 7 ∧ i = .int .i64 k ∧ Aside0 (Two wr w.heap.size (halfD a k) zeroD) ∧ Aside0 (Below w.heap.size w wr) ∧ Aside0 (∀ j, j < k → evenI (a j) = true)) (fun _ _ i _ => 7 - (intOf i).toNat)
    case atStart => exact ⟨0, Nat.zero_le _, rfl, ⟨by rw [halfD_zero]; exact T1.out⟩, B1, ⟨fun j hj => absurd hj (Nat.not_lt_zero _)⟩⟩
    case round =>
      clear x0 x1 x2 x3 x4 x5 x6
      obtain ⟨k, hk, rfl, T, BW, A0⟩ := hrel
      by_cases hlt : k < 7
      · have ix := index7 a k hlt
        have hz := okD_le (HA.out k hlt)
        have hz1 := hz.1
        have hz2 := hz.2
        clear hz
        cases ho : evenI (a k) with
        | false =>
          have HE := Aside0.mk (evenD_no hlt ho)
          have ht : ((a k).tmod 2 != 0) = true := by
            unfold evenI at ho
            rw [bne, ho]; rfl
          clear ho
          obtain ⟨z0, z1, z2, z3, z4, z5, z6⟩ := cells7 T.out.z
          have f0 := blk_frozen T.out.z 0
          have f1 := blk_frozen T.out.z 1
          have f2 := blk_frozen T.out.z 2
          have f3 := blk_frozen T.out.z 3
          have f4 := blk_frozen T.out.z 4
          have f5 := blk_frozen T.out.z 5
          have f6 := blk_frozen T.out.z 6
          go_wp2
          exact bodyPost_ret (results_ct (p := 2) (u := 3) rfl _ _ (w.heap.size + 1) 23 (agg7 zeroD) (0, 0) _ rfl (store7 T.out.z zeroD) Tryd.underlying23 rfl (by kernel_rfl)) rfl ⟨rootD_odd (dimB_yes HA.out) HE.out, below7 BW.out (by omega) zeroD⟩
        | true =>
          have A1 : Aside0 (∀ j, j < k + 1 → evenI (a j) = true) := ⟨fun j hj => by
            by_cases e : j = k
            · subst e; exact ho
            · exact A0.out j (by omega)⟩
          have ht : ((a k).tmod 2 != 0) = false := by
            unfold evenI at ho
            rw [bne, ho]; rfl
          clear ho
          have hl0 : (0 : Int) ≤ (k : Int) := by omega
          have hl7 : (k : Int) < 7 := by omega
          have hx := cell7 T.out.x hlt
          have hfr := blk_frozen T.out.x k
          go_wp2
          go_roundw
          case rel => exact ⟨k + 1, by omega, by go_num, ⟨by rw [← halfD_succ]; exact T.out.setX hlt _⟩, ⟨BW.out.setCell (Nat.le_refl _) _⟩, A1⟩
          case measure => simp [intOf]; omega
      · have hk7 : k = 7 := by omega
        subst hk7
        clear hlt hk
        have HE := Aside0.mk ((evenD_iff a).2 A0.out)
        obtain ⟨x0, x1, x2, x3, x4, x5, x6⟩ := cells7 T.out.x
        obtain ⟨z0, z1, z2, z3, z4, z5, z6⟩ := cells7 T.out.z
        have f0 := blk_frozen T.out.z 0
        have f1 := blk_frozen T.out.z 1
        have f2 := blk_frozen T.out.z 2
        have f3 := blk_frozen T.out.z 3
        have f4 := blk_frozen T.out.z 4
        have f5 := blk_frozen T.out.z 5
        have f6 := blk_frozen T.out.z 6
        go_wp2
        exact bodyPost_ret (results_ct (p := 2) (u := 3) rfl _ _ (w.heap.size + 1) 23 (agg7 (halfD a 7)) (0, 0) _ rfl (store7 T.out.z _) Tryd.underlying23 rfl (by kernel_rfl)) rfl ⟨rootD_yes (dimB_yes HA.out) HE.out, below7 BW.out (by omega) _⟩
end Go.Proofs.YtjnheoelcahkaaaDoor.Gv
