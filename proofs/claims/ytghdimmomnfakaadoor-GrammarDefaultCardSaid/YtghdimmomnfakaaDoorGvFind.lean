/-
  grammar.Find and grammar.Named: the first rule with a kind and a symbol, or a name.
-/
import Derived.Test.YtghdimmomnfakaaDoorGvFunc
set_option linter.unusedVariables false
namespace Go.Proofs.YtghdimmomnfakaaDoor.Gv
open Go.RowKit Go.Proofs.YtghdimmomnfakaaDoorW.PrintWords Go.Proofs.YtghdimmomnfakaaDoorW.PrintLast Go.Proofs.YtghdimmomnfakaaDoorW.PrintMore
open Go.Proofs.YtghdimmomnfakaaDoor.X (S38 k38 rd_T38 at_T38)
theorem C_keep {w w1 : World} {A : Option Addr} {n : Nat} {l : List S38} (h : Kd.C k38 w A n l) (hb : Below w.heap.size w w1) : Kd.C k38 w1 A n l := by
  first | exact h.below hb | exact Kd.C_below h hb
def isFind (a1 : Int) (a2 : ByteArray) (x : S38) : Bool := decide (x.f0 = a1) && decide (x.f1.toList = a2.toList)
set_option maxHeartbeats 1000000 in
theorem isFind_calls (a1 : Int) (a2 : ByteArray) (W : World) (x : S38) (b1 b2 : Nat) (h1 : W.cell? ⟨b1, 0, none⟩ = some (.int .i64 a1)) (h2 : W.cell? ⟨b2, 0, none⟩ = some (.string a2)) :
    Calls Tryd.prog 36 #[ruleV x, .pointer (some ⟨b1, 0, none⟩), .pointer (some ⟨b2, 0, none⟩)] W fun e w' => e = .returned (.bool (isFind a1 a2 x)) ∧ Below W.heap.size W w' := by
  have l1 : b1 < W.heap.size := World.block_lt_of_cell? W _ h1
  have l2 : b2 < W.heap.size := World.block_lt_of_cell? W _ h2
  have n1 : ¬ b1 = W.heap.size := Nat.ne_of_lt l1
  have n2 : ¬ b2 = W.heap.size := Nat.ne_of_lt l2
  have n3 : ¬ W.heap.size = b1 := fun e => n1 e.symm
  have n4 : ¬ W.heap.size = b2 := fun e => n2 e.symm
  by_cases c1 : x.f0 = a1
  · by_cases c2 : x.f1.toList = a2.toList
    · have hr : isFind a1 a2 x = true := by simp [isFind, c1, c2]
      rw [hr]
      have k1 : (x.f0 == a1) = true := beq_iff_eq.mpr c1
      have k2 : (x.f1.toList == a2.toList) = true := beq_iff_eq.mpr c2
      clear hr c1 c2
      go_enter Tryd.func36, Tryd.ntmps36
      go_wp2
      go_ret
      exact ⟨rfl, (Below.refl _ _).alloc (Nat.le_refl _) _⟩
    · have hr : isFind a1 a2 x = false := by simp [isFind, c2]
      rw [hr]
      have k1 : (x.f0 == a1) = true := beq_iff_eq.mpr c1
      have k2 : (x.f1.toList == a2.toList) = false := beq_eq_false_iff_ne.mpr c2
      clear hr c1 c2
      go_enter Tryd.func36, Tryd.ntmps36
      go_wp2
      go_ret
      exact ⟨rfl, (Below.refl _ _).alloc (Nat.le_refl _) _⟩
  · have hr : isFind a1 a2 x = false := by simp [isFind, c1]
    rw [hr]
    have k1 : (x.f0 == a1) = false := beq_eq_false_iff_ne.mpr c1
    clear hr c1
    go_enter Tryd.func36, Tryd.ntmps36
    go_wp2
    go_ret
    exact ⟨rfl, (Below.refl _ _).alloc (Nat.le_refl _) _⟩
def grammar_Find.f (l0 : List S38) (a1 : Int) (a2 : ByteArray) : Option (Int × Bool) := some (max (idxP (isFind a1 a2) l0) 0, decide (0 ≤ idxP (isFind a1 a2) l0))
set_option maxHeartbeats 1000000 in
theorem grammar_Find.calls (A0 : Option Addr) (c0 : Nat) (l0 : List (S38)) (a1 : Int) (a2 : ByteArray) (r1 : Int) (r2 : Bool) (w : World) (hr0 : Kd.C k38 w A0 l0.length l0) (hc0 : l0.length ≤ c0) (h : grammar_Find.f l0 a1 a2 = some (r1, r2)) :
    Calls Tryd.prog 15 #[.slice A0 l0.length c0, .int .i64 a1, .string a2] w fun e w' => e = .returned (.tuple #[.int .i64 r1, .bool r2]) ∧ Below w.heap.size w w' := by
  have h' := Option.some.inj h
  obtain ⟨e1, e2⟩ := Prod.mk.inj h'
  clear h h'
  have eg : ∀ args w, (callFunc 36 args).run Tryd.prog w = .ok (.enter 36 args) w := enters_of Tryd.func36 (by kernel_rfl) rfl
  have b2 : Below w.heap.size w ((w.alloc (.cells #[.int .i64 a1] 3)).alloc (.cells #[.string a2] 9)) := ((Below.refl w.heap.size w).alloc (Nat.le_refl _) _).alloc (by simp) _
  have hr2 := C_keep hr0 b2
  have call := findFunc 36 #[.pointer (some ⟨w.heap.size, 0, none⟩), .pointer (some ⟨w.heap.size + 1, 0, none⟩)] (isFind a1 a2) eg A0 c0 l0 ((w.alloc (.cells #[.int .i64 a1] 3)).alloc (.cells #[.string a2] 9)) hr2 hc0 (fun W x hb =>
    isFind_calls a1 a2 W x w.heap.size (w.heap.size + 1) ((hb.cell (by simp <;> omega)).trans (by simp)) ((hb.cell (by simp <;> omega)).trans (by simp)))
  rw [e1, e2] at call
  have B2 := Aside0.mk b2
  clear b2 hr2 hr0 e1 e2 eg
  go_enter Tryd.func15, Tryd.ntmps15
  go_wp2_with (go_at_call 35; refine call.mono ?_; rintro e w' ⟨rfl, hb'⟩)
  go_ret2
  exact ⟨rfl, keepB hb' B2.out⟩
def isNamed (a1 : Int) (a2 : ByteArray) (x : S38) : Bool := decide (x.f0 = a1) && decide (x.f2.toList = a2.toList)
set_option maxHeartbeats 1000000 in
theorem isNamed_calls (a1 : Int) (a2 : ByteArray) (W : World) (x : S38) (b1 b2 : Nat) (h1 : W.cell? ⟨b1, 0, none⟩ = some (.int .i64 a1)) (h2 : W.cell? ⟨b2, 0, none⟩ = some (.string a2)) :
    Calls Tryd.prog 37 #[ruleV x, .pointer (some ⟨b1, 0, none⟩), .pointer (some ⟨b2, 0, none⟩)] W fun e w' => e = .returned (.bool (isNamed a1 a2 x)) ∧ Below W.heap.size W w' := by
  have l1 : b1 < W.heap.size := World.block_lt_of_cell? W _ h1
  have l2 : b2 < W.heap.size := World.block_lt_of_cell? W _ h2
  have n1 : ¬ b1 = W.heap.size := Nat.ne_of_lt l1
  have n2 : ¬ b2 = W.heap.size := Nat.ne_of_lt l2
  have n3 : ¬ W.heap.size = b1 := fun e => n1 e.symm
  have n4 : ¬ W.heap.size = b2 := fun e => n2 e.symm
  by_cases c1 : x.f0 = a1
  · by_cases c2 : x.f2.toList = a2.toList
    · have hr : isNamed a1 a2 x = true := by simp [isNamed, c1, c2]
      rw [hr]
      have k1 : (x.f0 == a1) = true := beq_iff_eq.mpr c1
      have k2 : (x.f2.toList == a2.toList) = true := beq_iff_eq.mpr c2
      clear hr c1 c2
      go_enter Tryd.func37, Tryd.ntmps37
      go_wp2
      go_ret
      exact ⟨rfl, (Below.refl _ _).alloc (Nat.le_refl _) _⟩
    · have hr : isNamed a1 a2 x = false := by simp [isNamed, c2]
      rw [hr]
      have k1 : (x.f0 == a1) = true := beq_iff_eq.mpr c1
      have k2 : (x.f2.toList == a2.toList) = false := beq_eq_false_iff_ne.mpr c2
      clear hr c1 c2
      go_enter Tryd.func37, Tryd.ntmps37
      go_wp2
      go_ret
      exact ⟨rfl, (Below.refl _ _).alloc (Nat.le_refl _) _⟩
  · have hr : isNamed a1 a2 x = false := by simp [isNamed, c1]
    rw [hr]
    have k1 : (x.f0 == a1) = false := beq_eq_false_iff_ne.mpr c1
    clear hr c1
    go_enter Tryd.func37, Tryd.ntmps37
    go_wp2
    go_ret
    exact ⟨rfl, (Below.refl _ _).alloc (Nat.le_refl _) _⟩
def grammar_Named.f (l0 : List S38) (a1 : Int) (a2 : ByteArray) : Option (Int × Bool) := some (max (idxP (isNamed a1 a2) l0) 0, decide (0 ≤ idxP (isNamed a1 a2) l0))
set_option maxHeartbeats 1000000 in
theorem grammar_Named.calls (A0 : Option Addr) (c0 : Nat) (l0 : List (S38)) (a1 : Int) (a2 : ByteArray) (r1 : Int) (r2 : Bool) (w : World) (hr0 : Kd.C k38 w A0 l0.length l0) (hc0 : l0.length ≤ c0) (h : grammar_Named.f l0 a1 a2 = some (r1, r2)) :
    Calls Tryd.prog 17 #[.slice A0 l0.length c0, .int .i64 a1, .string a2] w fun e w' => e = .returned (.tuple #[.int .i64 r1, .bool r2]) ∧ Below w.heap.size w w' := by
  have h' := Option.some.inj h
  obtain ⟨e1, e2⟩ := Prod.mk.inj h'
  clear h h'
  have eg : ∀ args w, (callFunc 37 args).run Tryd.prog w = .ok (.enter 37 args) w := enters_of Tryd.func37 (by kernel_rfl) rfl
  have b2 : Below w.heap.size w ((w.alloc (.cells #[.int .i64 a1] 3)).alloc (.cells #[.string a2] 9)) := ((Below.refl w.heap.size w).alloc (Nat.le_refl _) _).alloc (by simp) _
  have hr2 := C_keep hr0 b2
  have call := findFunc 37 #[.pointer (some ⟨w.heap.size, 0, none⟩), .pointer (some ⟨w.heap.size + 1, 0, none⟩)] (isNamed a1 a2) eg A0 c0 l0 ((w.alloc (.cells #[.int .i64 a1] 3)).alloc (.cells #[.string a2] 9)) hr2 hc0 (fun W x hb =>
    isNamed_calls a1 a2 W x w.heap.size (w.heap.size + 1) ((hb.cell (by simp <;> omega)).trans (by simp)) ((hb.cell (by simp <;> omega)).trans (by simp)))
  rw [e1, e2] at call
  have B2 := Aside0.mk b2
  clear b2 hr2 hr0 e1 e2 eg
  go_enter Tryd.func17, Tryd.ntmps17
  go_wp2_with (go_at_call 35; refine call.mono ?_; rintro e w' ⟨rfl, hb'⟩)
  go_ret2
  exact ⟨rfl, keepB hb' B2.out⟩
end Go.Proofs.YtghdimmomnfakaaDoor.Gv
