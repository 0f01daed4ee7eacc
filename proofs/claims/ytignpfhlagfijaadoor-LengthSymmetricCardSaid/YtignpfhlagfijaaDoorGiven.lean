/-
  What this seat's printed walks take as given: contracts of functions that are not printed.
-/
import Derived.Test.YtignpfhlagfijaaDoorProg
import Derived.Below
import Derived.Deep.Draws
import Derived.Deep.AppendLies
import Derived.Maps.AppendAt
import Derived.OwnWalk
import Derived.Laws.BytesArg
import Derived.Laws.MakeOwn
import Derived.Laws.OwnMore
import Derived.Deep.OwnRows
import Derived.Tactics
import Derived.Lib.ConvBytes
import Derived.Laws.Slices
import Derived.WalkKit
import Derived.KernelRfl
import Derived.RowKit3
import Derived.Deep.LoopGhost
import Derived.Deep.QuietTactic
import Derived.BigQuiet
import Derived.WideLaws
import Derived.Deep.DeepCutAuto
import Derived.Deep.CutBlock
import Derived.Deep.RegionHeld3
import Derived.Laws.Rows
import Derived.Lib.AppendStr
import Derived.ArgAppend
import Derived.Laws.IdiomCopy
import Derived.OrdersHeld
import Derived.Laws.BitsLemmas
import Derived.RowKit
import Derived.Test.YtignpfhlagfijaaDoorWWords
import Derived.Test.YtignpfhlagfijaaDoorWLast
import Derived.Test.YtignpfhlagfijaaDoorWTab
import Derived.Test.YtignpfhlagfijaaDoorWFour
import Derived.Test.YtignpfhlagfijaaDoorWQPut
import Derived.Test.YtignpfhlagfijaaDoorWApart
import Derived.Test.YtignpfhlagfijaaDoorWArr
import Derived.Test.YtignpfhlagfijaaDoorWZeros
import Derived.Test.YtignpfhlagfijaaDoorWFoot
import Derived.Test.YtignpfhlagfijaaDoorWKept
import Derived.Test.YtignpfhlagfijaaDoorWShare
import Derived.Test.YtignpfhlagfijaaDoorWN
import Derived.Test.YtignpfhlagfijaaDoorWFootNe
import Derived.Test.YtignpfhlagfijaaDoorWAt
import Derived.Test.YtignpfhlagfijaaDoorWEqStruct
import Derived.Test.YtignpfhlagfijaaDoorWRepsOne
import Derived.Test.YtignpfhlagfijaaDoorWInv
import Derived.Test.YtignpfhlagfijaaDoorWInvWords
import Derived.Test.YtignpfhlagfijaaDoorWGuard
import Derived.Test.YtignpfhlagfijaaDoorWNEv
import Derived.Test.YtignpfhlagfijaaDoorWMore
import Derived.Lib.SmallJoins
import Derived.Lib.AppendIntMem
import Derived.Lib.AtoiErrMem
import Derived.Lib.LaidTab
import Derived.Laws.RangeAny
import Derived.LoopTactic
import Derived.Test.YtignpfhlagfijaaDoorShelf
set_option linter.unusedVariables false
set_option linter.unusedSimpArgs false
namespace Go.Proofs.YtignpfhlagfijaaDoor.Gv
open Go.RowKit Go.Proofs.YtignpfhlagfijaaDoorW.PrintWords Go.Proofs.YtignpfhlagfijaaDoorW.PrintLast Go.Proofs.YtignpfhlagfijaaDoorW.PrintMore
/-- an error over one whole number's type -/
def errW : Option Int → Value
  | none => .nilIface
  | some c => .iface 0 (.int .i64 c)
theorem errW_none : errW none = .nilIface := rfl
theorem errW_some (c : Int) : errW (some c) = .iface 0 (.int .i64 c) := rfl

/-- What a call may count on in the world: the table of powers of ten, and one number of the library's. -/
structure Gw (w : World) : Prop where
  tab : Lib.TabIs Tryd.prog w "internal/strconv.uint64pow10" .u64 Lib.pow10Tab
  most : ∃ m, w.cell? ⟨0, 0, none⟩ = some (.int .i64 m)
theorem Gw.below {B : Nat} {w w' : World} (h : Gw w) (hb : Below B w w') (hB : w.heap.size ≤ B := by exact Nat.le_refl _) : Gw w' :=
  ⟨Go.Joins.tab_stays (show Tryd.prog.globalNamed "internal/strconv.uint64pow10" = some 3 by kernel_rfl) h.tab hb hB, by
    obtain ⟨m, hm⟩ := h.most
    exact ⟨m, (hb.cell (Nat.lt_of_lt_of_le (World.block_lt_of_cell? w _ hm) hB)).trans hm⟩⟩
theorem Gw.drewN {w : World} (h : Gw w) (n : Nat) : Gw (w.drewN n) := h.below (pw_below_drewN (Below.refl w.heap.size w) n)
theorem Gw.drew {w : World} (h : Gw w) : Gw w.drew := h.below (below_drew (Below.refl w.heap.size w))

def strconv_Itoa.f (a0 : Int) : Option ByteArray := if -9223372036854775808 ≤ a0 then (if a0 ≤ 9223372036854775807 then some ⟨(Lib.itoa a0).toArray⟩ else none) else none
theorem strconv_Itoa.calls (a0 : Int) (r : ByteArray) (w : World) (hG : Gw w) (h : strconv_Itoa.f a0 = some r) :
    Calls Tryd.prog 29 #[.int .i64 a0] w fun e w' => e = .returned (.string r) ∧ Below w.heap.size w w' := by
  unfold strconv_Itoa.f at h
  split at h
  · rename_i h0
    split at h
    · rename_i h1
      obtain rfl := Option.some.inj h
      refine (Tryd.strconv_Itoa a0 h0 h1 w hG.tab).mono ?_
      rintro e w' ⟨rfl, k, os, rfl⟩
      exact ⟨rfl, Lib.below_grow _ _ (Nat.le_refl _) k os⟩
    · cases h
  · cases h

def strings_TrimRight.f (a0 : ByteArray) (a1 : ByteArray) : Option ByteArray :=
  match a1.data.toList with
  | [c] => if c.toNat < 128 then (if a0.size ≤ 9223372036854775807 then some ⟨(Lib.trimRightB a0.data.toList c).toArray⟩ else none) else none
  | _ => none
theorem strings_TrimRight.calls (a0 : ByteArray) (a1 : ByteArray) (r : ByteArray) (w : World) (h : strings_TrimRight.f a0 a1 = some r) :
    Calls Tryd.prog 30 #[.string a0, .string a1] w fun e w' => e = .returned (.string r) ∧ Drawn0 w w' := by
  unfold strings_TrimRight.f at h
  split at h
  · rename_i c hc
    obtain ⟨⟨l⟩⟩ := a1
    simp only at hc
    subst hc
    split at h
    · rename_i h0
      split at h
      · rename_i h1
        obtain rfl := Option.some.inj h
        refine (Tryd.strings_TrimRight_one a0 c h0 w h1).mono ?_
        rintro e w' ⟨rfl, rfl⟩
        exact ⟨rfl, Drawn0.refl _⟩
      · cases h
    · cases h
  · cases h

def strings_CutSuffix.f (a0 : ByteArray) (a1 : ByteArray) : Option (ByteArray × Bool) :=
  if a0.size ≤ 9223372036854775807 then some (⟨(Lib.trimSuffix a0.data.toList a1.data.toList).toArray⟩, Lib.hasSuffix a0.data.toList a1.data.toList) else none
theorem strings_CutSuffix.calls (a0 : ByteArray) (a1 : ByteArray) (r1 : ByteArray) (r2 : Bool) (w : World) (h : strings_CutSuffix.f a0 a1 = some (r1, r2)) :
    Calls Tryd.prog 31 #[.string a0, .string a1] w fun e w' => e = .returned (.tuple #[.string r1, .bool r2]) ∧ Drawn0 w w' := by
  unfold strings_CutSuffix.f at h
  split at h
  · rename_i h1
    simp only [Option.some.injEq, Prod.mk.injEq] at h
    obtain ⟨rfl, rfl⟩ := h
    refine (Tryd.strings_CutSuffix a0 a1 w h1).mono ?_
    rintro e w' ⟨rfl, rfl⟩
    exact ⟨rfl, Drawn0.refl _⟩
  · cases h

def strings_CutPrefix.f (a0 : ByteArray) (a1 : ByteArray) : Option (ByteArray × Bool) :=
  some (⟨(Lib.trimPrefix a0.data.toList a1.data.toList).toArray⟩, Lib.hasPrefix a0.data.toList a1.data.toList)
theorem strings_CutPrefix.calls (a0 : ByteArray) (a1 : ByteArray) (r1 : ByteArray) (r2 : Bool) (w : World) (h : strings_CutPrefix.f a0 a1 = some (r1, r2)) :
    Calls Tryd.prog 32 #[.string a0, .string a1] w fun e w' => e = .returned (.tuple #[.string r1, .bool r2]) ∧ Drawn0 w w' := by
  unfold strings_CutPrefix.f at h
  simp only [Option.some.injEq, Prod.mk.injEq] at h
  obtain ⟨rfl, rfl⟩ := h
  refine (Tryd.strings_CutPrefix a0 a1 w).mono ?_
  rintro e w' ⟨rfl, rfl⟩
  exact ⟨rfl, Drawn0.refl _⟩

def strings_Cut.f (a0 : ByteArray) (a1 : ByteArray) : Option (ByteArray × ByteArray × Bool) :=
  if a0.size < 4294967281 then some (⟨(Lib.cut a0.data.toList a1.data.toList).1.toArray⟩, ⟨(Lib.cut a0.data.toList a1.data.toList).2.1.toArray⟩, (Lib.cut a0.data.toList a1.data.toList).2.2) else none
theorem strings_Cut.calls (a0 : ByteArray) (a1 : ByteArray) (r1 : ByteArray) (r2 : ByteArray) (r3 : Bool) (w : World) (hG : Gw w) (h : strings_Cut.f a0 a1 = some (r1, r2, r3)) :
    Calls Tryd.prog 33 #[.string a0, .string a1] w fun e w' => e = .returned (.tuple #[.string r1, .string r2, .bool r3]) ∧ Drawn0 w w' := by
  unfold strings_Cut.f at h
  split at h
  · rename_i h1
    simp only [Option.some.injEq, Prod.mk.injEq] at h
    obtain ⟨rfl, rfl, rfl⟩ := h
    obtain ⟨m, hm⟩ := hG.most
    refine (Tryd.strings_Cut a0 a1 m w h1 hm).mono ?_
    rintro e w' ⟨rfl, n, rfl⟩
    exact ⟨rfl, (Drawn0.refl _).step n⟩
  · cases h

def strconv_Atoi.f (a0 : ByteArray) : Option (Int × Option Int) :=
  if a0.size ≤ 9223372036854775806 then (match Lib.atoiAll a0.data.toList with | .ok v => some (v, none) | _ => none) else none
theorem strconv_Atoi.calls (a0 : ByteArray) (r1 : Int) (r2 : Option Int) (w : World) (h : strconv_Atoi.f a0 = some (r1, r2)) :
    Calls Tryd.prog 35 #[.string a0] w fun e w' => e = .returned (.tuple #[.int .i64 r1, errW r2]) ∧ Below w.heap.size w w' := by
  unfold strconv_Atoi.f at h
  split at h
  · rename_i h1
    split at h
    · rename_i v hv
      simp only [Option.some.injEq, Prod.mk.injEq] at h
      obtain ⟨rfl, rfl⟩ := h
      refine (Tryd.strconv_Atoi_ok a0 h1 v hv w).mono ?_
      rintro e w' ⟨rfl, rfl | ⟨t, rfl⟩⟩
      · exact ⟨rfl, Below.refl _ _⟩
      · exact ⟨rfl, Lib.bytesWorld_below _ _ _⟩
    · cases h
  · cases h

/-- at least one byte, and digits alone -/
def digB (s : ByteArray) : Bool := !s.data.toList.isEmpty && s.data.toList.all (fun c => decide (48 ≤ c.toNat) && decide (c.toNat ≤ 57))
def length_digits.f (a0 : ByteArray) : Option Bool := some (digB a0)
theorem digB_false {s : ByteArray} (k : Nat) (h : k < s.size) (hd : ¬ (48 ≤ (s[k]'h).toNat ∧ (s[k]'h).toNat ≤ 57)) : digB s = false := by
  unfold digB
  rw [Bool.and_eq_false_iff]
  right
  rw [List.all_eq_false]
  refine ⟨s[k]'h, ?_, ?_⟩
  · have : s[k]'h = s.data.toList[k]'(by simpa using h) := by simp [ByteArray.getElem_eq_getElem_data]
    rw [this]
    exact List.getElem_mem _
  · simp only [Bool.and_eq_true, decide_eq_true_eq]
    exact hd
theorem digB_true {s : ByteArray} (h0 : s.data.toList.isEmpty = false) (h : ∀ j (hj : j < s.size), 48 ≤ (s[j]'hj).toNat ∧ (s[j]'hj).toNat ≤ 57) : digB s = true := by
  unfold digB
  rw [h0, Bool.not_false, Bool.true_and, List.all_eq_true]
  intro c hc
  obtain ⟨j, hj, rfl⟩ := List.getElem_of_mem hc
  have hj' : j < s.size := by simpa using hj
  have := h j hj'
  simp only [ByteArray.getElem_eq_getElem_data] at this
  simpa using this
theorem width_pos (s : ByteArray) (pos : Nat) (h : pos < s.size) : 1 ≤ (Utf8.decode s pos).2 := by
  by_cases ha : (s[pos]'h).toNat < 128
  · rw [decode_ascii s pos h ha]
    exact Nat.le_refl _
  · exact (decode_high s pos h (by omega)).2
set_option maxHeartbeats 1000000 in
set_option maxRecDepth 1000000 in
theorem length_digits.calls (a0 : ByteArray) (r : Bool) (w : World) (h : length_digits.f a0 = some r) :
    Calls Tryd.prog 34 #[.string a0] w fun e w' => e = .returned (.bool r) ∧ Below w.heap.size w w' := by
  have hr : digB a0 = r := Option.some.inj h
  clear h
  have HR := Aside0.mk hr
  clear hr
  go_enter Tryd.func34, Tryd.ntmps34
  go_wp2
  go_loopw [7] (fun _ w' => ∃ pos : Nat, w' = w.iter a0 pos ∧ Aside0 (∀ j (hj : j < a0.size), j < pos → 48 ≤ (a0[j]'hj).toNat ∧ (a0[j]'hj).toNat ≤ 57)) (fun _ w' => a0.size - w'.iterPos w.heap.size)
  case atStart => exact ⟨0, rfl, ⟨fun j _ h => by omega⟩⟩
  case round =>
    obtain ⟨pos, rfl, HD⟩ := hrel
    by_cases hp : pos < a0.size
    · have hwd := width_pos a0 pos hp
      by_cases hd : 48 ≤ (a0[pos]'hp).toNat ∧ (a0[pos]'hp).toNat ≤ 57
      · have hdec := decode_ascii a0 pos hp (by omega)
        have hnx : ∀ ty, (Instr.next (.pointer (some ⟨w.heap.size, 0, none⟩)) true ty).run Tryd.prog (w.iter a0 pos) = _ := fun ty => run_next_any w a0 pos ty hp
        rw [hdec] at hnx
        clear hdec hwd
        have HD2 : Aside0 (∀ j (hj : j < a0.size), j < pos + 1 → 48 ≤ (a0[j]'hj).toNat ∧ (a0[j]'hj).toNat ≤ 57) := ⟨fun j hj h => by
          by_cases e : j = pos
          · subst e; exact hd
          · exact HD.out j hj (by omega)⟩
        obtain ⟨hd1, hd2⟩ := hd
        have k1 : decide (((a0[pos]'hp).toNat : Int) < 48) = false := by simp; omega
        have k2 : decide ((57 : Int) < ((a0[pos]'hp).toNat : Int)) = false := by simp; omega
        go_wp2
        go_roundw
        case rel => exact ⟨pos + 1, rfl, HD2⟩
        case measure => simp; omega
      · have hf := digB_false pos hp hd
        rw [hf] at HR
        obtain rfl := HR.out
        clear HR hf
        have hdec : ∃ c : Nat, (Utf8.decode a0 pos).1 = c ∧ (c < 48 ∨ 57 < c) := by
          by_cases ha : (a0[pos]'hp).toNat < 128
          · exact ⟨_, rfl, by rw [decode_ascii a0 pos hp ha]; simp only; omega⟩
          · exact ⟨_, rfl, by have := (decode_high a0 pos hp (by omega)).1; omega⟩
        obtain ⟨c, hc1, hc2⟩ := hdec
        have hnx : ∀ ty, (Instr.next (.pointer (some ⟨w.heap.size, 0, none⟩)) true ty).run Tryd.prog (w.iter a0 pos) = _ := fun ty => run_next_any w a0 pos ty hp
        rw [hc1] at hnx
        clear hc1 hwd hd
        by_cases k0 : c < 48
        · have k1 : decide ((c : Int) < 48) = true := by simp; omega
          clear hc2
          go_wp2
          go_ret
          exact ⟨rfl, (Below.refl _ _).alloc (Nat.le_refl _) _⟩
        · have k1 : decide ((c : Int) < 48) = false := by simp; omega
          have k2 : decide ((57 : Int) < (c : Int)) = true := by simp; omega
          clear hc2
          go_wp2
          go_ret
          exact ⟨rfl, (Below.refl _ _).alloc (Nat.le_refl _) _⟩
    · have hnx : ∀ ty, (Instr.next (.pointer (some ⟨w.heap.size, 0, none⟩)) true ty).run Tryd.prog (w.iter a0 pos) = _ := fun ty => run_next_end w a0 pos ty hp
      cases he : a0.data.toList.isEmpty with
      | false =>
        have ht := digB_true he (fun j hj => HD.out j hj (by omega))
        rw [ht] at HR
        obtain rfl := HR.out
        clear HR ht
        go_wp2
        go_ret
        exact ⟨by show Ending.returned (.bool (!a0.toList.isEmpty)) = _; rw [ByteArray.toList_eq, he]; rfl, (Below.refl _ _).alloc (Nat.le_refl _) _⟩
      | true =>
        have ht : digB a0 = false := by unfold digB; rw [he]; rfl
        rw [ht] at HR
        obtain rfl := HR.out
        clear HR ht
        go_wp2
        go_ret
        exact ⟨by show Ending.returned (.bool (!a0.toList.isEmpty)) = _; rw [ByteArray.toList_eq, he]; rfl, (Below.refl _ _).alloc (Nat.le_refl _) _⟩

end Go.Proofs.YtignpfhlagfijaaDoor.Gv
