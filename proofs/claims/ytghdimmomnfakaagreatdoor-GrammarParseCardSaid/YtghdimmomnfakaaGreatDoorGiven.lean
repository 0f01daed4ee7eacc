/-
  What this seat's printed walks take as given: contracts of functions that are not printed.
-/
import Derived.Test.YtghdimmomnfakaaGreatDoorProg
import Derived.Below
import Derived.Deep.Draws
import Derived.Deep.AppendLies
import Derived.Maps.AppendAt
import Derived.OwnWalk
import Derived.Laws.BytesArg
import Derived.Laws.MakeOwn
import Derived.Laws.OwnMore
import Derived.Deep.OwnRows
import Derived.Tactics
import Derived.Lib.ConvBytes
import Derived.Laws.Slices
import Derived.WalkKit
import Derived.KernelRfl
import Derived.RowKit3
import Derived.Deep.LoopGhost
import Derived.Deep.QuietTactic
import Derived.BigQuiet
import Derived.WideLaws
import Derived.Deep.DeepCutAuto
import Derived.Deep.CutBlock
import Derived.Deep.RegionHeld3
import Derived.Laws.Rows
import Derived.Lib.AppendStr
import Derived.ArgAppend
import Derived.Laws.IdiomCopy
import Derived.OrdersHeld
import Derived.Laws.BitsLemmas
import Derived.RowKit
import Derived.Test.YtghdimmomnfakaaGreatDoorWWords
import Derived.Test.YtghdimmomnfakaaGreatDoorWLast
import Derived.Test.YtghdimmomnfakaaGreatDoorWTab
import Derived.Test.YtghdimmomnfakaaGreatDoorWFour
import Derived.Test.YtghdimmomnfakaaGreatDoorWQPut
import Derived.Test.YtghdimmomnfakaaGreatDoorWApart
import Derived.Test.YtghdimmomnfakaaGreatDoorWArr
import Derived.Test.YtghdimmomnfakaaGreatDoorWZeros
import Derived.Test.YtghdimmomnfakaaGreatDoorWFoot
import Derived.Test.YtghdimmomnfakaaGreatDoorWKept
import Derived.Test.YtghdimmomnfakaaGreatDoorWShare
import Derived.Test.YtghdimmomnfakaaGreatDoorWN
import Derived.Test.YtghdimmomnfakaaGreatDoorWFootNe
import Derived.Test.YtghdimmomnfakaaGreatDoorWAt
import Derived.Test.YtghdimmomnfakaaGreatDoorWEqStruct
import Derived.Test.YtghdimmomnfakaaGreatDoorWRepsOne
import Derived.Test.YtghdimmomnfakaaGreatDoorWInv
import Derived.Test.YtghdimmomnfakaaGreatDoorWInvWords
import Derived.Test.YtghdimmomnfakaaGreatDoorWGuard
import Derived.Test.YtghdimmomnfakaaGreatDoorWNEv
import Derived.Test.YtghdimmomnfakaaGreatDoorWMore
import Derived.Lib.SmallJoins
import Derived.Lib.AppendIntMem
import Derived.Lib.AtoiErrMem
import Derived.Lib.LaidTab
import Derived.Laws.RangeAny
import Derived.LoopTactic
import Derived.Test.YtghdimmomnfakaaGreatDoorShelf
import Derived.Test.YtghdimmomnfakaaGreatDoorBJ
set_option linter.unusedVariables false
set_option linter.unusedSimpArgs false
namespace Go.Proofs.YtghdimmomnfakaaGreatDoor.Gv
open Go.RowKit Go.Proofs.YtghdimmomnfakaaGreatDoorW.PrintWords Go.Proofs.YtghdimmomnfakaaGreatDoorW.PrintLast Go.Proofs.YtghdimmomnfakaaGreatDoorW.PrintMore
/-- an error over one whole number's type -/
def errW : Option Int → Value
  | none => .nilIface
  | some c => .iface 0 (.int .i64 c)
theorem errW_none : errW none = .nilIface := rfl
theorem errW_some (c : Int) : errW (some c) = .iface 0 (.int .i64 c) := rfl

/-- What a call may count on in the world: the table of powers of ten, and one number of the library's. -/
structure Gw (w : World) : Prop where
  tab : Lib.TabIs Tryz.prog w "internal/strconv.uint64pow10" .u64 Lib.pow10Tab
  most : ∃ m, w.cell? ⟨0, 0, none⟩ = some (.int .i64 m)
theorem Gw.below {B : Nat} {w w' : World} (h : Gw w) (hb : Below B w w') (hB : w.heap.size ≤ B := by exact Nat.le_refl _) : Gw w' :=
  ⟨Go.Joins.tab_stays (show Tryz.prog.globalNamed "internal/strconv.uint64pow10" = some 3 by kernel_rfl) h.tab hb hB, by
    obtain ⟨m, hm⟩ := h.most
    exact ⟨m, (hb.cell (Nat.lt_of_lt_of_le (World.block_lt_of_cell? w _ hm) hB)).trans hm⟩⟩
theorem Gw.drewN {w : World} (h : Gw w) (n : Nat) : Gw (w.drewN n) := h.below (pw_below_drewN (Below.refl w.heap.size w) n)
theorem Gw.drew {w : World} (h : Gw w) : Gw w.drew := h.below (below_drew (Below.refl w.heap.size w))

def strconv_Itoa.f (a0 : Int) : Option ByteArray := if -9223372036854775808 ≤ a0 then (if a0 ≤ 9223372036854775807 then some ⟨(Lib.itoa a0).toArray⟩ else none) else none
theorem strconv_Itoa.calls (a0 : Int) (r : ByteArray) (w : World) (hG : Gw w) (h : strconv_Itoa.f a0 = some r) :
    Calls Tryz.prog 36 #[.int .i64 a0] w fun e w' => e = .returned (.string r) ∧ Below w.heap.size w w' := by
  unfold strconv_Itoa.f at h
  split at h
  · rename_i h0
    split at h
    · rename_i h1
      obtain rfl := Option.some.inj h
      refine (Tryz.strconv_Itoa a0 h0 h1 w hG.tab).mono ?_
      rintro e w' ⟨rfl, k, os, rfl⟩
      exact ⟨rfl, Lib.below_grow _ _ (Nat.le_refl _) k os⟩
    · cases h
  · cases h


def strings_Contains.f (a0 : ByteArray) (a1 : ByteArray) : Option Bool := if a0.size < 4294967281 then some (Lib.contains a0.data.toList a1.data.toList) else none
theorem strings_Contains.calls (a0 : ByteArray) (a1 : ByteArray) (r : Bool) (w : World) (hG : Gw w) (h : strings_Contains.f a0 a1 = some r) :
    Calls Tryz.prog 51 #[.string a0, .string a1] w fun e w' => e = .returned (.bool r) ∧ Drawn0 w w' := by
  unfold strings_Contains.f at h
  split at h
  · rename_i h0
    obtain rfl := Option.some.inj h
    obtain ⟨m, hm⟩ := hG.most
    refine (Tryz.strings_Contains a0 a1 m w h0 hm).mono ?_
    rintro e w' ⟨rfl, rfl⟩
    exact ⟨rfl, Drawn0.refl _⟩
  · cases h

theorem width_pos (s : ByteArray) (pos : Nat) (h : pos < s.size) : 1 ≤ (Utf8.decode s pos).2 := by
  by_cases ha : (s[pos]'h).toNat < 128
  · rw [decode_ascii s pos h ha]
    exact Nat.le_refl _
  · exact (decode_high s pos h (by omega)).2

/-- a letter -/
def letB (c : UInt8) : Bool := (decide (97 ≤ c.toNat) && decide (c.toNat ≤ 122)) || (decide (65 ≤ c.toNat) && decide (c.toNat ≤ 90))
def nameB (s : ByteArray) : Bool := s.data.toList.all letB && (decide (1 ≤ s.size) && decide (s.size ≤ 16))
def grammar_name.f (a0 : ByteArray) : Option Bool := some (nameB a0)
theorem nameB_false {s : ByteArray} (k : Nat) (h : k < s.size) (hd : letB (s[k]'h) = false) : nameB s = false := by
  unfold nameB
  rw [Bool.and_eq_false_iff]
  left
  rw [List.all_eq_false]
  refine ⟨s[k]'h, ?_, by simp [hd]⟩
  have : s[k]'h = s.data.toList[k]'(by simpa using h) := by simp [ByteArray.getElem_eq_getElem_data]
  rw [this]
  exact List.getElem_mem _
theorem nameB_rest {s : ByteArray} (h : ∀ j (hj : j < s.size), letB (s[j]'hj) = true) : nameB s = (decide (1 ≤ s.size) && decide (s.size ≤ 16)) := by
  unfold nameB
  have : s.data.toList.all letB = true := by
    rw [List.all_eq_true]
    intro c hc
    obtain ⟨j, hj, rfl⟩ := List.getElem_of_mem hc
    have hj' : j < s.size := by simpa using hj
    have := h j hj'
    simp only [ByteArray.getElem_eq_getElem_data] at this
    simpa using this
  rw [this, Bool.true_and]
set_option maxHeartbeats 2000000 in
set_option maxRecDepth 1000000 in
theorem grammar_name.calls (a0 : ByteArray) (r : Bool) (w : World) (h : grammar_name.f a0 = some r) :
    Calls Tryz.prog 38 #[.string a0] w fun e w' => e = .returned (.bool r) ∧ Below w.heap.size w w' := by
  have hr : nameB a0 = r := Option.some.inj h
  clear h
  have HR := Aside0.mk hr
  clear hr
  go_enter Tryz.func38, Tryz.ntmps38
  go_wp2
  go_loopw [7] (fun _ w' => ∃ pos : Nat, w' = w.iter a0 pos ∧ Aside0 (∀ j (hj : j < a0.size), j < pos → letB (a0[j]'hj) = true)) (fun _ w' => a0.size - w'.iterPos w.heap.size)
  case atStart => exact ⟨0, rfl, ⟨fun j _ h => by omega⟩⟩
  case round =>
    obtain ⟨pos, rfl, HD⟩ := hrel
    by_cases hp : pos < a0.size
    · have hwd := width_pos a0 pos hp
      cases hd : letB (a0[pos]'hp) with
      | true =>
        have ha : (97 ≤ (a0[pos]'hp).toNat ∧ (a0[pos]'hp).toNat ≤ 122) ∨ (65 ≤ (a0[pos]'hp).toNat ∧ (a0[pos]'hp).toNat ≤ 90) := by simpa [letB] using hd
        have hdec := decode_ascii a0 pos hp (by omega)
        have hnx : ∀ ty, (Instr.next (.pointer (some ⟨w.heap.size, 0, none⟩)) true ty).run Tryz.prog (w.iter a0 pos) = _ := fun ty => run_next_any w a0 pos ty hp
        rw [hdec] at hnx
        clear hdec hwd
        have HD2 : Aside0 (∀ j (hj : j < a0.size), j < pos + 1 → letB (a0[j]'hj) = true) := ⟨fun j hj h => by
          by_cases e : j = pos
          · subst e; exact hd
          · exact HD.out j hj (by omega)⟩
        clear hd
        rcases ha with ⟨hd1, hd2⟩ | ⟨hd1, hd2⟩
        · have k1 : decide (((a0[pos]'hp).toNat : Int) < 97) = false := by simp; omega
          have k2 : decide ((122 : Int) < ((a0[pos]'hp).toNat : Int)) = false := by simp; omega
          go_wp2
          go_roundw
          case rel => exact ⟨pos + 1, rfl, HD2⟩
          case measure => simp; omega
        · have k1 : decide (((a0[pos]'hp).toNat : Int) < 97) = true := by simp; omega
          have k3 : decide (((a0[pos]'hp).toNat : Int) < 65) = false := by simp; omega
          have k4 : decide ((90 : Int) < ((a0[pos]'hp).toNat : Int)) = false := by simp; omega
          go_wp2
          go_roundw
          case rel => exact ⟨pos + 1, rfl, HD2⟩
          case measure => simp; omega
      | false =>
        have hf := nameB_false pos hp hd
        rw [hf] at HR
        obtain rfl := HR.out
        clear HR hf
        have hdec : ∃ c : Nat, (Utf8.decode a0 pos).1 = c ∧ (c < 65 ∨ (90 < c ∧ c < 97) ∨ 122 < c) := by
          by_cases ha : (a0[pos]'hp).toNat < 128
          · refine ⟨_, rfl, ?_⟩
            rw [decode_ascii a0 pos hp ha]
            simp [letB] at hd
            simp only
            omega
          · exact ⟨_, rfl, by have := (decode_high a0 pos hp (by omega)).1; omega⟩
        obtain ⟨c, hc1, hc2⟩ := hdec
        have hnx : ∀ ty, (Instr.next (.pointer (some ⟨w.heap.size, 0, none⟩)) true ty).run Tryz.prog (w.iter a0 pos) = _ := fun ty => run_next_any w a0 pos ty hp
        rw [hc1] at hnx
        clear hc1 hwd hd
        rcases hc2 with hc | ⟨hc, hc'⟩ | hc
        · have k1 : decide ((c : Int) < 97) = true := by simp; omega
          have k3 : decide ((c : Int) < 65) = true := by simp; omega
          clear hc
          go_wp2
          go_ret
          exact ⟨rfl, (Below.refl _ _).alloc (Nat.le_refl _) _⟩
        · have k1 : decide ((c : Int) < 97) = true := by simp; omega
          have k3 : decide ((c : Int) < 65) = false := by simp; omega
          have k4 : decide ((90 : Int) < (c : Int)) = true := by simp; omega
          clear hc hc'
          go_wp2
          go_ret
          exact ⟨rfl, (Below.refl _ _).alloc (Nat.le_refl _) _⟩
        · have k1 : decide ((c : Int) < 97) = false := by simp; omega
          have k2 : decide ((122 : Int) < (c : Int)) = true := by simp; omega
          have k3 : decide ((c : Int) < 65) = false := by simp; omega
          have k4 : decide ((90 : Int) < (c : Int)) = true := by simp; omega
          clear hc
          go_wp2
          go_ret
          exact ⟨rfl, (Below.refl _ _).alloc (Nat.le_refl _) _⟩
    · have hnx : ∀ ty, (Instr.next (.pointer (some ⟨w.heap.size, 0, none⟩)) true ty).run Tryz.prog (w.iter a0 pos) = _ := fun ty => run_next_end w a0 pos ty hp
      have ht := nameB_rest (fun j hj => HD.out j hj (by omega))
      rw [ht] at HR
      clear ht
      by_cases h1 : 1 ≤ a0.size
      · by_cases h2 : a0.size ≤ 16
        · have hr := HR.out
          rw [decide_eq_true h1, decide_eq_true h2] at hr
          subst hr
          clear HR
          have k1 : decide ((1 : Int) ≤ (a0.size : Int)) = true := by simp; omega
          have k2 : decide ((a0.size : Int) ≤ 16) = true := by simp; omega
          go_wp2
          go_ret
          exact ⟨rfl, (Below.refl _ _).alloc (Nat.le_refl _) _⟩
        · have hr := HR.out
          rw [decide_eq_true h1, decide_eq_false h2] at hr
          subst hr
          clear HR
          have k1 : decide ((1 : Int) ≤ (a0.size : Int)) = true := by simp; omega
          have k2 : decide ((a0.size : Int) ≤ 16) = false := by simp; omega
          go_wp2
          go_ret
          exact ⟨rfl, (Below.refl _ _).alloc (Nat.le_refl _) _⟩
      · have hr := HR.out
        rw [decide_eq_false h1] at hr
        subst hr
        clear HR
        have k1 : decide ((1 : Int) ≤ (a0.size : Int)) = false := by simp; omega
        go_wp2
        go_ret
        exact ⟨rfl, (Below.refl _ _).alloc (Nat.le_refl _) _⟩

end Go.Proofs.YtghdimmomnfakaaGreatDoor.Gv
