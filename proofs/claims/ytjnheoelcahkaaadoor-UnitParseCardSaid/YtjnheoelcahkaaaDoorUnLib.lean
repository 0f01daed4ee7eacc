/-
  What unit.Parse asks of the library: Split, Cut, Atoi, slices.Index.
-/
import Derived.Test.YtjnheoelcahkaaaDoorUnText
import Derived.Test.YtjnheoelcahkaaaDoorShelf2
import Derived.Test.YtjnheoelcahkaaaDoorSpl
import Derived.Shelf.Strconv.AtoiAll
set_option linter.unusedVariables false
set_option linter.unusedSimpArgs false
namespace Go.Proofs.YtjnheoelcahkaaaDoor.Gv
open Go.RowKit Go.Proofs.YtjnheoelcahkaaaDoorW.PrintWords Go.Proofs.YtjnheoelcahkaaaDoorW.PrintLast Go.Proofs.YtjnheoelcahkaaaDoorW.PrintMore
/-- What a call may count on besides: the two errors of the library's. -/
structure Ge (w : World) : Prop where
  g : Gw w
  synt : ∃ ev, w.cell? ⟨1, 0, none⟩ = some ev ∧ (ev = .nilIface ∨ ∃ te pe, ev = .iface te pe)
  rang : ∃ ev, w.cell? ⟨2, 0, none⟩ = some ev ∧ (ev = .nilIface ∨ ∃ te pe, ev = .iface te pe)
theorem Ge.below {w w' : World} (h : Ge w) (hb : Below w.heap.size w w') : Ge w' :=
  ⟨Gw.below h.g hb, by obtain ⟨ev, h1, h2⟩ := h.synt; exact ⟨ev, keepC hb h1, h2⟩, by obtain ⟨ev, h1, h2⟩ := h.rang; exact ⟨ev, keepC hb h1, h2⟩⟩
theorem below_drewN' {w : World} (n : Nat) : Below w.heap.size w (w.drewN n) := pw_below_drewN (Below.refl _ _) n
/-- the number of a text, if it is one that an int holds -/
def numO (l : List UInt8) : Option Int := match Lib.atoiAll l with | .ok v => some v | _ => none
theorem atoi_ok (s : ByteArray) (v : Int) (hs : s.size ≤ 281474976710656) (h : numO s.data.toList = some v) (w : World) :
    Calls Tryd.prog 59 #[.string s] w fun e w' => e = .returned (.tuple #[.int .i64 v, .nilIface]) ∧ Below w.heap.size w w' := by
  unfold numO at h
  split at h
  · rename_i v' hv
    obtain rfl := Option.some.inj h
    refine (Tryd.strconv_Atoi_ok s (by omega) v' hv w).mono ?_
    rintro e w' ⟨rfl, rfl | ⟨t, rfl⟩⟩
    · exact ⟨rfl, Below.refl _ _⟩
    · exact ⟨rfl, Lib.bytesWorld_below _ _ _⟩
  · cases h
theorem atoi_no (s : ByteArray) (hs : s.size ≤ 281474976710656) (h : numO s.data.toList = none) (w : World) (hG : Ge w) :
    Calls Tryd.prog 59 #[.string s] w fun e w' => ∃ (v : Int) (N : Nat), e = .returned (.tuple #[.int .i64 v, .iface 124 (.pointer (some ⟨N, 0, none⟩))]) ∧ Below w.heap.size w w' := by
  unfold numO at h
  split at h
  · cases h
  · rename_i hno
    cases ha : Lib.atoiAll s.data.toList with
    | ok v => exact absurd ha (hno v)
    | range =>
      obtain ⟨ev, h1, h2⟩ := hG.rang
      refine (Tryd.strconv_Atoi_range s hs ha ev w h1 h2).mono ?_
      rintro e w' ⟨N, rfl, _, _, hb⟩
      exact ⟨_, N, rfl, hb⟩
    | _ =>
      obtain ⟨ev, h1, h2⟩ := hG.synt
      refine (Any.strconv_Atoi_syntax Tryd.laysC172 s hs ha ev w h1 h2).mono ?_
      rintro e w' ⟨N, rfl, _, _, hb⟩
      exact ⟨_, N, rfl, hb⟩
theorem cut_any (s sep : ByteArray) (w : World) (hG : Gw w) (hs : s.size < 4294967281) :
    Calls Tryd.prog 57 #[.string s, .string sep] w fun e w' => e = .returned (.tuple #[.string ⟨(Lib.cut s.data.toList sep.data.toList).1.toArray⟩, .string ⟨(Lib.cut s.data.toList sep.data.toList).2.1.toArray⟩, .bool (Lib.cut s.data.toList sep.data.toList).2.2]) ∧ Below w.heap.size w w' := by
  obtain ⟨m, hm⟩ := hG.most
  refine (Tryd.strings_Cut s sep m w hs hm).mono ?_
  rintro e w' ⟨rfl, n, rfl⟩
  exact ⟨rfl, below_drewN' n⟩
/-- the k-th string -/
def nthS (l : List ByteArray) (k : Nat) : ByteArray := l.getD k ByteArray.empty
/-- the strings of a list lie in a block -/
def Strs (w : World) (b : Nat) (l : List ByteArray) (t : TypeId) : Prop := w.heap[b]? = some (.cells (l.map Value.string).toArray t (0, 0))
theorem Strs.below {w w1 : World} {b : Nat} {l : List ByteArray} {t : TypeId} (h : Strs w b l t) (hb : Below w.heap.size w w1) : Strs w1 b l t := blk_below h hb
theorem Strs.cell {w : World} {b : Nat} {l : List ByteArray} {t : TypeId} (h : Strs w b l t) {k : Nat} (hk : k < l.length) : w.cell? ⟨b, k, none⟩ = some (.string (nthS l k)) := by
  refine (blk_cell h k).trans ?_
  unfold nthS
  simp [hk]
theorem split_any (s : ByteArray) (c : UInt8) (w : World) (hG : Gw w) (hs : s.size < 4294967281) :
    Calls Tryd.prog 56 #[.string s, .string ⟨#[c]⟩] w fun e w' => ∃ l : List ByteArray, l.map (·.data.toList) = Spl.splitL c s.data.toList ∧ e = .returned (.slice (some ⟨w.heap.size, 0, none⟩) l.length l.length) ∧ Strs w' w.heap.size l 9 ∧ Below w.heap.size w w' := by
  obtain ⟨m, hm⟩ := hG.most
  refine (Tryd.strings_Split s ⟨#[c]⟩ m w hs hm (Nat.le_refl 1)).mono ?_
  rintro e w' ⟨rfl, rfl⟩
  have h := Spl.splitB_eq c s
  have hl := Spl.splitB_len c s
  exact ⟨_, h, by rw [hl], blk_new _ _, (Below.refl _ _).alloc (Nat.le_refl _) _⟩
end Go.Proofs.YtjnheoelcahkaaaDoor.Gv
