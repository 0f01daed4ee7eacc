/-
  The plain law LengthSums: numbers and lists alone.
-/
import Derived.Test.YtignpfhlagfijaaDoorXx5
import Derived.Test.YtignpfhlagfijaaDoorPureBase
namespace Go.Proofs.YtignpfhlagfijaaDoor.Pure
open Go.RowKit Go.Proofs.YtignpfhlagfijaaDoorW.PrintWords Go.Proofs.YtignpfhlagfijaaDoorW.PrintLast Go.Proofs.YtignpfhlagfijaaDoorW.PrintMore Go.Proofs.YtignpfhlagfijaaDoor.Gv Go.Proofs.YtignpfhlagfijaaDoor.X
/-- the sum, step by step -/
def acc : List Int → Int → Int × Int
  | [], s => (s, 0)
  | x :: r, s => if isL (s + x) = true then acc r (s + x) else (0, 2)
def total (l : List Int) : Int × Int := if l.all isL = true then acc l 0 else (0, 1)
theorem rd_at {l : List Int} {i : Nat} (h : i < l.length) : rd l (i : Int) = l[i] := by
  unfold rd
  rw [Int.toNat_natCast, List.getD_eq_getElem?_getD, List.getElem?_eq_getElem h]
  rfl
theorem impl_l1 (l : List Int) (hl : l.all isL = true) (hn : l.length ≤ 1000) (d : Nat) : ∀ (k i : Nat) (s : Int), i + d = l.length → isL s = true → d < k → length_Sum.l1 k s l (l.length : Int) (i : Int) = some (acc (l.drop i) s) := by
  induction d with
  | zero =>
    intro k i s h hs hk
    obtain ⟨k, rfl⟩ : ∃ m, k = m + 1 := ⟨k - 1, by omega⟩
    simp only [length_Sum.l1]
    rw [if_neg (by omega), List.drop_eq_nil_of_le (by omega)]
    rfl
  | succ d ih =>
    intro k i s h hs hk
    obtain ⟨k, rfl⟩ : ∃ m, k = m + 1 := ⟨k - 1, by omega⟩
    have hi : i < l.length := by omega
    have hx : isL l[i] = true := List.all_eq_true.1 hl _ (List.getElem_mem hi)
    have b1 := isL_iff.1 hs
    have b2 := isL_iff.1 hx
    simp only [length_Sum.l1]
    rw [if_pos (by omega), if_pos (by omega), if_pos (by omega), rd_at hi, w64 (x := s + l[i]) (by omega) (by omega), w64 (x := (i : Int) + 1) (by omega) (by omega), impl_valid, List.drop_eq_getElem_cons hi]
    simp only [Option.bind_some, acc]
    split
    · rename_i hv
      exact ih k (i + 1) _ (by omega) hv (by omega)
    · rfl
theorem impl_l0 (l : List Int) (hn : l.length ≤ 1000) (d : Nat) : ∀ (k i : Nat), i + d = l.length → (l.take i).all isL = true → d + l.length + 1 < k → length_Sum.l0 k l l (l.length : Int) (i : Int) = some (total l) := by
  induction d with
  | zero =>
    intro k i h ht hk
    obtain ⟨k, rfl⟩ : ∃ m, k = m + 1 := ⟨k - 1, by omega⟩
    rw [List.take_of_length_le (by omega)] at ht
    simp only [length_Sum.l0]
    rw [if_neg (by omega)]
    have := impl_l1 l ht hn l.length k 0 0 (by omega) (by decide) (by omega)
    rw [List.drop_zero] at this
    unfold total
    rw [if_pos ht]
    exact this
  | succ d ih =>
    intro k i h ht hk
    obtain ⟨k, rfl⟩ : ∃ m, k = m + 1 := ⟨k - 1, by omega⟩
    have hi : i < l.length := by omega
    simp only [length_Sum.l0]
    rw [if_pos (by omega), if_pos (by omega), if_pos (by omega), rd_at hi, w64 (x := (i : Int) + 1) (by omega) (by omega), impl_valid]
    simp only [Option.bind_some]
    split
    · rename_i hv
      refine ih k (i + 1) (by omega) ?_ (by omega)
      rw [List.take_succ_eq_append_getElem hi, List.all_append, ht]
      simp [hv]
    · rename_i hv
      unfold total
      rw [if_neg (fun hall => hv (List.all_eq_true.1 hall _ (List.getElem_mem hi)))]
theorem ref_l1 (l : List Int) (hl : l.all isL = true) (hn : l.length ≤ 1000) (d : Nat) : ∀ (k i : Nat) (s : Int), i + d = l.length → isL s = true → d < k → vinculumref01_Sum.l1 k l s (i : Int) = some (acc (l.drop i) s) := by
  induction d with
  | zero =>
    intro k i s h hs hk
    obtain ⟨k, rfl⟩ : ∃ m, k = m + 1 := ⟨k - 1, by omega⟩
    simp only [vinculumref01_Sum.l1]
    rw [if_neg (by omega), List.drop_eq_nil_of_le (by omega)]
    rfl
  | succ d ih =>
    intro k i s h hs hk
    obtain ⟨k, rfl⟩ : ∃ m, k = m + 1 := ⟨k - 1, by omega⟩
    have hi : i < l.length := by omega
    have hx : isL l[i] = true := List.all_eq_true.1 hl _ (List.getElem_mem hi)
    have b1 := isL_iff.1 hs
    have b2 := isL_iff.1 hx
    simp only [vinculumref01_Sum.l1]
    rw [if_pos (by omega), if_pos (by omega), rd_at hi, w64 (x := s + l[i]) (by omega) (by omega), w64 (x := (i : Int) + 1) (by omega) (by omega), ref_valid, List.drop_eq_getElem_cons hi]
    simp only [Option.bind_some, acc]
    split
    · rename_i hv
      exact ih k (i + 1) _ (by omega) hv (by omega)
    · rfl
theorem ref_l0 (l : List Int) (hn : l.length ≤ 1000) (d : Nat) : ∀ (k i : Nat), i + d = l.length → (l.take i).all isL = true → d + l.length + 1 < k → vinculumref01_Sum.l0 k l (i : Int) = some (total l) := by
  induction d with
  | zero =>
    intro k i h ht hk
    obtain ⟨k, rfl⟩ : ∃ m, k = m + 1 := ⟨k - 1, by omega⟩
    rw [List.take_of_length_le (by omega)] at ht
    simp only [vinculumref01_Sum.l0]
    rw [if_neg (by omega)]
    have := ref_l1 l ht hn l.length k 0 0 (by omega) (by decide) (by omega)
    rw [List.drop_zero] at this
    unfold total
    rw [if_pos ht]
    exact this
  | succ d ih =>
    intro k i h ht hk
    obtain ⟨k, rfl⟩ : ∃ m, k = m + 1 := ⟨k - 1, by omega⟩
    have hi : i < l.length := by omega
    simp only [vinculumref01_Sum.l0]
    rw [if_pos (by omega), if_pos (by omega), rd_at hi, w64 (x := (i : Int) + 1) (by omega) (by omega), ref_valid]
    simp only [Option.bind_some]
    split
    · rename_i hv
      refine ih k (i + 1) (by omega) ?_ (by omega)
      rw [List.take_succ_eq_append_getElem hi, List.all_append, ht]
      simp [hv]
    · rename_i hv
      unfold total
      rw [if_neg (fun hall => hv (List.all_eq_true.1 hall _ (List.getElem_mem hi)))]
theorem impl_sum (l : List Int) (hn : l.length ≤ 1000) (k : Nat) (hk : 2 * l.length + 1 < k) : length_Sum.f k l = some (total l) :=
  impl_l0 l hn l.length k 0 (by omega) (by simp) (by omega)
theorem ref_sum (l : List Int) (hn : l.length ≤ 1000) (k : Nat) (hk : 2 * l.length + 1 < k) : vinculumref01_Sum.f k l = some (total l) :=
  ref_l0 l hn l.length k 0 (by omega) (by simp) (by omega)
theorem LengthSums (l0 : List Int) (_ : l0.length ≤ maxLen) (_ : l0.length * 8 ≤ 140737488351232) (_ : ∀ x ∈ l0, (Lit.int .i64 x).wf = true) : ∃ k, vinculumlaw01_LengthSums.f k l0 = some true := by
  refine ⟨200, ?_⟩
  unfold vinculumlaw01_LengthSums.f
  rw [awake 200 (by omega)]
  simp only [Option.bind_some, if_true]
  split
  · rfl
  · rename_i h
    rw [if_pos (by simp; omega), List.nil_append, impl_sum l0 (by omega) 200 (by omega), ref_sum l0 (by omega) 200 (by omega)]
    simp only [Option.bind_some, if_true, bne_self_eq_false, vinculumlaw01_LengthSums.j0]
    rw [if_neg (by decide)]
    split
    · rfl
    · rw [if_pos (by omega), if_pos (by omega)]
      unfold length_Add.f vinculumref01_Add.f
      rw [impl_sum _ (by simp) _ (by simp), ref_sum _ (by simp) _ (by simp)]
      simp
end Go.Proofs.YtignpfhlagfijaaDoor.Pure
