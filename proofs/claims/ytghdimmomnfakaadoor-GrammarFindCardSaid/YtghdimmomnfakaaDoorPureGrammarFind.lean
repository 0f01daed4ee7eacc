/-
  The plain law GrammarFind: numbers and lists alone.
-/
import Derived.Test.YtghdimmomnfakaaDoorXx2
import Derived.Test.YtghdimmomnfakaaDoorPureBase
set_option linter.unusedVariables false
namespace Go.Proofs.YtghdimmomnfakaaDoor.Pure
open Go.RowKit Go.Proofs.YtghdimmomnfakaaDoorW.PrintWords Go.Proofs.YtghdimmomnfakaaDoorW.PrintLast Go.Proofs.YtghdimmomnfakaaDoorW.PrintMore Go.Proofs.YtghdimmomnfakaaDoor.Gv Go.Proofs.YtghdimmomnfakaaDoor.X
theorem refFind_l0 (a1 : Int) (a2 : ByteArray) (l : List S38) (hl : l.length ≤ 9223372036854775807) : ∀ n i k, l.length = i + n → n < k → (∀ j, j < i → isFind a1 a2 (rd_T38 l (j : Int)) = false) →
    vinculumref49_Find.l0 k l a1 a2 (i : Int) = grammar_Find.f l a1 a2
  | n, i, 0, _, hk, _ => by omega
  | n, i, k + 1, hi, hk, h0 => by
    rw [vinculumref49_Find.l0]
    by_cases h : (i : Int) < (l.length : Int)
    · rw [if_pos h, if_pos (by omega)]
      have go : isFind a1 a2 (rd_T38 l (i : Int)) = false → vinculumref49_Find.l0 k l a1 a2 (wrap64 ((i : Int) + 1)) = grammar_Find.f l a1 a2 := fun hf => by
        rw [w64 (x := (i : Int) + 1) (by omega) (by omega)]
        obtain ⟨m, rfl⟩ : ∃ m, n = m + 1 := ⟨n - 1, by omega⟩
        exact refFind_l0 a1 a2 l hl m (i + 1) k (by omega) (by omega) (fun j hj => by
          by_cases e : j = i
          · subst e; exact hf
          · exact h0 j (by omega))
      split
      · rename_i c1
        split
        · rename_i c2
          have hp : isFind a1 a2 (rd_T38 l (i : Int)) = true := by simp [isFind, c1, c2]
          have e := idxP_hit (by omega) hp h0
          unfold grammar_Find.f
          rw [e]
          simp
        · rename_i c2
          exact go (by simp [isFind, c2])
      · rename_i c1
        exact go (by simp [isFind, c1])
    · rw [if_neg h]
      have e := idxP_miss (p := isFind a1 a2) (l := l) (fun j hj => h0 j (by omega))
      unfold grammar_Find.f
      rw [e]
      rfl
theorem refFind (a1 : Int) (a2 : ByteArray) (l : List S38) (hl : l.length ≤ 9223372036854775807) (k : Nat) (hk : l.length < k) : vinculumref49_Find.f k l a1 a2 = grammar_Find.f l a1 a2 :=
  refFind_l0 a1 a2 l hl l.length 0 k (by omega) hk (fun j hj => by omega)
theorem refNamed_l0 (a1 : Int) (a2 : ByteArray) (l : List S38) (hl : l.length ≤ 9223372036854775807) : ∀ n i k, l.length = i + n → n < k → (∀ j, j < i → isNamed a1 a2 (rd_T38 l (j : Int)) = false) →
    vinculumref49_Named.l0 k l a1 a2 (i : Int) = grammar_Named.f l a1 a2
  | n, i, 0, _, hk, _ => by omega
  | n, i, k + 1, hi, hk, h0 => by
    rw [vinculumref49_Named.l0]
    by_cases h : (i : Int) < (l.length : Int)
    · rw [if_pos h, if_pos (by omega)]
      have go : isNamed a1 a2 (rd_T38 l (i : Int)) = false → vinculumref49_Named.l0 k l a1 a2 (wrap64 ((i : Int) + 1)) = grammar_Named.f l a1 a2 := fun hf => by
        rw [w64 (x := (i : Int) + 1) (by omega) (by omega)]
        obtain ⟨m, rfl⟩ : ∃ m, n = m + 1 := ⟨n - 1, by omega⟩
        exact refNamed_l0 a1 a2 l hl m (i + 1) k (by omega) (by omega) (fun j hj => by
          by_cases e : j = i
          · subst e; exact hf
          · exact h0 j (by omega))
      split
      · rename_i c1
        split
        · rename_i c2
          have hp : isNamed a1 a2 (rd_T38 l (i : Int)) = true := by simp [isNamed, c1, c2]
          have e := idxP_hit (by omega) hp h0
          unfold grammar_Named.f
          rw [e]
          simp
        · rename_i c2
          exact go (by simp [isNamed, c2])
      · rename_i c1
        exact go (by simp [isNamed, c1])
    · rw [if_neg h]
      have e := idxP_miss (p := isNamed a1 a2) (l := l) (fun j hj => h0 j (by omega))
      unfold grammar_Named.f
      rw [e]
      rfl
theorem refNamed (a1 : Int) (a2 : ByteArray) (l : List S38) (hl : l.length ≤ 9223372036854775807) (k : Nat) (hk : l.length < k) : vinculumref49_Named.f k l a1 a2 = grammar_Named.f l a1 a2 :=
  refNamed_l0 a1 a2 l hl l.length 0 k (by omega) hk (fun j hj => by omega)
theorem GrammarFind (l0 : List S38) (hl : l0.length ≤ 9223372036854775807) (a1 : Int) (_ : (Lit.int .i64 a1).wf = true) (a2 : ByteArray) (_ : a2.size ≤ 140737488351232) : ∃ k, vinculumlaw49_GrammarFind.f k l0 a1 a2 = some true := by
  refine ⟨l0.length + 30, ?_⟩
  obtain ⟨b, hb⟩ := short l0 hl (l0.length + 30) (by omega)
  have j0 : ∀ c, vinculumlaw49_GrammarFind.j0 (l0.length + 30) l0 a1 a2 c = some true := fun c => by
    rw [vinculumlaw49_GrammarFind.j0]
    split
    · rfl
    · rw [refFind a1 a2 l0 hl _ (by omega), refNamed a1 a2 l0 hl _ (by omega)]
      unfold grammar_Find.f grammar_Named.f
      simp
  unfold vinculumlaw49_GrammarFind.f
  rw [awake _ (by omega), Option.bind_some, if_pos rfl, hb, Option.bind_some]
  split
  · exact j0 _
  · exact j0 _
end Go.Proofs.YtghdimmomnfakaaDoor.Pure
