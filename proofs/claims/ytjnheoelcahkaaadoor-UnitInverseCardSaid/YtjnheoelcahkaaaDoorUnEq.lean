/-
  Two dimensions compared.
-/
import Derived.Test.YtjnheoelcahkaaaDoorUnRoot
import Derived.ChangeKeysEq
set_option linter.unusedVariables false
set_option linter.unusedSimpArgs false
namespace Go.Proofs.YtjnheoelcahkaaaDoor.Gv
open Go.RowKit Go.Proofs.YtjnheoelcahkaaaDoorW.PrintWords Go.Proofs.YtjnheoelcahkaaaDoorW.PrintLast Go.Proofs.YtjnheoelcahkaaaDoorW.PrintMore
def eqD (a b : Nat → Int) : Bool := a 0 == b 0 && (a 1 == b 1 && (a 2 == b 2 && (a 3 == b 3 && (a 4 == b 4 && (a 5 == b 5 && a 6 == b 6)))))
theorem eqD_iff (a b : Nat → Int) : eqD a b = true ↔ ∀ j, j < 7 → a j = b j := by
  unfold eqD
  simp only [Bool.and_eq_true, beq_iff_eq]
  constructor
  · rintro ⟨h0, h1, h2, h3, h4, h5, h6⟩ j hj
    rcases lt7 hj with rfl | rfl | rfl | rfl | rfl | rfl | rfl <;> assumption
  · intro h
    exact ⟨h 0 (by omega), h 1 (by omega), h 2 (by omega), h 3 (by omega), h 4 (by omega), h 5 (by omega), h 6 (by omega)⟩
theorem eqD_refl (a : Nat → Int) : eqD a a = true := (eqD_iff a a).2 fun _ _ => rfl
theorem part7 (a : Nat → Int) (k : Nat) (h : k < 7) (w : World) : (Go.part 3 (agg7 a) (k * 1)).run Tryd.prog w = .ok (.int .i64 (a k)) w := by
  rcases lt7 h with rfl | rfl | rfl | rfl | rfl | rfl | rfl <;> kernel_rfl
theorem eqItems7 (a b : Nat → Int) (w : World) (d : Nat) : ∀ (l : List Nat), (∀ k ∈ l, k < 7) → (Op.eqItems (d + 1) 3 1 (agg7 a) (agg7 b) l).run Tryd.prog w = .ok (l.all fun k => a k == b k) w
  | [], _ => by simp [Op.eqItems]
  | k :: l, h => by
    have h1 := part7 a k (h k (by simp)) w
    have h2 := part7 b k (h k (by simp)) w
    have h3 := run_equalIn_int (P := Tryd.prog) (w := w) d 3 .i64 .i64 (a k) (b k) Tryd.underlying3
    have ih := eqItems7 a b w d l (fun j hj => h j (by simp [hj]))
    simp only [Op.eqItems, Sem.run_bind, h1, h2, h3, Result.andThen_ok]
    cases e : (a k == b k)
    · simp [e]
    · simp only [Bool.not_true, Bool.false_eq_true, if_false, List.all_cons, e, Bool.true_and]
      exact ih
theorem eq7 (a b : Nat → Int) (w : World) : Sem.run Tryd.prog (Op.equalIn 10000 23 (.agg (agg7 a)) (.agg (agg7 b))) w = .ok (eqD a b) w := by
  obtain ⟨i, hi⟩ := Option.isSome_iff_exists.1 (show (Tryd.prog.info? 3).isSome = true by kernel_rfl)
  have h := run_equalIn_array (P := Tryd.prog) w 9999 (t := 23) (e := 3) (n := 7) (agg7 a) (agg7 b) Tryd.underlying23 hi
  rw [show Tryd.prog.cellsOf 3 = 1 by kernel_rfl, eqItems7 a b w 9998 (List.range 7) (fun k hk => List.mem_range.1 hk)] at h
  rw [h]
  simp [eqD, List.range, List.range.loop]
end Go.Proofs.YtjnheoelcahkaaaDoor.Gv
