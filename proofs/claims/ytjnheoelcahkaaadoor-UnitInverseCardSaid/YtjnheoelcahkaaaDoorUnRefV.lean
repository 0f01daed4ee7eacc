/-
  vinculumref53.Valid and checked.
-/
import Derived.Test.YtjnheoelcahkaaaDoorUnBase
set_option linter.unusedVariables false
set_option linter.unusedSimpArgs false
namespace Go.Proofs.YtjnheoelcahkaaaDoor.Gv
open Go.RowKit Go.Proofs.YtjnheoelcahkaaaDoorW.PrintWords Go.Proofs.YtjnheoelcahkaaaDoorW.PrintLast Go.Proofs.YtjnheoelcahkaaaDoorW.PrintMore
theorem cell7 {w : World} {b : Nat} {d : Nat → Int} (h : Box7 w b d) {k : Nat} (hk : k < 7) : w.cell? ⟨b, k, none⟩ = some (.int .i64 (d k)) := by
  rcases lt7 hk with rfl | rfl | rfl | rfl | rfl | rfl | rfl
  · exact (blk_cell h 0).trans rfl
  · exact (blk_cell h 1).trans rfl
  · exact (blk_cell h 2).trans rfl
  · exact (blk_cell h 3).trans rfl
  · exact (blk_cell h 4).trans rfl
  · exact (blk_cell h 5).trans rfl
  · exact (blk_cell h 6).trans rfl
set_option maxHeartbeats 1000000 in
theorem vinculumref53_Valid.any (d : Nat → Int) (w : World) :
    Calls Tryd.prog 31 #[.agg (agg7 d)] w fun e w' => e = .returned (.bool (dimB d)) ∧ Below w.heap.size w w' := by
  go_enter Tryd.func31, Tryd.ntmps31
  go_wp2
  go_loop [3] (fun i => ∃ k : Nat, k ≤ 7 ∧ i = .int .i64 k ∧ Aside0 (∀ j, j < k → okD (d j) = true)) (fun i => 7 - (intOf i).toNat)
  case atStart => exact ⟨0, Nat.zero_le _, rfl, ⟨fun j hj => absurd hj (Nat.not_lt_zero _)⟩⟩
  case round =>
    obtain ⟨k, hk, rfl, A0⟩ := hrel
    by_cases hlt : k < 7
    · have hx : (w.alloc (.cells (agg7 d) 23)).cell? ⟨w.heap.size, k, none⟩ = some (.int .i64 (d k)) := cell7 (blk_new w _) hlt
      have hl0 : (0 : Int) ≤ (k : Int) := by omega
      have hl7 : (k : Int) < 7 := by omega
      cases ho : okD (d k) with
      | true =>
        have A1 : Aside0 (∀ j, j < k + 1 → okD (d j) = true) := ⟨fun j hj => by
          by_cases e : j = k
          · subst e; exact ho
          · exact A0.out j (by omega)⟩
        have h1 : decide (d k < -100) = false := by simp [okD] at ho; simp; omega
        have h2 : decide (100 < d k) = false := by simp [okD] at ho; simp; omega
        clear ho
        go_wp2
        go_round
        case rel => exact ⟨k + 1, by omega, by go_num, A1⟩
        case measure => simp [intOf]; omega
      | false =>
        have hf := dimB_no hlt ho
        have HF := Aside0.mk hf
        clear hf
        by_cases h1 : d k < -100
        · have h1 : decide (d k < -100) = true := by simp; omega
          clear ho
          go_wp2
          go_ret
          rw [HF.out]
          exact ⟨rfl, (Below.refl _ _).alloc (Nat.le_refl _) _⟩
        · have h2 : decide (100 < d k) = true := by simp [okD] at ho; simp; omega
          have h1 : decide (d k < -100) = false := by simp; omega
          clear ho
          go_wp2
          go_ret
          rw [HF.out]
          exact ⟨rfl, (Below.refl _ _).alloc (Nat.le_refl _) _⟩
    · have hy : dimB d = true := dimB_yes (fun j hj => A0.out j (by omega))
      have HF := Aside0.mk hy
      clear hy
      go_wp2
      go_ret
      rw [HF.out]
      exact ⟨rfl, (Below.refl _ _).alloc (Nat.le_refl _) _⟩
end Go.Proofs.YtjnheoelcahkaaaDoor.Gv
