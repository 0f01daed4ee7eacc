/-
  Dimensions: seven whole numbers, as a function of their places.
-/
import Derived.Test.YtjnheoelcahkaaaDoorGiven
set_option linter.unusedVariables false
set_option linter.unusedSimpArgs false
namespace Go.Proofs.YtjnheoelcahkaaaDoor.Gv
open Go.RowKit Go.Proofs.YtjnheoelcahkaaaDoorW.PrintWords Go.Proofs.YtjnheoelcahkaaaDoorW.PrintLast Go.Proofs.YtjnheoelcahkaaaDoorW.PrintMore
abbrev agg7 (d : Nat → Int) : Array Value := #[.int .i64 (d 0), .int .i64 (d 1), .int .i64 (d 2), .int .i64 (d 3), .int .i64 (d 4), .int .i64 (d 5), .int .i64 (d 6)]
/-- a function of places out of seven numbers -/
def of7 (a b c d e f g : Int) (k : Nat) : Int := match k with | 0 => a | 1 => b | 2 => c | 3 => d | 4 => e | 5 => f | _ => g
theorem lt7 {k : Nat} (h : k < 7) : k = 0 ∨ k = 1 ∨ k = 2 ∨ k = 3 ∨ k = 4 ∨ k = 5 ∨ k = 6 := by omega
theorem index7 (d : Nat → Int) (k : Nat) (h : k < 7) (w : World) : Sem.run Tryd.prog (Instr.index 23 (.agg (agg7 d)) (.int .i64 (k : Int))) w = .ok (.int .i64 (d k)) w := by
  rcases lt7 h with rfl | rfl | rfl | rfl | rfl | rfl | rfl <;> kernel_rfl
/-- a box of a dimension -/
abbrev Box7 (w : World) (b : Nat) (d : Nat → Int) : Prop := w.heap[b]? = some (.cells (agg7 d) 23 (0, 0))
theorem box_cell {w w1 : World} {cs : Array Value} {t : TypeId} (hb : Below (w.alloc (.cells cs t)).heap.size (w.alloc (.cells cs t)) w1) (i : Nat) (v : Value) (hv : cs[i]? = some v) : w1.cell? ⟨w.heap.size, i, none⟩ = some v := by
  rw [hb.cell (by simp)]
  simpa using hv
theorem box_below {w w1 : World} {o : Obj} (hb : Below (w.alloc o).heap.size (w.alloc o) w1) : Below w.heap.size w w1 := ((Below.refl w.heap.size w).alloc (Nat.le_refl _) _).trans (hb.mono (by simp))
theorem box_frozen {w w1 : World} {cs : Array Value} {t : TypeId} (hb : Below (w.alloc (.cells cs t)).heap.size (w.alloc (.cells cs t)) w1) (i : Nat) : w1.frozen? ⟨w.heap.size, i, none⟩ = false := by
  rw [hb.frozen (by simp)]
  simp
theorem keepB {w W w2 : World} (h2 : Below W.heap.size W w2) (h : Below w.heap.size w W) : Below w.heap.size w w2 := below_then h h.size h2
theorem keepC {w w2 : World} (h : Below w.heap.size w w2) {p : Addr} {v : Value} (hc : w.cell? p = some v) : w2.cell? p = some v := (h.cell (World.block_lt_of_cell? w _ hc)).trans hc
theorem box_block {w w1 : World} {o : Obj} (hb : Below (w.alloc o).heap.size (w.alloc o) w1) : w1.heap[w.heap.size]? = some o := blk_below (blk_new w o) hb
/-- one place of a dimension is valid -/
def okD (x : Int) : Bool := decide (-100 ≤ x) && decide (x ≤ 100)
def dimB (d : Nat → Int) : Bool := okD (d 0) && (okD (d 1) && (okD (d 2) && (okD (d 3) && (okD (d 4) && (okD (d 5) && okD (d 6))))))
theorem dimB_iff (d : Nat → Int) : dimB d = true ↔ ∀ j, j < 7 → okD (d j) = true := by
  unfold dimB
  simp only [Bool.and_eq_true]
  constructor
  · rintro ⟨h0, h1, h2, h3, h4, h5, h6⟩ j hj
    rcases lt7 hj with rfl | rfl | rfl | rfl | rfl | rfl | rfl <;> assumption
  · intro h
    exact ⟨h 0 (by omega), h 1 (by omega), h 2 (by omega), h 3 (by omega), h 4 (by omega), h 5 (by omega), h 6 (by omega)⟩
theorem dimB_no {d : Nat → Int} {k : Nat} (hk : k < 7) (h : okD (d k) = false) : dimB d = false := by
  cases e : dimB d with
  | false => rfl
  | true => have := (dimB_iff d).1 e k hk; rw [h] at this; cases this
theorem dimB_yes {d : Nat → Int} (h : ∀ j, j < 7 → okD (d j) = true) : dimB d = true := (dimB_iff d).2 h
set_option maxHeartbeats 1000000 in
theorem unit_Valid.any (d : Nat → Int) (w : World) :
    Calls Tryd.prog 32 #[.agg (agg7 d)] w fun e w' => e = .returned (.bool (dimB d)) ∧ Below w.heap.size w w' := by
  go_enter Tryd.func32, Tryd.ntmps32
  go_wp2
  go_loop [6] (fun i => ∃ k : Nat, k ≤ 7 ∧ i = .int .i64 k ∧ Aside0 (∀ j, j < k → okD (d j) = true)) (fun i => 7 - (intOf i).toNat)
  case atStart => exact ⟨0, Nat.zero_le _, rfl, ⟨fun j hj => absurd hj (Nat.not_lt_zero _)⟩⟩
  case round =>
    obtain ⟨k, hk, rfl, A0⟩ := hrel
    by_cases hlt : k < 7
    · have ix := index7 d k hlt
      cases ho : okD (d k) with
      | true =>
        have A1 : Aside0 (∀ j, j < k + 1 → okD (d j) = true) := ⟨fun j hj => by
          by_cases e : j = k
          · subst e; exact ho
          · exact A0.out j (by omega)⟩
        have h1 : decide (d k < -100) = false := by simp [okD] at ho; simp; omega
        have h2 : decide (100 < d k) = false := by simp [okD] at ho; simp; omega
        clear ho
        go_wp2
        go_round
        case rel => exact ⟨k + 1, by omega, by go_num, A1⟩
        case measure => simp [intOf]; omega
      | false =>
        have hf := dimB_no hlt ho
        have HF := Aside0.mk hf
        clear hf
        by_cases h1 : d k < -100
        · have h1 : decide (d k < -100) = true := by simp; omega
          clear ho
          go_wp2
          go_ret
          rw [HF.out]
          exact ⟨rfl, (Below.refl _ _).alloc (Nat.le_refl _) _⟩
        · have h2 : decide (100 < d k) = true := by simp [okD] at ho; simp; omega
          have h1 : decide (d k < -100) = false := by simp; omega
          clear ho
          go_wp2
          go_ret
          rw [HF.out]
          exact ⟨rfl, (Below.refl _ _).alloc (Nat.le_refl _) _⟩
    · have hy : dimB d = true := dimB_yes (fun j hj => A0.out j (by omega))
      have HF := Aside0.mk hy
      clear hy
      go_wp2
      go_ret
      rw [HF.out]
      exact ⟨rfl, (Below.refl _ _).alloc (Nat.le_refl _) _⟩
end Go.Proofs.YtjnheoelcahkaaaDoor.Gv
