/-
  vinculumlaw53.numbers; two values compared.
-/
import Derived.Test.YtjnheoelcahkaaaDoorUnResc3
import Derived.Test.YtjnheoelcahkaaaDoorUnEq
set_option linter.unusedVariables false
set_option linter.unusedSimpArgs false
namespace Go.Proofs.YtjnheoelcahkaaaDoor.Rat
open Go.RowKit Go.Proofs.YtjnheoelcahkaaaDoorW.PrintWords Go.Proofs.YtjnheoelcahkaaaDoorW.PrintLast Go.Proofs.YtjnheoelcahkaaaDoorW.PrintMore Go.Proofs.YtjnheoelcahkaaaDoor.Gv
open Go.Proofs.YtjnheoelcahkaaaDoor.R
theorem eq7d (D : Nat) (a b : Nat → Int) (w : World) : (Op.equalIn (D + 2) 23 (.agg (agg7 a)) (.agg (agg7 b))).run Tryd.prog w = .ok (eqD a b) w := by
  obtain ⟨i, hi⟩ := Option.isSome_iff_exists.1 (show (Tryd.prog.info? 3).isSome = true by kernel_rfl)
  have h := run_equalIn_array (P := Tryd.prog) w (D + 1) (t := 23) (e := 3) (n := 7) (agg7 a) (agg7 b) Tryd.underlying23 hi
  rw [show Tryd.prog.cellsOf 3 = 1 by kernel_rfl, eqItems7 a b w D (List.range 7) (fun k hk => List.mem_range.1 hk)] at h
  rw [h]
  simp [eqD, List.range, List.range.loop]
def eqV (n m : Int) (d : Nat → Int) (n' m' : Int) (d' : Nat → Int) : Bool := n == n' && (m == m' && eqD d d')
theorem eqV_refl (n m : Int) (d : Nat → Int) : eqV n m d n m d = true := by unfold eqV; rw [eqD_refl]; simp
theorem eq9 (n m : Int) (d : Nat → Int) (n' m' : Int) (d' : Nat → Int) (w : World) : Sem.run Tryd.prog (Op.equalIn 10000 35 (.agg (val9 n m d)) (.agg (val9 n' m' d'))) w = .ok (eqV n m d n' m' d') w := by
  refine eqA_of (d := 9999) Tryd.underlying35 (by kernel_rfl) ?_
  refine eqf_cons (by rfl) (by go_simp; rfl) (by go_simp; rfl) (by go_simp) ?_
  refine eqf_cons (by rfl) (by go_simp; rfl) (by go_simp; rfl) (by go_simp) ?_
  exact eqf_last (by rfl) (by go_simp) (by go_simp) (eq7d 9997 d d' w)
abbrev aggU (s : Nat → Int × Int) : Array Value := #[.int .u8 (s 0).1, .int .u8 (s 0).2, .int .u8 (s 1).1, .int .u8 (s 1).2, .int .u8 (s 2).1, .int .u8 (s 2).2, .int .u8 (s 3).1, .int .u8 (s 3).2, .int .u8 (s 4).1, .int .u8 (s 4).2, .int .u8 (s 5).1, .int .u8 (s 5).2, .int .u8 (s 6).1, .int .u8 (s 6).2]
theorem cellU {w : World} {g t : Nat} {s : Nat → Int × Int} (h : w.heap[g]? = some (.cells (aggU s) t (0, 0))) {k : Nat} (hk : k < 7) : w.cell? ⟨g, k * 2, none⟩ = some (.int .u8 (s k).1) ∧ w.cell? ⟨g, k * 2 + 1, none⟩ = some (.int .u8 (s k).2) := by
  rcases lt7 hk with rfl | rfl | rfl | rfl | rfl | rfl | rfl <;> exact ⟨(blk_cell h _).trans rfl, (blk_cell h _).trans rfl⟩
def numF (s : Nat → Int × Int) (k : Nat) : Int × Int := ((mkz (1 + (s k).1) (1 + (s k).2)).1, (mkz (1 + (s k).1) (1 + (s k).2)).2.1)
def upF (f : Nat → Int × Int) (k j : Nat) : Int × Int := if j < k then f j else (0, 0)
theorem upF_zero (f : Nat → Int × Int) : upF f 0 = fun _ => (0, 0) := by funext j; exact if_neg (Nat.not_lt_zero j)
def putF (f : Nat → Int × Int) (k : Nat) (v : Int × Int) (j : Nat) : Int × Int := if j = k then v else f j
theorem upF_succ (f : Nat → Int × Int) (k : Nat) : putF (upF f k) k (f k) = upF f (k + 1) := by
  funext j
  unfold putF upF
  by_cases h : j = k
  · subst h; rw [if_pos rfl, if_pos (by omega)]
  · rw [if_neg h]
    by_cases h2 : j < k
    · rw [if_pos h2, if_pos (by omega)]
    · rw [if_neg h2, if_neg (by omega)]
theorem agg14_up (f : Nat → Int × Int) : agg14 (upF f 7) = agg14 f := rfl
theorem set14 {w : World} {g t : Nat} {f : Nat → Int × Int} (h : Box14 w g t f) {k : Nat} (hk : k < 7) (x y : Int) : Box14 ((w.setCell ⟨g, k * 2, none⟩ (.int .i64 x)).setCell ⟨g, k * 2 + 1, none⟩ (.int .i64 y)) g t (putF f k (x, y)) := by
  have h1 : (w.setCell ⟨g, k * 2, none⟩ (.int .i64 x)).heap[g]? = some (.cells ((agg14 f).setIfInBounds (k * 2) (.int .i64 x)) t (0, 0)) := blk_put h _ _ rfl
  refine blk_put h1 _ _ ?_
  rcases lt7 hk with rfl | rfl | rfl | rfl | rfl | rfl | rfl <;> rfl
abbrev st14 (w : World) (g : Nat) (f : Nat → Int × Int) : World := ((((((((((((((w.setCell ⟨g, 0, none⟩ (.int .i64 (f 0).1)).setCell ⟨g, 1, none⟩ (.int .i64 (f 0).2)).setCell ⟨g, 2, none⟩ (.int .i64 (f 1).1)).setCell ⟨g, 3, none⟩ (.int .i64 (f 1).2)).setCell ⟨g, 4, none⟩ (.int .i64 (f 2).1)).setCell ⟨g, 5, none⟩ (.int .i64 (f 2).2)).setCell ⟨g, 6, none⟩ (.int .i64 (f 3).1)).setCell ⟨g, 7, none⟩ (.int .i64 (f 3).2)).setCell ⟨g, 8, none⟩ (.int .i64 (f 4).1)).setCell ⟨g, 9, none⟩ (.int .i64 (f 4).2)).setCell ⟨g, 10, none⟩ (.int .i64 (f 5).1)).setCell ⟨g, 11, none⟩ (.int .i64 (f 5).2)).setCell ⟨g, 12, none⟩ (.int .i64 (f 6).1)).setCell ⟨g, 13, none⟩ (.int .i64 (f 6).2))
theorem store14 {w : World} {g t : Nat} {f0 : Nat → Int × Int} (h : Box14 w g t f0) (f : Nat → Int × Int) : Box14 (st14 w g f) g t f := by
  have h0 : (w.setCell ⟨g, 0, none⟩ (.int .i64 (f 0).1)).heap[g]? = some (.cells #[.int .i64 (f 0).1, .int .i64 (f0 0).2, .int .i64 (f0 1).1, .int .i64 (f0 1).2, .int .i64 (f0 2).1, .int .i64 (f0 2).2, .int .i64 (f0 3).1, .int .i64 (f0 3).2, .int .i64 (f0 4).1, .int .i64 (f0 4).2, .int .i64 (f0 5).1, .int .i64 (f0 5).2, .int .i64 (f0 6).1, .int .i64 (f0 6).2] t (0, 0)) := blk_put h 0 _ (by simp)
  have h1 : ((w.setCell ⟨g, 0, none⟩ (.int .i64 (f 0).1)).setCell ⟨g, 1, none⟩ (.int .i64 (f 0).2)).heap[g]? = some (.cells #[.int .i64 (f 0).1, .int .i64 (f 0).2, .int .i64 (f0 1).1, .int .i64 (f0 1).2, .int .i64 (f0 2).1, .int .i64 (f0 2).2, .int .i64 (f0 3).1, .int .i64 (f0 3).2, .int .i64 (f0 4).1, .int .i64 (f0 4).2, .int .i64 (f0 5).1, .int .i64 (f0 5).2, .int .i64 (f0 6).1, .int .i64 (f0 6).2] t (0, 0)) := blk_put h0 1 _ (by simp)
  have h2 : (((w.setCell ⟨g, 0, none⟩ (.int .i64 (f 0).1)).setCell ⟨g, 1, none⟩ (.int .i64 (f 0).2)).setCell ⟨g, 2, none⟩ (.int .i64 (f 1).1)).heap[g]? = some (.cells #[.int .i64 (f 0).1, .int .i64 (f 0).2, .int .i64 (f 1).1, .int .i64 (f0 1).2, .int .i64 (f0 2).1, .int .i64 (f0 2).2, .int .i64 (f0 3).1, .int .i64 (f0 3).2, .int .i64 (f0 4).1, .int .i64 (f0 4).2, .int .i64 (f0 5).1, .int .i64 (f0 5).2, .int .i64 (f0 6).1, .int .i64 (f0 6).2] t (0, 0)) := blk_put h1 2 _ (by simp)
  have h3 : ((((w.setCell ⟨g, 0, none⟩ (.int .i64 (f 0).1)).setCell ⟨g, 1, none⟩ (.int .i64 (f 0).2)).setCell ⟨g, 2, none⟩ (.int .i64 (f 1).1)).setCell ⟨g, 3, none⟩ (.int .i64 (f 1).2)).heap[g]? = some (.cells #[.int .i64 (f 0).1, .int .i64 (f 0).2, .int .i64 (f 1).1, .int .i64 (f 1).2, .int .i64 (f0 2).1, .int .i64 (f0 2).2, .int .i64 (f0 3).1, .int .i64 (f0 3).2, .int .i64 (f0 4).1, .int .i64 (f0 4).2, .int .i64 (f0 5).1, .int .i64 (f0 5).2, .int .i64 (f0 6).1, .int .i64 (f0 6).2] t (0, 0)) := blk_put h2 3 _ (by simp)
  have h4 : (((((w.setCell ⟨g, 0, none⟩ (.int .i64 (f 0).1)).setCell ⟨g, 1, none⟩ (.int .i64 (f 0).2)).setCell ⟨g, 2, none⟩ (.int .i64 (f 1).1)).setCell ⟨g, 3, none⟩ (.int .i64 (f 1).2)).setCell ⟨g, 4, none⟩ (.int .i64 (f 2).1)).heap[g]? = some (.cells #[.int .i64 (f 0).1, .int .i64 (f 0).2, .int .i64 (f 1).1, .int .i64 (f 1).2, .int .i64 (f 2).1, .int .i64 (f0 2).2, .int .i64 (f0 3).1, .int .i64 (f0 3).2, .int .i64 (f0 4).1, .int .i64 (f0 4).2, .int .i64 (f0 5).1, .int .i64 (f0 5).2, .int .i64 (f0 6).1, .int .i64 (f0 6).2] t (0, 0)) := blk_put h3 4 _ (by simp)
  have h5 : ((((((w.setCell ⟨g, 0, none⟩ (.int .i64 (f 0).1)).setCell ⟨g, 1, none⟩ (.int .i64 (f 0).2)).setCell ⟨g, 2, none⟩ (.int .i64 (f 1).1)).setCell ⟨g, 3, none⟩ (.int .i64 (f 1).2)).setCell ⟨g, 4, none⟩ (.int .i64 (f 2).1)).setCell ⟨g, 5, none⟩ (.int .i64 (f 2).2)).heap[g]? = some (.cells #[.int .i64 (f 0).1, .int .i64 (f 0).2, .int .i64 (f 1).1, .int .i64 (f 1).2, .int .i64 (f 2).1, .int .i64 (f 2).2, .int .i64 (f0 3).1, .int .i64 (f0 3).2, .int .i64 (f0 4).1, .int .i64 (f0 4).2, .int .i64 (f0 5).1, .int .i64 (f0 5).2, .int .i64 (f0 6).1, .int .i64 (f0 6).2] t (0, 0)) := blk_put h4 5 _ (by simp)
  have h6 : (((((((w.setCell ⟨g, 0, none⟩ (.int .i64 (f 0).1)).setCell ⟨g, 1, none⟩ (.int .i64 (f 0).2)).setCell ⟨g, 2, none⟩ (.int .i64 (f 1).1)).setCell ⟨g, 3, none⟩ (.int .i64 (f 1).2)).setCell ⟨g, 4, none⟩ (.int .i64 (f 2).1)).setCell ⟨g, 5, none⟩ (.int .i64 (f 2).2)).setCell ⟨g, 6, none⟩ (.int .i64 (f 3).1)).heap[g]? = some (.cells #[.int .i64 (f 0).1, .int .i64 (f 0).2, .int .i64 (f 1).1, .int .i64 (f 1).2, .int .i64 (f 2).1, .int .i64 (f 2).2, .int .i64 (f 3).1, .int .i64 (f0 3).2, .int .i64 (f0 4).1, .int .i64 (f0 4).2, .int .i64 (f0 5).1, .int .i64 (f0 5).2, .int .i64 (f0 6).1, .int .i64 (f0 6).2] t (0, 0)) := blk_put h5 6 _ (by simp)
  have h7 : ((((((((w.setCell ⟨g, 0, none⟩ (.int .i64 (f 0).1)).setCell ⟨g, 1, none⟩ (.int .i64 (f 0).2)).setCell ⟨g, 2, none⟩ (.int .i64 (f 1).1)).setCell ⟨g, 3, none⟩ (.int .i64 (f 1).2)).setCell ⟨g, 4, none⟩ (.int .i64 (f 2).1)).setCell ⟨g, 5, none⟩ (.int .i64 (f 2).2)).setCell ⟨g, 6, none⟩ (.int .i64 (f 3).1)).setCell ⟨g, 7, none⟩ (.int .i64 (f 3).2)).heap[g]? = some (.cells #[.int .i64 (f 0).1, .int .i64 (f 0).2, .int .i64 (f 1).1, .int .i64 (f 1).2, .int .i64 (f 2).1, .int .i64 (f 2).2, .int .i64 (f 3).1, .int .i64 (f 3).2, .int .i64 (f0 4).1, .int .i64 (f0 4).2, .int .i64 (f0 5).1, .int .i64 (f0 5).2, .int .i64 (f0 6).1, .int .i64 (f0 6).2] t (0, 0)) := blk_put h6 7 _ (by simp)
  have h8 : (((((((((w.setCell ⟨g, 0, none⟩ (.int .i64 (f 0).1)).setCell ⟨g, 1, none⟩ (.int .i64 (f 0).2)).setCell ⟨g, 2, none⟩ (.int .i64 (f 1).1)).setCell ⟨g, 3, none⟩ (.int .i64 (f 1).2)).setCell ⟨g, 4, none⟩ (.int .i64 (f 2).1)).setCell ⟨g, 5, none⟩ (.int .i64 (f 2).2)).setCell ⟨g, 6, none⟩ (.int .i64 (f 3).1)).setCell ⟨g, 7, none⟩ (.int .i64 (f 3).2)).setCell ⟨g, 8, none⟩ (.int .i64 (f 4).1)).heap[g]? = some (.cells #[.int .i64 (f 0).1, .int .i64 (f 0).2, .int .i64 (f 1).1, .int .i64 (f 1).2, .int .i64 (f 2).1, .int .i64 (f 2).2, .int .i64 (f 3).1, .int .i64 (f 3).2, .int .i64 (f 4).1, .int .i64 (f0 4).2, .int .i64 (f0 5).1, .int .i64 (f0 5).2, .int .i64 (f0 6).1, .int .i64 (f0 6).2] t (0, 0)) := blk_put h7 8 _ (by simp)
  have h9 : ((((((((((w.setCell ⟨g, 0, none⟩ (.int .i64 (f 0).1)).setCell ⟨g, 1, none⟩ (.int .i64 (f 0).2)).setCell ⟨g, 2, none⟩ (.int .i64 (f 1).1)).setCell ⟨g, 3, none⟩ (.int .i64 (f 1).2)).setCell ⟨g, 4, none⟩ (.int .i64 (f 2).1)).setCell ⟨g, 5, none⟩ (.int .i64 (f 2).2)).setCell ⟨g, 6, none⟩ (.int .i64 (f 3).1)).setCell ⟨g, 7, none⟩ (.int .i64 (f 3).2)).setCell ⟨g, 8, none⟩ (.int .i64 (f 4).1)).setCell ⟨g, 9, none⟩ (.int .i64 (f 4).2)).heap[g]? = some (.cells #[.int .i64 (f 0).1, .int .i64 (f 0).2, .int .i64 (f 1).1, .int .i64 (f 1).2, .int .i64 (f 2).1, .int .i64 (f 2).2, .int .i64 (f 3).1, .int .i64 (f 3).2, .int .i64 (f 4).1, .int .i64 (f 4).2, .int .i64 (f0 5).1, .int .i64 (f0 5).2, .int .i64 (f0 6).1, .int .i64 (f0 6).2] t (0, 0)) := blk_put h8 9 _ (by simp)
  have h10 : (((((((((((w.setCell ⟨g, 0, none⟩ (.int .i64 (f 0).1)).setCell ⟨g, 1, none⟩ (.int .i64 (f 0).2)).setCell ⟨g, 2, none⟩ (.int .i64 (f 1).1)).setCell ⟨g, 3, none⟩ (.int .i64 (f 1).2)).setCell ⟨g, 4, none⟩ (.int .i64 (f 2).1)).setCell ⟨g, 5, none⟩ (.int .i64 (f 2).2)).setCell ⟨g, 6, none⟩ (.int .i64 (f 3).1)).setCell ⟨g, 7, none⟩ (.int .i64 (f 3).2)).setCell ⟨g, 8, none⟩ (.int .i64 (f 4).1)).setCell ⟨g, 9, none⟩ (.int .i64 (f 4).2)).setCell ⟨g, 10, none⟩ (.int .i64 (f 5).1)).heap[g]? = some (.cells #[.int .i64 (f 0).1, .int .i64 (f 0).2, .int .i64 (f 1).1, .int .i64 (f 1).2, .int .i64 (f 2).1, .int .i64 (f 2).2, .int .i64 (f 3).1, .int .i64 (f 3).2, .int .i64 (f 4).1, .int .i64 (f 4).2, .int .i64 (f 5).1, .int .i64 (f0 5).2, .int .i64 (f0 6).1, .int .i64 (f0 6).2] t (0, 0)) := blk_put h9 10 _ (by simp)
  have h11 : ((((((((((((w.setCell ⟨g, 0, none⟩ (.int .i64 (f 0).1)).setCell ⟨g, 1, none⟩ (.int .i64 (f 0).2)).setCell ⟨g, 2, none⟩ (.int .i64 (f 1).1)).setCell ⟨g, 3, none⟩ (.int .i64 (f 1).2)).setCell ⟨g, 4, none⟩ (.int .i64 (f 2).1)).setCell ⟨g, 5, none⟩ (.int .i64 (f 2).2)).setCell ⟨g, 6, none⟩ (.int .i64 (f 3).1)).setCell ⟨g, 7, none⟩ (.int .i64 (f 3).2)).setCell ⟨g, 8, none⟩ (.int .i64 (f 4).1)).setCell ⟨g, 9, none⟩ (.int .i64 (f 4).2)).setCell ⟨g, 10, none⟩ (.int .i64 (f 5).1)).setCell ⟨g, 11, none⟩ (.int .i64 (f 5).2)).heap[g]? = some (.cells #[.int .i64 (f 0).1, .int .i64 (f 0).2, .int .i64 (f 1).1, .int .i64 (f 1).2, .int .i64 (f 2).1, .int .i64 (f 2).2, .int .i64 (f 3).1, .int .i64 (f 3).2, .int .i64 (f 4).1, .int .i64 (f 4).2, .int .i64 (f 5).1, .int .i64 (f 5).2, .int .i64 (f0 6).1, .int .i64 (f0 6).2] t (0, 0)) := blk_put h10 11 _ (by simp)
  have h12 : (((((((((((((w.setCell ⟨g, 0, none⟩ (.int .i64 (f 0).1)).setCell ⟨g, 1, none⟩ (.int .i64 (f 0).2)).setCell ⟨g, 2, none⟩ (.int .i64 (f 1).1)).setCell ⟨g, 3, none⟩ (.int .i64 (f 1).2)).setCell ⟨g, 4, none⟩ (.int .i64 (f 2).1)).setCell ⟨g, 5, none⟩ (.int .i64 (f 2).2)).setCell ⟨g, 6, none⟩ (.int .i64 (f 3).1)).setCell ⟨g, 7, none⟩ (.int .i64 (f 3).2)).setCell ⟨g, 8, none⟩ (.int .i64 (f 4).1)).setCell ⟨g, 9, none⟩ (.int .i64 (f 4).2)).setCell ⟨g, 10, none⟩ (.int .i64 (f 5).1)).setCell ⟨g, 11, none⟩ (.int .i64 (f 5).2)).setCell ⟨g, 12, none⟩ (.int .i64 (f 6).1)).heap[g]? = some (.cells #[.int .i64 (f 0).1, .int .i64 (f 0).2, .int .i64 (f 1).1, .int .i64 (f 1).2, .int .i64 (f 2).1, .int .i64 (f 2).2, .int .i64 (f 3).1, .int .i64 (f 3).2, .int .i64 (f 4).1, .int .i64 (f 4).2, .int .i64 (f 5).1, .int .i64 (f 5).2, .int .i64 (f 6).1, .int .i64 (f0 6).2] t (0, 0)) := blk_put h11 12 _ (by simp)
  have h13 : ((((((((((((((w.setCell ⟨g, 0, none⟩ (.int .i64 (f 0).1)).setCell ⟨g, 1, none⟩ (.int .i64 (f 0).2)).setCell ⟨g, 2, none⟩ (.int .i64 (f 1).1)).setCell ⟨g, 3, none⟩ (.int .i64 (f 1).2)).setCell ⟨g, 4, none⟩ (.int .i64 (f 2).1)).setCell ⟨g, 5, none⟩ (.int .i64 (f 2).2)).setCell ⟨g, 6, none⟩ (.int .i64 (f 3).1)).setCell ⟨g, 7, none⟩ (.int .i64 (f 3).2)).setCell ⟨g, 8, none⟩ (.int .i64 (f 4).1)).setCell ⟨g, 9, none⟩ (.int .i64 (f 4).2)).setCell ⟨g, 10, none⟩ (.int .i64 (f 5).1)).setCell ⟨g, 11, none⟩ (.int .i64 (f 5).2)).setCell ⟨g, 12, none⟩ (.int .i64 (f 6).1)).setCell ⟨g, 13, none⟩ (.int .i64 (f 6).2)).heap[g]? = some (.cells #[.int .i64 (f 0).1, .int .i64 (f 0).2, .int .i64 (f 1).1, .int .i64 (f 1).2, .int .i64 (f 2).1, .int .i64 (f 2).2, .int .i64 (f 3).1, .int .i64 (f 3).2, .int .i64 (f 4).1, .int .i64 (f 4).2, .int .i64 (f 5).1, .int .i64 (f 5).2, .int .i64 (f 6).1, .int .i64 (f 6).2] t (0, 0)) := blk_put h12 13 _ (by simp)
  exact h13
theorem far14 {w : World} {g b t : Nat} {cs : Array Value} (h : w.heap[b]? = some (.cells cs t (0, 0))) (hne : b ≠ g) (f : Nat → Int × Int) : (st14 w g f).heap[b]? = some (.cells cs t (0, 0)) :=
  (blk_far (blk_far (blk_far (blk_far (blk_far (blk_far (blk_far (blk_far (blk_far (blk_far (blk_far (blk_far (blk_far (blk_far h hne _) hne _) hne _) hne _) hne _) hne _) hne _) hne _) hne _) hne _) hne _) hne _) hne _) hne _)
theorem below14 {B : Nat} {w w1 : World} {g : Nat} (h : Below B w w1) (hg : B ≤ g) (f : Nat → Int × Int) : Below B w (st14 w1 g f) :=
  ((((((((((((((h.setCell hg _).setCell hg _).setCell hg _).setCell hg _).setCell hg _).setCell hg _).setCell hg _).setCell hg _).setCell hg _).setCell hg _).setCell hg _).setCell hg _).setCell hg _).setCell hg _)
theorem new_at {w : World} {o : Obj} {n : Nat} (h : w.heap.size = n) : (w.alloc o).heap[n]? = some o := h ▸ blk_new w o
structure Nm (w : World) (B : Nat) (s fa fb : Nat → Int × Int) : Prop where
  s : w.heap[B]? = some (.cells (aggU s) 49 (0, 0))
  r : Box14 w (B + 1) 52 (fun _ => (0, 0))
  q : Box14 w (B + 1 + 1) 54 (fun _ => (0, 0))
  a : Box14 w (B + 1 + 1 + 1) 52 fa
  b : Box14 w (B + 1 + 1 + 1 + 1) 54 fb
theorem Nm.below {w w1 : World} {B : Nat} {s fa fb : Nat → Int × Int} (h : Nm w B s fa fb) (hb : Below w.heap.size w w1) : Nm w1 B s fa fb := ⟨blk_below h.s hb, blk_below h.r hb, blk_below h.q hb, blk_below h.a hb, blk_below h.b hb⟩
abbrev z14 : Array Value := agg14 (fun _ => (0, 0))
theorem Nm.start (w : World) (s : Nat → Int × Int) : Nm (((((w.alloc (.cells (aggU s) 49)).alloc (.cells z14 52)).alloc (.cells z14 54)).alloc (.cells z14 52)).alloc (.cells z14 54)) w.heap.size s (fun _ => (0, 0)) (fun _ => (0, 0)) :=
  ⟨blk_alloc (blk_alloc (blk_alloc (blk_alloc (blk_new _ _) _) _) _) _, blk_alloc (blk_alloc (blk_alloc (new_at (by simp)) _) _) _, blk_alloc (blk_alloc (new_at (by simp)) _) _, blk_alloc (new_at (by simp)) _, new_at (by simp)⟩
theorem Nm.setB {w : World} {B : Nat} {s fa fb : Nat → Int × Int} (h : Nm w B s fa fb) {k : Nat} (hk : k < 7) (x y : Int) : Nm ((w.setCell ⟨B + 1 + 1 + 1 + 1, k * 2, none⟩ (.int .i64 x)).setCell ⟨B + 1 + 1 + 1 + 1, k * 2 + 1, none⟩ (.int .i64 y)) B s fa (putF fb k (x, y)) :=
  ⟨blk_far (blk_far h.s (show B ≠ B + 1 + 1 + 1 + 1 by omega) _) (show B ≠ B + 1 + 1 + 1 + 1 by omega) _, blk_far (blk_far h.r (show B + 1 ≠ B + 1 + 1 + 1 + 1 by omega) _) (show B + 1 ≠ B + 1 + 1 + 1 + 1 by omega) _, blk_far (blk_far h.q (show B + 1 + 1 ≠ B + 1 + 1 + 1 + 1 by omega) _) (show B + 1 + 1 ≠ B + 1 + 1 + 1 + 1 by omega) _, blk_far (blk_far h.a (show B + 1 + 1 + 1 ≠ B + 1 + 1 + 1 + 1 by omega) _) (show B + 1 + 1 + 1 ≠ B + 1 + 1 + 1 + 1 by omega) _, set14 h.b hk x y⟩
theorem Nm.setA {w : World} {B : Nat} {s fa fb : Nat → Int × Int} (h : Nm w B s fa fb) {k : Nat} (hk : k < 7) (x y : Int) : Nm ((w.setCell ⟨B + 1 + 1 + 1, k * 2, none⟩ (.int .i64 x)).setCell ⟨B + 1 + 1 + 1, k * 2 + 1, none⟩ (.int .i64 y)) B s (putF fa k (x, y)) fb :=
  ⟨blk_far (blk_far h.s (show B ≠ B + 1 + 1 + 1 by omega) _) (show B ≠ B + 1 + 1 + 1 by omega) _, blk_far (blk_far h.r (show B + 1 ≠ B + 1 + 1 + 1 by omega) _) (show B + 1 ≠ B + 1 + 1 + 1 by omega) _, blk_far (blk_far h.q (show B + 1 + 1 ≠ B + 1 + 1 + 1 by omega) _) (show B + 1 + 1 ≠ B + 1 + 1 + 1 by omega) _, set14 h.a hk x y, blk_far (blk_far h.b (show B + 1 + 1 + 1 + 1 ≠ B + 1 + 1 + 1 by omega) _) (show B + 1 + 1 + 1 + 1 ≠ B + 1 + 1 + 1 by omega) _⟩
theorem Nm.drew {w : World} {B : Nat} {s fa fb : Nat → Int × Int} (h : Nm w B s fa fb) : Nm w.drew B s fa fb := ⟨blk_drew h.s, blk_drew h.r, blk_drew h.q, blk_drew h.a, blk_drew h.b⟩
/-- what the loads of a round read -/
abbrev NUx (wx : World) (b k : Nat) (p q : Int) : Prop := wx.cell? ⟨b, k * 2, none⟩ = some (.int .u8 p) ∧ wx.cell? ⟨b, k * 2 + 1, none⟩ = some (.int .u8 q)
theorem NU.keep {wx wy : World} {b k : Nat} {p q : Int} (h : NUx wx b k p q) (hb : Below wx.heap.size wx wy) : NUx wy b k p q := ⟨keepC hb h.1, keepC hb h.2⟩
theorem NU.set {wx : World} {b k g i : Nat} {p q : Int} {v : Value} (h : NUx wx b k p q) (hg : g ≠ b) : NUx (wx.setCell ⟨g, i, none⟩ v) b k p q :=
  ⟨by rw [World.cell?_setCell_far _ _ _ _ (by show g ≠ b; omega)]; exact h.1, by rw [World.cell?_setCell_far _ _ _ _ (by show g ≠ b; omega)]; exact h.2⟩
set_option maxHeartbeats 8000000 in
set_option maxRecDepth 1000000 in
theorem numbers_any (s : Nat → Int × Int) (hs : ∀ k, k < 7 → (0 ≤ (s k).1 ∧ (s k).1 ≤ 255) ∧ (0 ≤ (s k).2 ∧ (s k).2 ≤ 255)) (w : World) :
    Calls Tryd.prog 25 #[.agg (aggU s)] w fun e w' => e = .returned (.tuple #[.agg (agg14 (numF s)), .agg (agg14 (numF s))]) ∧ Below w.heap.size w w' := by
  have HS := Aside0.mk hs
  clear hs
  go_enter Tryd.func25, Tryd.ntmps25
  go_wp2
  have N0 := Aside0.mk (Nm.start w s)
  have B0 := Aside0.mk (show Below w.heap.size w (((((w.alloc (.cells (aggU s) 49)).alloc (.cells z14 52)).alloc (.cells z14 54)).alloc (.cells z14 52)).alloc (.cells z14 54)) from (((((Below.refl _ _).alloc (Nat.le_refl _) _).alloc (by simp) _).alloc (by simp; omega) _).alloc (by simp; omega) _).alloc (by simp; omega) _)
  go_loopw [6] (fun s6 wr => ∃ k : Nat, k ≤ 7 ∧ s6 = .int .i64 (k : Int) ∧ Aside0 (Nm wr w.heap.size s (upF (numF s) k) (upF (numF s) k)) ∧ Aside0 (Below w.heap.size w wr)) (fun s6 _ => 7 - (intOf s6).toNat)
  case atStart => exact ⟨0, by omega, rfl, ⟨by rw [upF_zero]; exact N0.out⟩, B0⟩
  case round =>
    clear N0 B0
    obtain ⟨k, hk, rfl, N, B⟩ := hrel
    have hsz : w.heap.size + 1 + 1 + 1 + 1 < wr.heap.size := blk_lt N.out.b
    by_cases hlt : k < 7
    · obtain ⟨x0, x1⟩ := cellU N.out.s hlt
      obtain ⟨⟨h1, h2⟩, ⟨h3, h4⟩⟩ := HS.out k hlt
      have hk0 : (0 : Int) ≤ ((k : Nat) : Int) := by omega
      have hk7 : ((k : Nat) : Int) < 7 := by omega
      have MK := Aside0.mk (fun W => rmake_any (1 + (s k).1) (1 + (s k).2) (by unfold i64; omega) (by unfold i64; omega) W)
      have NF := Aside0.mk (show numF s k = ((mkz (1 + (s k).1) (1 + (s k).2)).1, (mkz (1 + (s k).1) (1 + (s k).2)).2.1) from rfl)
      have HK := Aside0.mk hlt
      generalize (s k).1 = p at *
      generalize (s k).2 = q at *
      generalize mkz (1 + p) (1 + q) = r at *
      have SD := Aside0.mk (NU.keep (wx := wr) ⟨x0, x1⟩ (below_drew (Below.refl wr.heap.size wr)))
      have ep0 : IntKind.i64.wrap p = p := IntWalk.i64_in _ (by omega)
      have eq0 : IntKind.i64.wrap q = q := IntWalk.i64_in _ (by omega)
      have ep : IntKind.i64.wrap (1 + p) = 1 + p := IntWalk.i64_in _ (by omega)
      have eq1 : IntKind.i64.wrap (1 + q) = 1 + q := IntWalk.i64_in _ (by omega)
      clear x0 x1
      go_upto_region 6 with fail
      go_region_held3 (fun wx => wx.cell? ⟨w.heap.size, k * 2, none⟩ = some (.int .u8 p) ∧ wx.cell? ⟨w.heap.size, k * 2 + 1, none⟩ = some (.int .u8 q)) (first | assumption | exact SD.out | (exact NU.keep SD.out (by assumption)) | (exact NU.set (NU.set (NU.keep SD.out (by assumption)) (by omega)) (by omega))) ((go_at_call 43; refine (MK.out _).mono ?_; rintro e w5 ⟨rfl, hb5⟩; have N5 := Aside0.mk (N.out.drew.below hb5); have z0 : w5.cell? ⟨w.heap.size + 1 + 1 + 1 + 1, k * 2, none⟩ = some (.int .i64 (upF (numF s) k k).1) := (cell14 N5.out.b HK.out).1; have z1 : w5.cell? ⟨w.heap.size + 1 + 1 + 1 + 1, k * 2 + 1, none⟩ = some (.int .i64 (upF (numF s) k k).2) := (cell14 N5.out.b HK.out).2; have q0 : w5.frozen? ⟨w.heap.size + 1 + 1 + 1 + 1, k * 2, none⟩ = false := blk_frozen N5.out.b (k * 2); have q1 : w5.frozen? ⟨w.heap.size + 1 + 1 + 1 + 1, k * 2 + 1, none⟩ = false := blk_frozen N5.out.b (k * 2 + 1)))
      clear ep0 eq0 ep eq1
      have N6 := Aside0.mk (N5.out.setB HK.out r.1 r.2.1)
      have hsz5 := hb5.size
      have B6 := Aside0.mk (((keepB hb5 (below_drew B.out)).setCell (p := ⟨w.heap.size + 1 + 1 + 1 + 1, k * 2, none⟩) (show w.heap.size ≤ w.heap.size + 1 + 1 + 1 + 1 by omega) (.int .i64 r.1)).setCell (p := ⟨w.heap.size + 1 + 1 + 1 + 1, k * 2 + 1, none⟩) (show w.heap.size ≤ w.heap.size + 1 + 1 + 1 + 1 by omega) (.int .i64 r.2.1))
      have eu : putF (upF (numF s) k) k (r.1, r.2.1) = upF (numF s) (k + 1) := by rw [← NF.out]; exact upF_succ _ _
      rw [eu] at N6
      have c0 := (cell14 N6.out.b HK.out).1
      have c1 := (cell14 N6.out.b HK.out).2
      generalize hW6 : World.setCell (World.setCell w5 _ _) _ _ = w6 at N6 B6 c0 c1 ⊢
      have a0 := (cell14 N6.out.a HK.out).1
      have a1 := (cell14 N6.out.a HK.out).2
      have g0 := blk_frozen N6.out.a (k * 2)
      have g1 := blk_frozen N6.out.a (k * 2 + 1)
      have N7 := Aside0.mk (N6.out.setA HK.out r.1 r.2.1)
      rw [eu] at N7
      have B7 := Aside0.mk ((B6.out.setCell (p := ⟨w.heap.size + 1 + 1 + 1, k * 2, none⟩) (show w.heap.size ≤ w.heap.size + 1 + 1 + 1 by omega) (.int .i64 r.1)).setCell (p := ⟨w.heap.size + 1 + 1 + 1, k * 2 + 1, none⟩) (show w.heap.size ≤ w.heap.size + 1 + 1 + 1 by omega) (.int .i64 r.2.1))
      have er : upF (numF s) (k + 1) k = (r.1, r.2.1) := by rw [← NF.out]; exact if_pos (Nat.lt_succ_self k)
      rw [er] at c0 c1
      have EU := Aside0.mk eu
      clear eu er hW6 z0 z1 q0 q1 N5 hb5 hsz5 SD
      go_wp2
      go_roundw
      case rel => exact ⟨k + 1, by omega, by go_num, N7, B7⟩
      case measure => (simp [intOf]) <;> omega
    · obtain rfl : k = 7 := by omega
      clear hlt hk
      have NA : Box14 wr (w.heap.size + 1 + 1 + 1) 52 (numF s) := N.out.a
      have NB : Box14 wr (w.heap.size + 1 + 1 + 1 + 1) 54 (numF s) := N.out.b
      have DR := Aside0.mk (blk_drew N.out.r)
      have DQ := Aside0.mk (blk_drew N.out.q)
      have DB := Aside0.mk (below_drew B.out)
      obtain ⟨f, hf⟩ : ∃ f, numF s = f := ⟨_, rfl⟩
      have HF := Aside0.mk hf
      rw [hf] at NA NB
      clear hf
      obtain ⟨⟨a0, a1, a2, a3, a4, a5, a6⟩, ⟨a7, a8, a9, a10, a11, a12, a13⟩⟩ := cells14 NA
      obtain ⟨⟨b0, b1, b2, b3, b4, b5, b6⟩, ⟨b7, b8, b9, b10, b11, b12, b13⟩⟩ := cells14 NB
      obtain ⟨⟨r0, r1, r2, r3, r4, r5, r6⟩, ⟨r7, r8, r9, r10, r11, r12, r13⟩⟩ := cells14 N.out.r
      obtain ⟨⟨q0, q1, q2, q3, q4, q5, q6⟩, ⟨q7, q8, q9, q10, q11, q12, q13⟩⟩ := cells14 N.out.q
      have fr0 := blk_frozen N.out.r 0
      have fq0 := blk_frozen N.out.q 0
      have fr1 := blk_frozen N.out.r 1
      have fq1 := blk_frozen N.out.q 1
      have fr2 := blk_frozen N.out.r 2
      have fq2 := blk_frozen N.out.q 2
      have fr3 := blk_frozen N.out.r 3
      have fq3 := blk_frozen N.out.q 3
      have fr4 := blk_frozen N.out.r 4
      have fq4 := blk_frozen N.out.q 4
      have fr5 := blk_frozen N.out.r 5
      have fq5 := blk_frozen N.out.q 5
      have fr6 := blk_frozen N.out.r 6
      have fq6 := blk_frozen N.out.q 6
      have fr7 := blk_frozen N.out.r 7
      have fq7 := blk_frozen N.out.q 7
      have fr8 := blk_frozen N.out.r 8
      have fq8 := blk_frozen N.out.q 8
      have fr9 := blk_frozen N.out.r 9
      have fq9 := blk_frozen N.out.q 9
      have fr10 := blk_frozen N.out.r 10
      have fq10 := blk_frozen N.out.q 10
      have fr11 := blk_frozen N.out.r 11
      have fq11 := blk_frozen N.out.q 11
      have fr12 := blk_frozen N.out.r 12
      have fq12 := blk_frozen N.out.q 12
      have fr13 := blk_frozen N.out.r 13
      have fq13 := blk_frozen N.out.q 13
      have e12 : w.heap.size + 1 ≠ w.heap.size + 1 + 1 := by omega
      have e21 : w.heap.size + 1 + 1 ≠ w.heap.size + 1 := by omega
      have i1 : w.heap.size ≤ w.heap.size + 1 := by omega
      have i2 : w.heap.size ≤ w.heap.size + 1 + 1 := by omega
      go_upto_region 8 with fail
      go_region
      all_goals go_wp2
      all_goals clear a0 a1 a2 a3 a4 a5 a6 a7 a8 a9 a10 a11 a12 a13 b0 b1 b2 b3 b4 b5 b6 b7 b8 b9 b10 b11 b12 b13 r0 r1 r2 r3 r4 r5 r6 r7 r8 r9 r10 r11 r12 r13 q0 q1 q2 q3 q4 q5 q6 q7 q8 q9 q10 q11 q12 q13 fr0 fr1 fr2 fr3 fr4 fr5 fr6 fr7 fr8 fr9 fr10 fr11 fr12 fr13 fq0 fq1 fq2 fq3 fq4 fq5 fq6 fq7 fq8 fq9 fq10 fq11 fq12 fq13 NA NB DR DQ DB
      all_goals refine bodyPost_ret (results_cc (p := 2) (p' := 3) rfl _ _ (w.heap.size + 1) (w.heap.size + 1 + 1) 52 54 (agg14 f) (agg14 f) (0, 0) (0, 0) _ _ rfl ?_ Tryd.underlying52 rfl (by kernel_rfl) rfl ?_ Tryd.underlying54 rfl (by kernel_rfl)) rfl ⟨by rw [HF.out], ?_⟩
      all_goals first
        | (with_reducible exact blk_drew (far14 (store14 N.out.r f) e12 f))
        | (with_reducible exact blk_drew (store14 (far14 N.out.r e12 f) f))
        | (with_reducible exact blk_drew (far14 (store14 N.out.q f) e21 f))
        | (with_reducible exact blk_drew (store14 (far14 N.out.q e21 f) f))
        | (with_reducible exact below_drew (below14 (below14 B.out i1 f) i2 f))
        | (with_reducible exact below_drew (below14 (below14 B.out i2 f) i1 f))
end Go.Proofs.YtjnheoelcahkaaaDoor.Rat
