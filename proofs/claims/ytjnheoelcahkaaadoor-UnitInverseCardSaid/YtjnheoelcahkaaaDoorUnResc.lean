/-
  unit.Rescale: the words; ValidValue.
-/
import Derived.Test.YtjnheoelcahkaaaDoorUnPow2
import Derived.Test.YtjnheoelcahkaaaDoorUnComb
import Derived.Test.YtjnheoelcahkaaaDoorUnRefV
import Derived.Deep.RegionHeld3
import Derived.StillTailTactics
set_option linter.unusedVariables false
set_option linter.unusedSimpArgs false
namespace Go.Proofs.YtjnheoelcahkaaaDoor.Rat
open Go.RowKit Go.Proofs.YtjnheoelcahkaaaDoorW.PrintWords Go.Proofs.YtjnheoelcahkaaaDoorW.PrintLast Go.Proofs.YtjnheoelcahkaaaDoorW.PrintMore Go.Proofs.YtjnheoelcahkaaaDoor.Gv
open Go.Proofs.YtjnheoelcahkaaaDoor.R
abbrev val9 (n m : Int) (d : Nat → Int) : Array Value := #[.int .i64 n, .int .i64 m, .int .i64 (d 0), .int .i64 (d 1), .int .i64 (d 2), .int .i64 (d 3), .int .i64 (d 4), .int .i64 (d 5), .int .i64 (d 6)]
abbrev agg14 (f : Nat → Int × Int) : Array Value := #[.int .i64 (f 0).1, .int .i64 (f 0).2, .int .i64 (f 1).1, .int .i64 (f 1).2, .int .i64 (f 2).1, .int .i64 (f 2).2, .int .i64 (f 3).1, .int .i64 (f 3).2, .int .i64 (f 4).1, .int .i64 (f 4).2, .int .i64 (f 5).1, .int .i64 (f 5).2, .int .i64 (f 6).1, .int .i64 (f 6).2]
abbrev Box9 (w : World) (g : Nat) (n m : Int) (d : Nat → Int) : Prop := w.heap[g]? = some (.cells (val9 n m d) 35 (0, 0))
abbrev Box14 (w : World) (g t : Nat) (f : Nat → Int × Int) : Prop := w.heap[g]? = some (.cells (agg14 f) t (0, 0))
theorem cell9 {w : World} {g : Nat} {n m : Int} {d : Nat → Int} (h : Box9 w g n m d) {k : Nat} (hk : k < 7) : w.cell? ⟨g, 2 + k, none⟩ = some (.int .i64 (d k)) := by
  rcases lt7 hk with rfl | rfl | rfl | rfl | rfl | rfl | rfl <;> exact (blk_cell h _).trans rfl
theorem cell14 {w : World} {g t : Nat} {f : Nat → Int × Int} (h : Box14 w g t f) {k : Nat} (hk : k < 7) : w.cell? ⟨g, k * 2, none⟩ = some (.int .i64 (f k).1) ∧ w.cell? ⟨g, k * 2 + 1, none⟩ = some (.int .i64 (f k).2) := by
  rcases lt7 hk with rfl | rfl | rfl | rfl | rfl | rfl | rfl <;> exact ⟨(blk_cell h _).trans rfl, (blk_cell h _).trans rfl⟩
theorem index14 (f : Nat → Int × Int) {k : Nat} (hk : k < 7) (w : World) : Sem.run Tryd.prog (Instr.index 52 (.agg (agg14 f)) (.int .i64 (k : Int))) w = .ok (.agg #[.int .i64 (f k).1, .int .i64 (f k).2]) w := by
  rcases lt7 hk with rfl | rfl | rfl | rfl | rfl | rfl | rfl <;> kernel_rfl
theorem cells9 {w : World} {g : Nat} {n m : Int} {d : Nat → Int} (h : Box9 w g n m d) : w.cell? ⟨g, 0, none⟩ = some (.int .i64 n) ∧ w.cell? ⟨g, 1, none⟩ = some (.int .i64 m) ∧ w.cell? ⟨g, 2, none⟩ = some (.int .i64 (d 0)) ∧ w.cell? ⟨g, 3, none⟩ = some (.int .i64 (d 1)) ∧ w.cell? ⟨g, 4, none⟩ = some (.int .i64 (d 2)) ∧ w.cell? ⟨g, 5, none⟩ = some (.int .i64 (d 3)) ∧ w.cell? ⟨g, 6, none⟩ = some (.int .i64 (d 4)) ∧ w.cell? ⟨g, 7, none⟩ = some (.int .i64 (d 5)) ∧ w.cell? ⟨g, 8, none⟩ = some (.int .i64 (d 6)) :=
  ⟨(blk_cell h 0).trans rfl, (blk_cell h 1).trans rfl, (blk_cell h 2).trans rfl, (blk_cell h 3).trans rfl, (blk_cell h 4).trans rfl, (blk_cell h 5).trans rfl, (blk_cell h 6).trans rfl, (blk_cell h 7).trans rfl, (blk_cell h 8).trans rfl⟩
theorem cells14 {w : World} {g t : Nat} {f : Nat → Int × Int} (h : Box14 w g t f) : (w.cell? ⟨g, 0, none⟩ = some (.int .i64 (f 0).1) ∧ w.cell? ⟨g, 1, none⟩ = some (.int .i64 (f 0).2) ∧ w.cell? ⟨g, 2, none⟩ = some (.int .i64 (f 1).1) ∧ w.cell? ⟨g, 3, none⟩ = some (.int .i64 (f 1).2) ∧ w.cell? ⟨g, 4, none⟩ = some (.int .i64 (f 2).1) ∧ w.cell? ⟨g, 5, none⟩ = some (.int .i64 (f 2).2) ∧ w.cell? ⟨g, 6, none⟩ = some (.int .i64 (f 3).1)) ∧ (w.cell? ⟨g, 7, none⟩ = some (.int .i64 (f 3).2) ∧ w.cell? ⟨g, 8, none⟩ = some (.int .i64 (f 4).1) ∧ w.cell? ⟨g, 9, none⟩ = some (.int .i64 (f 4).2) ∧ w.cell? ⟨g, 10, none⟩ = some (.int .i64 (f 5).1) ∧ w.cell? ⟨g, 11, none⟩ = some (.int .i64 (f 5).2) ∧ w.cell? ⟨g, 12, none⟩ = some (.int .i64 (f 6).1) ∧ w.cell? ⟨g, 13, none⟩ = some (.int .i64 (f 6).2)) :=
  ⟨⟨(blk_cell h 0).trans rfl, (blk_cell h 1).trans rfl, (blk_cell h 2).trans rfl, (blk_cell h 3).trans rfl, (blk_cell h 4).trans rfl, (blk_cell h 5).trans rfl, (blk_cell h 6).trans rfl⟩, ⟨(blk_cell h 7).trans rfl, (blk_cell h 8).trans rfl, (blk_cell h 9).trans rfl, (blk_cell h 10).trans rfl, (blk_cell h 11).trans rfl, (blk_cell h 12).trans rfl, (blk_cell h 13).trans rfl⟩⟩
theorem store9 {w : World} {b : Nat} {n0 m0 : Int} {d0 : Nat → Int} (h : Box9 w b n0 m0 d0) (n m : Int) (d : Nat → Int) : Box9 (((((((((w.setCell ⟨b, 0, none⟩ (.int .i64 n)).setCell ⟨b, 1, none⟩ (.int .i64 m)).setCell ⟨b, 2, none⟩ (.int .i64 (d 0))).setCell ⟨b, 3, none⟩ (.int .i64 (d 1))).setCell ⟨b, 4, none⟩ (.int .i64 (d 2))).setCell ⟨b, 5, none⟩ (.int .i64 (d 3))).setCell ⟨b, 6, none⟩ (.int .i64 (d 4))).setCell ⟨b, 7, none⟩ (.int .i64 (d 5))).setCell ⟨b, 8, none⟩ (.int .i64 (d 6))) b n m d := by
  have h1 : (w.setCell ⟨b, 0, none⟩ (.int .i64 n)).heap[b]? = some (.cells #[.int .i64 n, .int .i64 m0, .int .i64 (d0 0), .int .i64 (d0 1), .int .i64 (d0 2), .int .i64 (d0 3), .int .i64 (d0 4), .int .i64 (d0 5), .int .i64 (d0 6)] 35 (0, 0)) := blk_put h 0 _ (by simp)
  have h2 : ((w.setCell ⟨b, 0, none⟩ (.int .i64 n)).setCell ⟨b, 1, none⟩ (.int .i64 m)).heap[b]? = some (.cells #[.int .i64 n, .int .i64 m, .int .i64 (d0 0), .int .i64 (d0 1), .int .i64 (d0 2), .int .i64 (d0 3), .int .i64 (d0 4), .int .i64 (d0 5), .int .i64 (d0 6)] 35 (0, 0)) := blk_put h1 1 _ (by simp)
  have h3 : (((w.setCell ⟨b, 0, none⟩ (.int .i64 n)).setCell ⟨b, 1, none⟩ (.int .i64 m)).setCell ⟨b, 2, none⟩ (.int .i64 (d 0))).heap[b]? = some (.cells #[.int .i64 n, .int .i64 m, .int .i64 (d 0), .int .i64 (d0 1), .int .i64 (d0 2), .int .i64 (d0 3), .int .i64 (d0 4), .int .i64 (d0 5), .int .i64 (d0 6)] 35 (0, 0)) := blk_put h2 2 _ (by simp)
  have h4 : ((((w.setCell ⟨b, 0, none⟩ (.int .i64 n)).setCell ⟨b, 1, none⟩ (.int .i64 m)).setCell ⟨b, 2, none⟩ (.int .i64 (d 0))).setCell ⟨b, 3, none⟩ (.int .i64 (d 1))).heap[b]? = some (.cells #[.int .i64 n, .int .i64 m, .int .i64 (d 0), .int .i64 (d 1), .int .i64 (d0 2), .int .i64 (d0 3), .int .i64 (d0 4), .int .i64 (d0 5), .int .i64 (d0 6)] 35 (0, 0)) := blk_put h3 3 _ (by simp)
  have h5 : (((((w.setCell ⟨b, 0, none⟩ (.int .i64 n)).setCell ⟨b, 1, none⟩ (.int .i64 m)).setCell ⟨b, 2, none⟩ (.int .i64 (d 0))).setCell ⟨b, 3, none⟩ (.int .i64 (d 1))).setCell ⟨b, 4, none⟩ (.int .i64 (d 2))).heap[b]? = some (.cells #[.int .i64 n, .int .i64 m, .int .i64 (d 0), .int .i64 (d 1), .int .i64 (d 2), .int .i64 (d0 3), .int .i64 (d0 4), .int .i64 (d0 5), .int .i64 (d0 6)] 35 (0, 0)) := blk_put h4 4 _ (by simp)
  have h6 : ((((((w.setCell ⟨b, 0, none⟩ (.int .i64 n)).setCell ⟨b, 1, none⟩ (.int .i64 m)).setCell ⟨b, 2, none⟩ (.int .i64 (d 0))).setCell ⟨b, 3, none⟩ (.int .i64 (d 1))).setCell ⟨b, 4, none⟩ (.int .i64 (d 2))).setCell ⟨b, 5, none⟩ (.int .i64 (d 3))).heap[b]? = some (.cells #[.int .i64 n, .int .i64 m, .int .i64 (d 0), .int .i64 (d 1), .int .i64 (d 2), .int .i64 (d 3), .int .i64 (d0 4), .int .i64 (d0 5), .int .i64 (d0 6)] 35 (0, 0)) := blk_put h5 5 _ (by simp)
  have h7 : (((((((w.setCell ⟨b, 0, none⟩ (.int .i64 n)).setCell ⟨b, 1, none⟩ (.int .i64 m)).setCell ⟨b, 2, none⟩ (.int .i64 (d 0))).setCell ⟨b, 3, none⟩ (.int .i64 (d 1))).setCell ⟨b, 4, none⟩ (.int .i64 (d 2))).setCell ⟨b, 5, none⟩ (.int .i64 (d 3))).setCell ⟨b, 6, none⟩ (.int .i64 (d 4))).heap[b]? = some (.cells #[.int .i64 n, .int .i64 m, .int .i64 (d 0), .int .i64 (d 1), .int .i64 (d 2), .int .i64 (d 3), .int .i64 (d 4), .int .i64 (d0 5), .int .i64 (d0 6)] 35 (0, 0)) := blk_put h6 6 _ (by simp)
  have h8 : ((((((((w.setCell ⟨b, 0, none⟩ (.int .i64 n)).setCell ⟨b, 1, none⟩ (.int .i64 m)).setCell ⟨b, 2, none⟩ (.int .i64 (d 0))).setCell ⟨b, 3, none⟩ (.int .i64 (d 1))).setCell ⟨b, 4, none⟩ (.int .i64 (d 2))).setCell ⟨b, 5, none⟩ (.int .i64 (d 3))).setCell ⟨b, 6, none⟩ (.int .i64 (d 4))).setCell ⟨b, 7, none⟩ (.int .i64 (d 5))).heap[b]? = some (.cells #[.int .i64 n, .int .i64 m, .int .i64 (d 0), .int .i64 (d 1), .int .i64 (d 2), .int .i64 (d 3), .int .i64 (d 4), .int .i64 (d 5), .int .i64 (d0 6)] 35 (0, 0)) := blk_put h7 7 _ (by simp)
  have h9 : (((((((((w.setCell ⟨b, 0, none⟩ (.int .i64 n)).setCell ⟨b, 1, none⟩ (.int .i64 m)).setCell ⟨b, 2, none⟩ (.int .i64 (d 0))).setCell ⟨b, 3, none⟩ (.int .i64 (d 1))).setCell ⟨b, 4, none⟩ (.int .i64 (d 2))).setCell ⟨b, 5, none⟩ (.int .i64 (d 3))).setCell ⟨b, 6, none⟩ (.int .i64 (d 4))).setCell ⟨b, 7, none⟩ (.int .i64 (d 5))).setCell ⟨b, 8, none⟩ (.int .i64 (d 6))).heap[b]? = some (.cells #[.int .i64 n, .int .i64 m, .int .i64 (d 0), .int .i64 (d 1), .int .i64 (d 2), .int .i64 (d 3), .int .i64 (d 4), .int .i64 (d 5), .int .i64 (d 6)] 35 (0, 0)) := blk_put h8 8 _ (by simp)
  exact h9
theorem below9 {B : Nat} {w w1 : World} {g : Nat} (h : Below B w w1) (hg : B ≤ g) (n m : Int) (d : Nat → Int) : Below B w (((((((((w1.setCell ⟨g, 0, none⟩ (.int .i64 n)).setCell ⟨g, 1, none⟩ (.int .i64 m)).setCell ⟨g, 2, none⟩ (.int .i64 (d 0))).setCell ⟨g, 3, none⟩ (.int .i64 (d 1))).setCell ⟨g, 4, none⟩ (.int .i64 (d 2))).setCell ⟨g, 5, none⟩ (.int .i64 (d 3))).setCell ⟨g, 6, none⟩ (.int .i64 (d 4))).setCell ⟨g, 7, none⟩ (.int .i64 (d 5))).setCell ⟨g, 8, none⟩ (.int .i64 (d 6))) :=
  ((((((((h.setCell hg _).setCell hg _).setCell hg _).setCell hg _).setCell hg _).setCell hg _).setCell hg _).setCell hg _).setCell hg _
/-- a value's box, a row of fractions', the result's -/
structure St (w : World) (B t : Nat) (n m : Int) (d : Nat → Int) (f : Nat → Int × Int) : Prop where
  v : Box9 w B n m d
  f : Box14 w (B + 1) t f
  r : Box9 w (B + 2) 0 0 zeroD
theorem St.below {w w1 : World} {B t : Nat} {n m : Int} {d : Nat → Int} {f : Nat → Int × Int} (h : St w B t n m d f) (hb : Below w.heap.size w w1) : St w1 B t n m d f := ⟨blk_below h.v hb, blk_below h.f hb, blk_below h.r hb⟩
theorem St.lt {w : World} {B t : Nat} {n m : Int} {d : Nat → Int} {f : Nat → Int × Int} (h : St w B t n m d f) : B + 2 < w.heap.size := blk_lt h.r
theorem St.start (w : World) (t : Nat) (n m : Int) (d : Nat → Int) (f : Nat → Int × Int) : St (((w.alloc (.cells (val9 n m d) 35)).alloc (.cells (agg14 f) t)).alloc (.cells (val9 0 0 zeroD) 35)) w.heap.size t n m d f :=
  ⟨blk_alloc (blk_alloc (blk_new _ _) _) _, by rw [show w.heap.size + 1 = (w.alloc (.cells (val9 n m d) 35)).heap.size by simp]; exact blk_alloc (blk_new _ _) _, by rw [show w.heap.size + 2 = ((w.alloc (.cells (val9 n m d) 35)).alloc (.cells (agg14 f) t)).heap.size by simp]; exact blk_new _ _⟩
theorem St.back {w w1 : World} {t : Nat} {n m : Int} {d : Nat → Int} {f : Nat → Int × Int} (hb : Below (((w.alloc (.cells (val9 n m d) 35)).alloc (.cells (agg14 f) t)).alloc (.cells (val9 0 0 zeroD) 35)).heap.size (((w.alloc (.cells (val9 n m d) 35)).alloc (.cells (agg14 f) t)).alloc (.cells (val9 0 0 zeroD) 35)) w1) : Below w.heap.size w w1 := box_below (box_below (box_below hb))
def okF (f : Nat → Int × Int) (k : Nat) : Bool := vz (f k).1 (f k).2 && decide (0 < (f k).1)
def allF (f : Nat → Int × Int) : Bool := okF f 0 && (okF f 1 && (okF f 2 && (okF f 3 && (okF f 4 && (okF f 5 && okF f 6)))))
theorem allF_iff (f : Nat → Int × Int) : allF f = true ↔ ∀ j, j < 7 → okF f j = true := by
  constructor
  · intro h j hj
    simp only [allF, Bool.and_eq_true] at h
    obtain ⟨h0, h1, h2, h3, h4, h5, h6⟩ := h
    rcases lt7 hj with rfl | rfl | rfl | rfl | rfl | rfl | rfl <;> assumption
  · intro h
    simp only [allF, Bool.and_eq_true]
    exact ⟨h 0 (by omega), h 1 (by omega), h 2 (by omega), h 3 (by omega), h 4 (by omega), h 5 (by omega), h 6 (by omega)⟩
/-- the product of the powers -/
def prodz (d : Nat → Int) (f : Nat → Int × Int) : Nat → Option (Int × Int)
  | 0 => some (1, 1)
  | k + 1 => match prodz d f k with
    | none => none
    | some q =>
      if (powz (f k).1 (f k).2 (d k)).2.2 = 0 then
        if (mulz q.1 q.2 (powz (f k).1 (f k).2 (d k)).1 (powz (f k).1 (f k).2 (d k)).2.1).2.2 = 0 then some ((mulz q.1 q.2 (powz (f k).1 (f k).2 (d k)).1 (powz (f k).1 (f k).2 (d k)).2.1).1, (mulz q.1 q.2 (powz (f k).1 (f k).2 (d k)).1 (powz (f k).1 (f k).2 (d k)).2.1).2.1) else none
      else none
theorem prodz_pow {d : Nat → Int} {f : Nat → Int × Int} {k : Nat} {q : Int × Int} (h : prodz d f k = some q) (he : (powz (f k).1 (f k).2 (d k)).2.2 ≠ 0) : prodz d f (k + 1) = none := by
  rw [prodz, h]; exact if_neg he
theorem prodz_mul {d : Nat → Int} {f : Nat → Int × Int} {k : Nat} {q : Int × Int} (h : prodz d f k = some q) (he : (powz (f k).1 (f k).2 (d k)).2.2 = 0) (hm : (mulz q.1 q.2 (powz (f k).1 (f k).2 (d k)).1 (powz (f k).1 (f k).2 (d k)).2.1).2.2 ≠ 0) : prodz d f (k + 1) = none := by
  rw [prodz, h]; simp only [if_pos he, if_neg hm]
theorem prodz_ok {d : Nat → Int} {f : Nat → Int × Int} {k : Nat} {q : Int × Int} (h : prodz d f k = some q) (he : (powz (f k).1 (f k).2 (d k)).2.2 = 0) (hm : (mulz q.1 q.2 (powz (f k).1 (f k).2 (d k)).1 (powz (f k).1 (f k).2 (d k)).2.1).2.2 = 0) : prodz d f (k + 1) = some ((mulz q.1 q.2 (powz (f k).1 (f k).2 (d k)).1 (powz (f k).1 (f k).2 (d k)).2.1).1, (mulz q.1 q.2 (powz (f k).1 (f k).2 (d k)).1 (powz (f k).1 (f k).2 (d k)).2.1).2.1) := by
  rw [prodz, h]; simp only [if_pos he, if_pos hm]
theorem prodz_none {d : Nat → Int} {f : Nat → Int × Int} {k : Nat} (h : prodz d f k = none) : ∀ j, k ≤ j → prodz d f j = none
  | 0, hj => by obtain rfl : k = 0 := by omega
                exact h
  | j + 1, hj => by
    by_cases e : k = j + 1
    · rw [← e]; exact h
    · rw [prodz, prodz_none h j (by omega)]
def okV (n m : Int) (d : Nat → Int) : Bool := vz n m && dimB d
/-- what Rescale answers -/
def resz (n m : Int) (d : Nat → Int) (f : Nat → Int × Int) : (Int × Int × (Nat → Int)) × Int :=
  if (okV n m d && allF f) = true then
    match prodz d f 7 with
    | none => ((0, 0, zeroD), 2)
    | some q => if (divz n m q.1 q.2).2.2 = 0 then (((divz n m q.1 q.2).1, (divz n m q.1 q.2).2.1, d), 0) else ((0, 0, zeroD), 2)
  else ((0, 0, zeroD), 1)
theorem resz_v {n m : Int} {d : Nat → Int} {f : Nat → Int × Int} (h : okV n m d = false) : resz n m d f = ((0, 0, zeroD), 1) := by unfold resz; rw [h]; rfl
theorem resz_f {n m : Int} {d : Nat → Int} {f : Nat → Int × Int} (h : allF f = false) : resz n m d f = ((0, 0, zeroD), 1) := by unfold resz; rw [h, Bool.and_false]; rfl
theorem resz_p {n m : Int} {d : Nat → Int} {f : Nat → Int × Int} (hv : okV n m d = true) (hf : allF f = true) (h : prodz d f 7 = none) : resz n m d f = ((0, 0, zeroD), 2) := by unfold resz; rw [hv, hf, h]; rfl
theorem resz_d {n m : Int} {d : Nat → Int} {f : Nat → Int × Int} {q : Int × Int} (hv : okV n m d = true) (hf : allF f = true) (h : prodz d f 7 = some q) (hd : (divz n m q.1 q.2).2.2 ≠ 0) : resz n m d f = ((0, 0, zeroD), 2) := by unfold resz; rw [hv, hf, h]; simp only [if_neg hd]; rfl
theorem resz_ok {n m : Int} {d : Nat → Int} {f : Nat → Int × Int} {q : Int × Int} (hv : okV n m d = true) (hf : allF f = true) (h : prodz d f 7 = some q) (hd : (divz n m q.1 q.2).2.2 = 0) : resz n m d f = (((divz n m q.1 q.2).1, (divz n m q.1 q.2).2.1, d), 0) := by unfold resz; rw [hv, hf, h]; simp only [if_pos hd]; rfl
set_option maxHeartbeats 4000000 in
set_option maxRecDepth 1000000 in
theorem value_any (n m : Int) (d : Nat → Int) (w : World) : Calls Tryd.prog 24 #[.agg (val9 n m d)] w fun e w' => e = .returned (.bool (okV n m d)) ∧ Below w.heap.size w w' := by
  have VA := Aside0.mk (fun W => valid_any n m W)
  have VD := Aside0.mk (fun W => unit_Valid.any d W)
  unfold okV
  cases hv : vz n m with
  | false =>
    rw [hv] at VA
    go_enter Tryd.func24, Tryd.ntmps24
    go_wp2_with fail
    refine (VA.out _).mono ?_
    rintro e w1 ⟨rfl, hb⟩
    have B := Aside0.mk (box_below hb)
    clear hb
    go_wp2
    go_ret
    exact ⟨rfl, B.out⟩
  | true =>
    rw [hv] at VA
    generalize dimB d = b at *
    go_enter Tryd.func24, Tryd.ntmps24
    go_wp2_with fail
    refine (VA.out _).mono ?_
    rintro e w1 ⟨rfl, hb⟩
    have X := Aside0.mk (show Box9 w1 w.heap.size n m d from box_block hb)
    have B := Aside0.mk (box_below hb)
    clear hb VA
    obtain ⟨x0, x1, y0, y1, y2, y3, y4, y5, y6⟩ := cells9 X.out
    go_wp2_with fail
    refine (VD.out _).mono ?_
    rintro e w2 ⟨rfl, hb⟩
    have B2 := Aside0.mk (keepB hb B.out)
    clear hb
    go_wp2
    go_ret
    exact ⟨by simp, B2.out⟩
end Go.Proofs.YtjnheoelcahkaaaDoor.Rat
