/-
  unit.combine, at whatever function of two numbers; Mul, Div and Pow.
-/
import Derived.Test.YtjnheoelcahkaaaDoorUnRefV
import Derived.StillTailTactics
import Derived.Outline
set_option linter.unusedVariables false
set_option linter.unusedSimpArgs false
namespace Go.Proofs.YtjnheoelcahkaaaDoor.Gv
open Go.RowKit Go.Proofs.YtjnheoelcahkaaaDoorW.PrintWords Go.Proofs.YtjnheoelcahkaaaDoorW.PrintLast Go.Proofs.YtjnheoelcahkaaaDoorW.PrintMore
def zeroD (_ : Nat) : Int := 0
/-- the dimension with another number at one place -/
def updD (d : Nat → Int) (k : Nat) (v : Int) (j : Nat) : Int := if j = k then v else d j
theorem updD_same (d : Nat → Int) (k : Nat) (v : Int) : updD d k v k = v := if_pos rfl
theorem updD_ne (d : Nat → Int) {k j : Nat} (v : Int) (h : ¬ j = k) : updD d k v j = d j := if_neg h
/-- the function of two dimensions, at the first places only -/
def mixD (f : Int → Int → Int) (a b : Nat → Int) (k j : Nat) : Int := if j < k then f (a j) (b j) else a j
theorem mixD_zero (f : Int → Int → Int) (a b : Nat → Int) : mixD f a b 0 = a := by funext j; exact if_neg (Nat.not_lt_zero j)
theorem mixD_at (f : Int → Int → Int) (a b : Nat → Int) (k : Nat) : mixD f a b k k = a k := if_neg (Nat.lt_irrefl k)
theorem mixD_succ (f : Int → Int → Int) (a b : Nat → Int) (k : Nat) : updD (mixD f a b k) k (f (a k) (b k)) = mixD f a b (k + 1) := by
  funext j
  unfold updD mixD
  by_cases e : j = k
  · subst e; rw [if_pos rfl, if_pos (by omega)]
  · rw [if_neg e]
    by_cases h : j < k
    · rw [if_pos h, if_pos (by omega)]
    · rw [if_neg h, if_neg (by omega)]
/-- what combine answers -/
def combD (f : Int → Int → Int) (a b : Nat → Int) : (Nat → Int) × Int :=
  if dimB a = true ∧ dimB b = true then (if dimB (mixD f a b 7) = true then (mixD f a b 7, 0) else (zeroD, 2)) else (zeroD, 1)
/-- a block that is written at one place -/
theorem agg7_set (d : Nat → Int) {k : Nat} (hk : k < 7) (v : Int) : (agg7 d).setIfInBounds k (.int .i64 v) = agg7 (updD d k v) := by
  rcases lt7 hk with rfl | rfl | rfl | rfl | rfl | rfl | rfl <;> simp [agg7, updD]
theorem set7 {w : World} {b : Nat} {d : Nat → Int} (h : Box7 w b d) {k : Nat} (hk : k < 7) (v : Int) : Box7 (w.setCell ⟨b, k, none⟩ (.int .i64 v)) b (updD d k v) :=
  blk_put h k _ (agg7_set d hk v)
/-- what is asked of the function that combine is given: it may draw and make nothing -/
def FnIn (g : Nat) (lb : Array Value) (f : Int → Int → Int) (B : Nat) (w : World) : Prop :=
  ∀ (W : World) (x y : Int), Below B w W → -100 ≤ x → x ≤ 100 → -100 ≤ y → y ≤ 100 → Calls Tryd.prog g #[.int .i64 x, .int .i64 y] W fun e w' => e = .returned (.int .i64 (f x y)) ∧ W = w'

theorem store7 {w : World} {b : Nat} {d0 : Nat → Int} (h : Box7 w b d0) (d : Nat → Int) : Box7 (((((((w.setCell ⟨b, 0, none⟩ (.int .i64 (d 0))).setCell ⟨b, 1, none⟩ (.int .i64 (d 1))).setCell ⟨b, 2, none⟩ (.int .i64 (d 2))).setCell ⟨b, 3, none⟩ (.int .i64 (d 3))).setCell ⟨b, 4, none⟩ (.int .i64 (d 4))).setCell ⟨b, 5, none⟩ (.int .i64 (d 5))).setCell ⟨b, 6, none⟩ (.int .i64 (d 6))) b d := by
  have h6 := set7 (set7 (set7 (set7 (set7 (set7 (set7 h (k := 0) (by omega) (d 0)) (k := 1) (by omega) (d 1)) (k := 2) (by omega) (d 2)) (k := 3) (by omega) (d 3)) (k := 4) (by omega) (d 4)) (k := 5) (by omega) (d 5)) (k := 6) (by omega) (d 6)
  have e : agg7 (updD (updD (updD (updD (updD (updD (updD d0 0 (d 0)) 1 (d 1)) 2 (d 2)) 3 (d 3)) 4 (d 4)) 5 (d 5)) 6 (d 6)) = agg7 d := by simp [agg7, updD]
  unfold Box7 at h6
  rw [e] at h6
  exact h6
theorem unit_Valid.is (d : Nat → Int) (b : Bool) (h : dimB d = b) (w : World) :
    Calls Tryd.prog 32 #[.agg (agg7 d)] w fun e w' => e = .returned (.bool b) ∧ Below w.heap.size w w' := by rw [← h]; exact unit_Valid.any d w
theorem cells7 {w : World} {b : Nat} {d : Nat → Int} (h : Box7 w b d) : w.cell? ⟨b, 0, none⟩ = some (.int .i64 (d 0)) ∧ w.cell? ⟨b, 1, none⟩ = some (.int .i64 (d 1)) ∧ w.cell? ⟨b, 2, none⟩ = some (.int .i64 (d 2)) ∧ w.cell? ⟨b, 3, none⟩ = some (.int .i64 (d 3)) ∧ w.cell? ⟨b, 4, none⟩ = some (.int .i64 (d 4)) ∧ w.cell? ⟨b, 5, none⟩ = some (.int .i64 (d 5)) ∧ w.cell? ⟨b, 6, none⟩ = some (.int .i64 (d 6)) :=
  ⟨cell7 h (by omega), cell7 h (by omega), cell7 h (by omega), cell7 h (by omega), cell7 h (by omega), cell7 h (by omega), cell7 h (by omega)⟩
/-- the three boxes of combine -/
structure Three (w : World) (B : Nat) (a b c : Nat → Int) : Prop where
  x : Box7 w B a
  y : Box7 w (B + 1) b
  z : Box7 w (B + 2) c
theorem Three.below {w w1 : World} {B : Nat} {a b c : Nat → Int} (h : Three w B a b c) (hb : Below w.heap.size w w1) : Three w1 B a b c := ⟨blk_below h.x hb, blk_below h.y hb, blk_below h.z hb⟩
theorem Three.start (w : World) (a b : Nat → Int) : Three (((w.alloc (.cells (agg7 a) 23)).alloc (.cells (agg7 b) 23)).alloc (.cells (agg7 zeroD) 23)) w.heap.size a b zeroD :=
  ⟨blk_alloc (blk_alloc (blk_new _ _) _) _, blk_alloc (by have := blk_new (w.alloc (.cells (agg7 a) 23)) (.cells (agg7 b) 23); simpa using this) _, by have := blk_new ((w.alloc (.cells (agg7 a) 23)).alloc (.cells (agg7 b) 23)) (.cells (agg7 zeroD) 23); rw [show ((w.alloc (.cells (agg7 a) 23)).alloc (.cells (agg7 b) 23)).heap.size = w.heap.size + 2 by simp] at this; exact this⟩
theorem Three.back {w w1 : World} (a b : Nat → Int) (hb : Below (((w.alloc (.cells (agg7 a) 23)).alloc (.cells (agg7 b) 23)).alloc (.cells (agg7 zeroD) 23)).heap.size (((w.alloc (.cells (agg7 a) 23)).alloc (.cells (agg7 b) 23)).alloc (.cells (agg7 zeroD) 23)) w1) : Below w.heap.size w w1 :=
  box_below (box_below (box_below hb))
theorem below7 {B : Nat} {w w1 : World} {g : Nat} (h : Below B w w1) (hg : B ≤ g) (d : Nat → Int) : Below B w (((((((w1.setCell ⟨g, 0, none⟩ (.int .i64 (d 0))).setCell ⟨g, 1, none⟩ (.int .i64 (d 1))).setCell ⟨g, 2, none⟩ (.int .i64 (d 2))).setCell ⟨g, 3, none⟩ (.int .i64 (d 3))).setCell ⟨g, 4, none⟩ (.int .i64 (d 4))).setCell ⟨g, 5, none⟩ (.int .i64 (d 5))).setCell ⟨g, 6, none⟩ (.int .i64 (d 6))) :=
  ((((((h.setCell hg _).setCell hg _).setCell hg _).setCell hg _).setCell hg _).setCell hg _).setCell hg _
set_option maxHeartbeats 1000000 in
theorem unit_combine.bad (a b : Nat → Int) (g : Nat) (lb : Array Value) (w : World) (h : ¬ (dimB a = true ∧ dimB b = true)) :
    Calls Tryd.prog 35 #[.agg (agg7 a), .agg (agg7 b), .func (.func g) #[] lb] w fun e w' => e = .returned (.tuple #[.agg (agg7 zeroD), .int .i64 1]) ∧ Below w.heap.size w w' := by
  cases ha : dimB a with
  | false =>
    have va := unit_Valid.is a _ ha
    clear h ha
    go_enter Tryd.func35, Tryd.ntmps35
    go_wp2_with (go_at_call 32; refine (va _).mono ?_; rintro e w1 ⟨rfl, hb1⟩; have T1 := Aside0.mk ((Three.start w a b).below hb1); have B1 := Aside0.mk (Three.back a b hb1); obtain ⟨z0, z1, z2, z3, z4, z5, z6⟩ := cells7 T1.out.z; have f0 := blk_frozen T1.out.z 0; have f1 := blk_frozen T1.out.z 1; have f2 := blk_frozen T1.out.z 2; have f3 := blk_frozen T1.out.z 3; have f4 := blk_frozen T1.out.z 4; have f5 := blk_frozen T1.out.z 5; have f6 := blk_frozen T1.out.z 6; clear hb1)
    exact bodyPost_ret (results_ct rfl _ _ (w.heap.size + 2) 23 (agg7 zeroD) (0, 0) _ rfl (store7 T1.out.z zeroD) Tryd.underlying23 rfl (by kernel_rfl)) rfl ⟨rfl, below7 B1.out (by omega) zeroD⟩
  | true =>
    have hb : dimB b = false := by
      cases e : dimB b with
      | false => rfl
      | true => exact absurd ⟨ha, e⟩ h
    have va := unit_Valid.is a _ ha
    have vb := unit_Valid.is b _ hb
    clear h ha hb
    go_enter Tryd.func35, Tryd.ntmps35
    go_wp2_with fail
    refine (va _).mono ?_
    rintro e w1 ⟨rfl, hb1⟩
    have T1 := Aside0.mk ((Three.start w a b).below hb1)
    have B1 := Aside0.mk (Three.back a b hb1)
    have HS := Aside0.mk hb1.size
    clear hb1
    obtain ⟨y0, y1, y2, y3, y4, y5, y6⟩ := cells7 T1.out.y
    go_wp2_with fail
    refine (vb _).mono ?_
    rintro e w2 ⟨rfl, hb2⟩
    have T2 := Aside0.mk (T1.out.below hb2)
    have B2 := Aside0.mk (keepB hb2 B1.out)
    clear hb2 y0 y1 y2 y3 y4 y5 y6
    obtain ⟨z0, z1, z2, z3, z4, z5, z6⟩ := cells7 T2.out.z
    have f0 := blk_frozen T2.out.z 0
    have f1 := blk_frozen T2.out.z 1
    have f2 := blk_frozen T2.out.z 2
    have f3 := blk_frozen T2.out.z 3
    have f4 := blk_frozen T2.out.z 4
    have f5 := blk_frozen T2.out.z 5
    have f6 := blk_frozen T2.out.z 6
    go_wp2
    exact bodyPost_ret (results_ct rfl _ _ (w.heap.size + 2) 23 (agg7 zeroD) (0, 0) _ rfl (store7 T2.out.z zeroD) Tryd.underlying23 rfl (by kernel_rfl)) rfl ⟨rfl, below7 B2.out (by omega) zeroD⟩
end Go.Proofs.YtjnheoelcahkaaaDoor.Gv
