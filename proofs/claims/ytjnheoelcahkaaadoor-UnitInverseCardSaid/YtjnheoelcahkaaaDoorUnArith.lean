/-
  unit.Mul, Div and Pow.
-/
import Derived.Test.YtjnheoelcahkaaaDoorUnComb2
set_option linter.unusedVariables false
set_option linter.unusedSimpArgs false
namespace Go.Proofs.YtjnheoelcahkaaaDoor.Gv
open Go.RowKit Go.Proofs.YtjnheoelcahkaaaDoorW.PrintWords Go.Proofs.YtjnheoelcahkaaaDoorW.PrintLast Go.Proofs.YtjnheoelcahkaaaDoorW.PrintMore
attribute [local go_sem] max2_int min2_int max_two min_two
theorem mul1 (W : World) (x y : Int) (h1 : -100 ≤ x) (h2 : x ≤ 100) (h3 : -100 ≤ y) (h4 : y ≤ 100) : Calls Tryd.prog 37 (#[.int .i64 x, .int .i64 y] ++ #[]) W fun e w' => e = .returned (.int .i64 (x + y)) ∧ W = w' := by
  show Calls Tryd.prog 37 #[.int .i64 x, .int .i64 y] W _
  go_enter Tryd.func37, Tryd.ntmps37
  go_wp2
  go_ret
  exact ⟨rfl, rfl⟩
theorem div1 (W : World) (x y : Int) (h1 : -100 ≤ x) (h2 : x ≤ 100) (h3 : -100 ≤ y) (h4 : y ≤ 100) : Calls Tryd.prog 38 (#[.int .i64 x, .int .i64 y] ++ #[]) W fun e w' => e = .returned (.int .i64 (x - y)) ∧ W = w' := by
  show Calls Tryd.prog 38 #[.int .i64 x, .int .i64 y] W _
  go_enter Tryd.func38, Tryd.ntmps38
  go_wp2
  go_ret
  exact ⟨rfl, rfl⟩
theorem pow1 (W : World) (g : Nat) (x y n : Int) (hc : W.cell? ⟨g, 0, none⟩ = some (.int .i64 n)) (hn1 : -101 ≤ n) (hn2 : n ≤ 101) (h1 : -100 ≤ x) (h2 : x ≤ 100) (h3 : -100 ≤ y) (h4 : y ≤ 100) : Calls Tryd.prog 36 (#[.int .i64 x, .int .i64 y] ++ #[.pointer (some ⟨g, 0, none⟩)]) W fun e w' => e = .returned (.int .i64 (x * n)) ∧ W = w' := by
  show Calls Tryd.prog 36 #[.int .i64 x, .int .i64 y, .pointer (some ⟨g, 0, none⟩)] W _
  have hm : IntKind.i64.wrap (x * n) = x * n := IntWalk.i64_in _ (by
    have k1 := Int.natAbs_mul x n
    have k2 : x.natAbs * n.natAbs ≤ 100 * 101 := Nat.mul_le_mul (by omega) (by omega)
    omega)
  go_enter Tryd.func36, Tryd.ntmps36
  go_wp2
  go_ret
  exact ⟨rfl, rfl⟩
set_option maxHeartbeats 1000000 in
theorem unit_Mul.any (a b : Nat → Int) (w : World) :
    Calls Tryd.prog 13 #[.agg (agg7 a), .agg (agg7 b)] w fun e w' => e = .returned (.tuple #[.agg (agg7 (combD (· + ·) a b).1), .int .i64 (combD (· + ·) a b).2]) ∧ Below w.heap.size w w' := by
  have call := fun W => unit_combine.any a b 37 #[] (· + ·) W (enters_of Tryd.func37 (by kernel_rfl) rfl) (fun W' x y _ h1 h2 h3 h4 => mul1 W' x y h1 h2 h3 h4)
  generalize hx : (combD (fun x y : Int => x + y) a b).1 = x at call ⊢
  generalize hy : (combD (fun x y : Int => x + y) a b).2 = y at call ⊢
  clear hx hy
  go_enter Tryd.func13, Tryd.ntmps13
  go_wp2_with fail
  refine (call _).mono ?_
  rintro e w1 ⟨rfl, hb1⟩
  have T1 := Aside0.mk ((Three.start w a b).below hb1)
  have B1 := Aside0.mk (Three.back a b hb1)
  clear hb1
  obtain ⟨z0, z1, z2, z3, z4, z5, z6⟩ := cells7 T1.out.z
  have f0 := blk_frozen T1.out.z 0
  have f1 := blk_frozen T1.out.z 1
  have f2 := blk_frozen T1.out.z 2
  have f3 := blk_frozen T1.out.z 3
  have f4 := blk_frozen T1.out.z 4
  have f5 := blk_frozen T1.out.z 5
  have f6 := blk_frozen T1.out.z 6
  go_wp2
  exact bodyPost_ret (results_ct (p := 4) (u := 5) rfl _ _ (w.heap.size + 2) 23 (agg7 x) (0, 0) _ rfl (store7 T1.out.z x) Tryd.underlying23 rfl (by kernel_rfl)) rfl ⟨rfl, below7 B1.out (by omega) x⟩
set_option maxHeartbeats 1000000 in
theorem unit_Div.any (a b : Nat → Int) (w : World) :
    Calls Tryd.prog 14 #[.agg (agg7 a), .agg (agg7 b)] w fun e w' => e = .returned (.tuple #[.agg (agg7 (combD (· - ·) a b).1), .int .i64 (combD (· - ·) a b).2]) ∧ Below w.heap.size w w' := by
  have call := fun W => unit_combine.any a b 38 #[] (· - ·) W (enters_of Tryd.func38 (by kernel_rfl) rfl) (fun W' x y _ h1 h2 h3 h4 => div1 W' x y h1 h2 h3 h4)
  generalize hx : (combD (fun x y : Int => x - y) a b).1 = x at call ⊢
  generalize hy : (combD (fun x y : Int => x - y) a b).2 = y at call ⊢
  clear hx hy
  go_enter Tryd.func14, Tryd.ntmps14
  go_wp2_with fail
  refine (call _).mono ?_
  rintro e w1 ⟨rfl, hb1⟩
  have T1 := Aside0.mk ((Three.start w a b).below hb1)
  have B1 := Aside0.mk (Three.back a b hb1)
  clear hb1
  obtain ⟨z0, z1, z2, z3, z4, z5, z6⟩ := cells7 T1.out.z
  have f0 := blk_frozen T1.out.z 0
  have f1 := blk_frozen T1.out.z 1
  have f2 := blk_frozen T1.out.z 2
  have f3 := blk_frozen T1.out.z 3
  have f4 := blk_frozen T1.out.z 4
  have f5 := blk_frozen T1.out.z 5
  have f6 := blk_frozen T1.out.z 6
  go_wp2
  exact bodyPost_ret (results_ct (p := 4) (u := 5) rfl _ _ (w.heap.size + 2) 23 (agg7 x) (0, 0) _ rfl (store7 T1.out.z x) Tryd.underlying23 rfl (by kernel_rfl)) rfl ⟨rfl, below7 B1.out (by omega) x⟩
/-- the exponent that counts -/
def clampD (n : Int) : Int := max (-101) (min 101 n)
set_option maxHeartbeats 1000000 in
theorem unit_Pow.any (a : Nat → Int) (n : Int) (w : World) :
    Calls Tryd.prog 12 #[.agg (agg7 a), .int .i64 n] w fun e w' => e = .returned (.tuple #[.agg (agg7 (combD (fun x _ => x * clampD n) a a).1), .int .i64 (combD (fun x _ => x * clampD n) a a).2]) ∧ Below w.heap.size w w' := by
  have hc1 : -101 ≤ clampD n := by unfold clampD; omega
  have hc2 : clampD n ≤ 101 := by unfold clampD; omega
  have call := fun W g (hc : W.cell? ⟨g, 0, none⟩ = some (.int .i64 (clampD n))) => unit_combine.any a a 36 #[.pointer (some ⟨g, 0, none⟩)] (fun x _ => x * clampD n) W (enters_of Tryd.func36 (by kernel_rfl) rfl) (fun W' x y hb h1 h2 h3 h4 => pow1 W' g x y (clampD n) (keepC hb hc) hc1 hc2 h1 h2 h3 h4)
  generalize hx : (combD (fun x y : Int => x * clampD n) a a).1 = x at call ⊢
  generalize hy : (combD (fun x y : Int => x * clampD n) a a).2 = y at call ⊢
  clear hx hy hc1 hc2
  have hcl : clampD n = 101 ∧ 101 ≤ n ∨ clampD n = -101 ∧ n ≤ -101 ∨ clampD n = n ∧ n < 101 ∧ -101 < n := by unfold clampD; omega
  generalize clampD n = c at *
  have call' : ∀ w : World, Calls Tryd.prog 35 #[.agg (agg7 a), .agg (agg7 a), .func (.func 36) #[] #[.pointer (some ⟨w.heap.size + 1, 0, none⟩)]] (((w.alloc (.cells (agg7 a) 23)).alloc (.cells #[.int .i64 c] 3)).alloc (.cells (agg7 zeroD) 23)) fun e w1 => e = .returned (.tuple #[.agg (agg7 x), .int .i64 y]) ∧ Box7 w1 (w.heap.size + 2) zeroD ∧ Aside0 (Below w.heap.size w w1) := fun w =>
    (call _ (w.heap.size + 1) (by
      have h1 : (((w.alloc (.cells (agg7 a) 23)).alloc (.cells #[.int .i64 c] 3)).alloc (.cells (agg7 zeroD) 23)).heap[w.heap.size + 1]? = some (.cells #[.int .i64 c] 3 (0, 0)) := blk_alloc (by have := blk_new (w.alloc (.cells (agg7 a) 23)) (.cells #[.int .i64 c] 3); simpa using this) _
      exact (blk_cell h1 0).trans rfl)).mono fun e w1 ⟨he, hb⟩ => ⟨he, by
        have h2 : (((w.alloc (.cells (agg7 a) 23)).alloc (.cells #[.int .i64 c] 3)).alloc (.cells (agg7 zeroD) 23)).heap[w.heap.size + 2]? = some (.cells (agg7 zeroD) 23 (0, 0)) := by
          have := blk_new ((w.alloc (.cells (agg7 a) 23)).alloc (.cells #[.int .i64 c] 3)) (.cells (agg7 zeroD) 23)
          rw [show ((w.alloc (.cells (agg7 a) 23)).alloc (.cells #[.int .i64 c] 3)).heap.size = w.heap.size + 2 by simp] at this
          exact this
        exact blk_below h2 hb, ⟨box_below (box_below (box_below hb))⟩⟩
  clear call
  rcases hcl with ⟨hc, h1⟩ | ⟨hc, h1⟩ | ⟨hc, h1, h2⟩
  · subst hc
    go_enter Tryd.func12, Tryd.ntmps12
    go_wp2_with fail
    refine (call' _).mono ?_
    rintro e w1 ⟨rfl, hz, B1⟩
    have HZ := Aside0.mk hz
    clear hz
    obtain ⟨z0, z1, z2, z3, z4, z5, z6⟩ := cells7 HZ.out
    have f0 := blk_frozen HZ.out 0
    have f1 := blk_frozen HZ.out 1
    have f2 := blk_frozen HZ.out 2
    have f3 := blk_frozen HZ.out 3
    have f4 := blk_frozen HZ.out 4
    have f5 := blk_frozen HZ.out 5
    have f6 := blk_frozen HZ.out 6
    go_wp2
    exact bodyPost_ret (results_ct (p := 4) (u := 5) rfl _ _ (w.heap.size + 2) 23 (agg7 x) (0, 0) _ rfl (store7 HZ.out x) Tryd.underlying23 rfl (by kernel_rfl)) rfl ⟨rfl, below7 B1.out (by omega) x⟩
  · subst hc
    go_enter Tryd.func12, Tryd.ntmps12
    go_wp2_with fail
    refine (call' _).mono ?_
    rintro e w1 ⟨rfl, hz, B1⟩
    have HZ := Aside0.mk hz
    clear hz
    obtain ⟨z0, z1, z2, z3, z4, z5, z6⟩ := cells7 HZ.out
    have f0 := blk_frozen HZ.out 0
    have f1 := blk_frozen HZ.out 1
    have f2 := blk_frozen HZ.out 2
    have f3 := blk_frozen HZ.out 3
    have f4 := blk_frozen HZ.out 4
    have f5 := blk_frozen HZ.out 5
    have f6 := blk_frozen HZ.out 6
    go_wp2
    exact bodyPost_ret (results_ct (p := 4) (u := 5) rfl _ _ (w.heap.size + 2) 23 (agg7 x) (0, 0) _ rfl (store7 HZ.out x) Tryd.underlying23 rfl (by kernel_rfl)) rfl ⟨rfl, below7 B1.out (by omega) x⟩
  · subst hc
    go_enter Tryd.func12, Tryd.ntmps12
    go_wp2_with fail
    refine (call' _).mono ?_
    rintro e w1 ⟨rfl, hz, B1⟩
    have HZ := Aside0.mk hz
    clear hz
    obtain ⟨z0, z1, z2, z3, z4, z5, z6⟩ := cells7 HZ.out
    have f0 := blk_frozen HZ.out 0
    have f1 := blk_frozen HZ.out 1
    have f2 := blk_frozen HZ.out 2
    have f3 := blk_frozen HZ.out 3
    have f4 := blk_frozen HZ.out 4
    have f5 := blk_frozen HZ.out 5
    have f6 := blk_frozen HZ.out 6
    go_wp2
    exact bodyPost_ret (results_ct (p := 4) (u := 5) rfl _ _ (w.heap.size + 2) 23 (agg7 x) (0, 0) _ rfl (store7 HZ.out x) Tryd.underlying23 rfl (by kernel_rfl)) rfl ⟨rfl, below7 B1.out (by omega) x⟩
end Go.Proofs.YtjnheoelcahkaaaDoor.Gv
