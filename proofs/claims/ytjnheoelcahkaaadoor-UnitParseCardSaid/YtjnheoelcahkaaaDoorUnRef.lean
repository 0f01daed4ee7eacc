/-
  vinculumref53: checked, Mul, Div, Pow, Root.
-/
import Derived.Test.YtjnheoelcahkaaaDoorUnRoot
set_option linter.unusedVariables false
set_option linter.unusedSimpArgs false
namespace Go.Proofs.YtjnheoelcahkaaaDoor.Gv
open Go.RowKit Go.Proofs.YtjnheoelcahkaaaDoorW.PrintWords Go.Proofs.YtjnheoelcahkaaaDoorW.PrintLast Go.Proofs.YtjnheoelcahkaaaDoorW.PrintMore
attribute [local go_sem] max2_int min2_int max_two min_two
theorem vinculumref53_Valid.is (d : Nat → Int) (b : Bool) (h : dimB d = b) (w : World) :
    Calls Tryd.prog 31 #[.agg (agg7 d)] w fun e w' => e = .returned (.bool b) ∧ Below w.heap.size w w' := by rw [← h]; exact vinculumref53_Valid.any d w
def checkedD (d : Nat → Int) : (Nat → Int) × Int := if dimB d = true then (d, 0) else (zeroD, 2)
theorem checkedD_no {d : Nat → Int} (h : dimB d = false) : Ending.returned (.tuple #[.agg (agg7 zeroD), .int .i64 2]) = .returned (.tuple #[.agg (agg7 (checkedD d).1), .int .i64 (checkedD d).2]) := by
  unfold checkedD; rw [if_neg (by rw [h]; decide)]
theorem checkedD_yes {d : Nat → Int} (h : dimB d = true) : Ending.returned (.tuple #[.agg (agg7 d), .int .i64 0]) = .returned (.tuple #[.agg (agg7 (checkedD d).1), .int .i64 (checkedD d).2]) := by
  unfold checkedD; rw [if_pos h]
set_option maxHeartbeats 1000000 in
theorem vinculumref53_checked.any (a : Nat → Int) (w : World) :
    Calls Tryd.prog 39 #[.agg (agg7 a)] w fun e w' => e = .returned (.tuple #[.agg (agg7 (checkedD a).1), .int .i64 (checkedD a).2]) ∧ Below w.heap.size w w' := by
  cases ha : dimB a with
  | false =>
    have va := vinculumref53_Valid.is a _ ha
    have HM := Aside0.mk ha
    clear ha
    go_enter Tryd.func39, Tryd.ntmps39
    go_wp2_with fail
    refine (va _).mono ?_
    rintro e w1 ⟨rfl, hb1⟩
    have T1 := Aside0.mk ((Two.start w a).below hb1)
    have B1 := Aside0.mk (Two.back a hb1)
    clear hb1 va
    obtain ⟨z0, z1, z2, z3, z4, z5, z6⟩ := cells7 T1.out.z
    have f0 := blk_frozen T1.out.z 0
    have f1 := blk_frozen T1.out.z 1
    have f2 := blk_frozen T1.out.z 2
    have f3 := blk_frozen T1.out.z 3
    have f4 := blk_frozen T1.out.z 4
    have f5 := blk_frozen T1.out.z 5
    have f6 := blk_frozen T1.out.z 6
    go_wp2
    exact bodyPost_ret (results_ct (p := 2) (u := 3) rfl _ _ (w.heap.size + 1) 23 (agg7 zeroD) (0, 0) _ rfl (store7 T1.out.z zeroD) Tryd.underlying23 rfl (by kernel_rfl)) rfl ⟨checkedD_no HM.out, below7 B1.out (by omega) zeroD⟩
  | true =>
    have va := vinculumref53_Valid.is a _ ha
    have HM := Aside0.mk ha
    clear ha
    go_enter Tryd.func39, Tryd.ntmps39
    go_wp2_with fail
    refine (va _).mono ?_
    rintro e w1 ⟨rfl, hb1⟩
    have T1 := Aside0.mk ((Two.start w a).below hb1)
    have B1 := Aside0.mk (Two.back a hb1)
    clear hb1 va
    obtain ⟨x0, x1, x2, x3, x4, x5, x6⟩ := cells7 T1.out.x
    obtain ⟨z0, z1, z2, z3, z4, z5, z6⟩ := cells7 T1.out.z
    have f0 := blk_frozen T1.out.z 0
    have f1 := blk_frozen T1.out.z 1
    have f2 := blk_frozen T1.out.z 2
    have f3 := blk_frozen T1.out.z 3
    have f4 := blk_frozen T1.out.z 4
    have f5 := blk_frozen T1.out.z 5
    have f6 := blk_frozen T1.out.z 6
    go_wp2
    exact bodyPost_ret (results_ct (p := 2) (u := 3) rfl _ _ (w.heap.size + 1) 23 (agg7 a) (0, 0) _ rfl (store7 T1.out.z _) Tryd.underlying23 rfl (by kernel_rfl)) rfl ⟨checkedD_yes HM.out, below7 B1.out (by omega) _⟩
theorem combD_bad {f : Int → Int → Int} {a b : Nat → Int} (h : ¬ (dimB a = true ∧ dimB b = true)) : Ending.returned (.tuple #[.agg (agg7 zeroD), .int .i64 1]) = .returned (.tuple #[.agg (agg7 (combD f a b).1), .int .i64 (combD f a b).2]) := by
  unfold combD; rw [if_neg h]
theorem combD_checked {f : Int → Int → Int} {a b : Nat → Int} (ha : dimB a = true) (hb : dimB b = true) : checkedD (mixD f a b 7) = combD f a b := by
  unfold combD checkedD; exact (if_pos (And.intro ha hb)).symm
theorem checked_comb {f : Int → Int → Int} {a b : Nat → Int} (ha : dimB a = true) (hb : dimB b = true) (w : World) :
    Calls Tryd.prog 39 #[.agg (agg7 (mixD f a b 7))] w fun e w' => e = .returned (.tuple #[.agg (agg7 (combD f a b).1), .int .i64 (combD f a b).2]) ∧ Below w.heap.size w w' := by
  rw [← combD_checked ha hb]; exact vinculumref53_checked.any _ w
set_option maxHeartbeats 1000000 in
theorem vinculumref53_Mul.bad (a b : Nat → Int) (w : World) (h : ¬ (dimB a = true ∧ dimB b = true)) :
    Calls Tryd.prog 16 #[.agg (agg7 a), .agg (agg7 b)] w fun e w' => e = .returned (.tuple #[.agg (agg7 (combD (· + ·) a b).1), .int .i64 (combD (· + ·) a b).2]) ∧ Below w.heap.size w w' := by
  have HM := Aside0.mk h
  cases ha : dimB a with
  | false =>
    have va := vinculumref53_Valid.is a _ ha
    clear h ha
    go_enter Tryd.func16, Tryd.ntmps16
    go_wp2_with fail
    refine (va _).mono ?_
    rintro e w1 ⟨rfl, hb1⟩
    have T1 := Aside0.mk ((Three.start w a b).below hb1)
    have B1 := Aside0.mk (Three.back a b hb1)
    clear hb1
    obtain ⟨z0, z1, z2, z3, z4, z5, z6⟩ := cells7 T1.out.z
    have f0 := blk_frozen T1.out.z 0
    have f1 := blk_frozen T1.out.z 1
    have f2 := blk_frozen T1.out.z 2
    have f3 := blk_frozen T1.out.z 3
    have f4 := blk_frozen T1.out.z 4
    have f5 := blk_frozen T1.out.z 5
    have f6 := blk_frozen T1.out.z 6
    go_wp2
    exact bodyPost_ret (results_ct (p := 4) (u := 5) rfl _ _ (w.heap.size + 2) 23 (agg7 zeroD) (0, 0) _ rfl (store7 T1.out.z zeroD) Tryd.underlying23 rfl (by kernel_rfl)) rfl ⟨combD_bad HM.out, below7 B1.out (by omega) zeroD⟩
  | true =>
    have hb : dimB b = false := by
      cases e : dimB b with
      | false => rfl
      | true => exact absurd ⟨ha, e⟩ h
    have va := vinculumref53_Valid.is a _ ha
    have vb := vinculumref53_Valid.is b _ hb
    clear h ha hb
    go_enter Tryd.func16, Tryd.ntmps16
    go_wp2_with fail
    refine (va _).mono ?_
    rintro e w1 ⟨rfl, hb1⟩
    have T1 := Aside0.mk ((Three.start w a b).below hb1)
    have B1 := Aside0.mk (Three.back a b hb1)
    clear hb1
    obtain ⟨y0, y1, y2, y3, y4, y5, y6⟩ := cells7 T1.out.y
    go_wp2_with fail
    refine (vb _).mono ?_
    rintro e w2 ⟨rfl, hb2⟩
    have T2 := Aside0.mk (T1.out.below hb2)
    have B2 := Aside0.mk (keepB hb2 B1.out)
    clear hb2 y0 y1 y2 y3 y4 y5 y6
    obtain ⟨z0, z1, z2, z3, z4, z5, z6⟩ := cells7 T2.out.z
    have f0 := blk_frozen T2.out.z 0
    have f1 := blk_frozen T2.out.z 1
    have f2 := blk_frozen T2.out.z 2
    have f3 := blk_frozen T2.out.z 3
    have f4 := blk_frozen T2.out.z 4
    have f5 := blk_frozen T2.out.z 5
    have f6 := blk_frozen T2.out.z 6
    go_wp2
    exact bodyPost_ret (results_ct (p := 4) (u := 5) rfl _ _ (w.heap.size + 2) 23 (agg7 zeroD) (0, 0) _ rfl (store7 T2.out.z zeroD) Tryd.underlying23 rfl (by kernel_rfl)) rfl ⟨combD_bad HM.out, below7 B2.out (by omega) zeroD⟩
set_option maxHeartbeats 2000000 in
set_option maxRecDepth 1000000 in
theorem vinculumref53_Mul.good (a b : Nat → Int) (w : World) (ha : dimB a = true) (hb : dimB b = true) :
    Calls Tryd.prog 16 #[.agg (agg7 a), .agg (agg7 b)] w fun e w' => e = .returned (.tuple #[.agg (agg7 (combD (· + ·) a b).1), .int .i64 (combD (· + ·) a b).2]) ∧ Below w.heap.size w w' := by
  have va := vinculumref53_Valid.is a _ ha
  have vb := vinculumref53_Valid.is b _ hb
  have HA := Aside0.mk ((dimB_iff a).1 ha)
  have HB := Aside0.mk ((dimB_iff b).1 hb)
  have vc := checked_comb (f := fun x y : Int => x + y) ha hb
  generalize hx : (combD (fun x y : Int => x + y) a b).1 = x at vc ⊢
  generalize hy : (combD (fun x y : Int => x + y) a b).2 = y at vc ⊢
  have VC := Aside0.mk vc
  clear ha hb hx hy vc
  go_enter Tryd.func16, Tryd.ntmps16
  go_wp2_with fail
  refine (va _).mono ?_
  rintro e w1 ⟨rfl, hb1⟩
  have T1 := Aside0.mk ((Three.start w a b).below hb1)
  have B1 := Aside0.mk (Three.back a b hb1)
  clear hb1
  obtain ⟨y0, y1, y2, y3, y4, y5, y6⟩ := cells7 T1.out.y
  go_wp2_with fail
  refine (vb _).mono ?_
  rintro e w2 ⟨rfl, hb2⟩
  have T2 := Aside0.mk (T1.out.below hb2)
  have B2 := Aside0.mk (keepB hb2 B1.out)
  clear hb2 y0 y1 y2 y3 y4 y5 y6 va vb
  go_wp2
  go_loopw [6] (fun i wr => ∃ k : Nat, k ≤ 7 ∧ i = .int .i64 k ∧ Aside0 (Three wr w.heap.size (mixD (fun x y : Int => x + y) a b k) b zeroD) ∧ Aside0 (Below w.heap.size w wr)) (fun i _ => 7 - (intOf i).toNat)
  case atStart => exact ⟨0, Nat.zero_le _, rfl, ⟨by rw [mixD_zero]; exact T2.out⟩, B2⟩
  case round =>
    obtain ⟨k, hk, rfl, T, BW⟩ := hrel
    by_cases hlt : k < 7
    · have hx := cell7 T.out.x hlt
      have hy := cell7 T.out.y hlt
      rw [mixD_at] at hx
      have hl0 : (0 : Int) ≤ (k : Int) := by omega
      have hl7 : (k : Int) < 7 := by omega
      have hz := okD_le (HA.out k hlt)
      have hz' := okD_le (HB.out k hlt)
      have hz1 := hz.1
      have hz2 := hz.2
      have hz3 := hz'.1
      have hz4 := hz'.2
      clear hz hz'
      have hfr := blk_frozen T.out.x k
      go_wp2
      go_still_tail 8, (by kernel_rfl)
      change wpList _ _ _ _ _ wr.drew
      generalize hW : wr.drew = wd
      have BD := Aside0.mk (hW ▸ below_drew BW.out : Below w.heap.size w wd)
      have TD := Aside0.mk (hW ▸ ⟨T.out.x, T.out.y, T.out.z⟩ : Three wd w.heap.size (mixD (fun x y : Int => x + y) a b k) b zeroD)
      have hx' := cell7 TD.out.x hlt
      rw [mixD_at] at hx'
      have hfr' := blk_frozen TD.out.x k
      clear hW
      go_wp2
      go_roundw
      case rel => exact ⟨k + 1, by omega, by go_num, ⟨by rw [← mixD_succ]; exact TD.out.setX hlt _⟩, ⟨BD.out.setCell (Nat.le_refl _) _⟩⟩
      case measure => simp [intOf]; omega
    · have hk7 : k = 7 := by omega
      subst hk7
      clear hlt hk
      obtain ⟨x0, x1, x2, x3, x4, x5, x6⟩ := cells7 T.out.x
      go_wp2_with fail
      refine (VC.out _).mono ?_
      rintro e w3 ⟨rfl, hb3⟩
      have T3 := Aside0.mk (T.out.below hb3)
      have B3 := Aside0.mk (keepB hb3 BW.out)
      clear hb3 x0 x1 x2 x3 x4 x5 x6
      obtain ⟨z0, z1, z2, z3, z4, z5, z6⟩ := cells7 T3.out.z
      have f0 := blk_frozen T3.out.z 0
      have f1 := blk_frozen T3.out.z 1
      have f2 := blk_frozen T3.out.z 2
      have f3 := blk_frozen T3.out.z 3
      have f4 := blk_frozen T3.out.z 4
      have f5 := blk_frozen T3.out.z 5
      have f6 := blk_frozen T3.out.z 6
      go_wp2
      exact bodyPost_ret (results_ct (p := 4) (u := 5) rfl _ _ (w.heap.size + 2) 23 (agg7 x) (0, 0) _ rfl (store7 T3.out.z x) Tryd.underlying23 rfl (by kernel_rfl)) rfl ⟨rfl, below7 B3.out (by omega) x⟩
theorem vinculumref53_Mul.any (a b : Nat → Int) (w : World) :
    Calls Tryd.prog 16 #[.agg (agg7 a), .agg (agg7 b)] w fun e w' => e = .returned (.tuple #[.agg (agg7 (combD (· + ·) a b).1), .int .i64 (combD (· + ·) a b).2]) ∧ Below w.heap.size w w' := by
  by_cases h : dimB a = true ∧ dimB b = true
  · exact vinculumref53_Mul.good a b w h.1 h.2
  · exact vinculumref53_Mul.bad a b w h
set_option maxHeartbeats 1000000 in
theorem vinculumref53_Div.bad (a b : Nat → Int) (w : World) (h : ¬ (dimB a = true ∧ dimB b = true)) :
    Calls Tryd.prog 17 #[.agg (agg7 a), .agg (agg7 b)] w fun e w' => e = .returned (.tuple #[.agg (agg7 (combD (· - ·) a b).1), .int .i64 (combD (· - ·) a b).2]) ∧ Below w.heap.size w w' := by
  have HM := Aside0.mk h
  cases ha : dimB a with
  | false =>
    have va := vinculumref53_Valid.is a _ ha
    clear h ha
    go_enter Tryd.func17, Tryd.ntmps17
    go_wp2_with fail
    refine (va _).mono ?_
    rintro e w1 ⟨rfl, hb1⟩
    have T1 := Aside0.mk ((Three.start w a b).below hb1)
    have B1 := Aside0.mk (Three.back a b hb1)
    clear hb1
    obtain ⟨z0, z1, z2, z3, z4, z5, z6⟩ := cells7 T1.out.z
    have f0 := blk_frozen T1.out.z 0
    have f1 := blk_frozen T1.out.z 1
    have f2 := blk_frozen T1.out.z 2
    have f3 := blk_frozen T1.out.z 3
    have f4 := blk_frozen T1.out.z 4
    have f5 := blk_frozen T1.out.z 5
    have f6 := blk_frozen T1.out.z 6
    go_wp2
    exact bodyPost_ret (results_ct (p := 4) (u := 5) rfl _ _ (w.heap.size + 2) 23 (agg7 zeroD) (0, 0) _ rfl (store7 T1.out.z zeroD) Tryd.underlying23 rfl (by kernel_rfl)) rfl ⟨combD_bad HM.out, below7 B1.out (by omega) zeroD⟩
  | true =>
    have hb : dimB b = false := by
      cases e : dimB b with
      | false => rfl
      | true => exact absurd ⟨ha, e⟩ h
    have va := vinculumref53_Valid.is a _ ha
    have vb := vinculumref53_Valid.is b _ hb
    clear h ha hb
    go_enter Tryd.func17, Tryd.ntmps17
    go_wp2_with fail
    refine (va _).mono ?_
    rintro e w1 ⟨rfl, hb1⟩
    have T1 := Aside0.mk ((Three.start w a b).below hb1)
    have B1 := Aside0.mk (Three.back a b hb1)
    clear hb1
    obtain ⟨y0, y1, y2, y3, y4, y5, y6⟩ := cells7 T1.out.y
    go_wp2_with fail
    refine (vb _).mono ?_
    rintro e w2 ⟨rfl, hb2⟩
    have T2 := Aside0.mk (T1.out.below hb2)
    have B2 := Aside0.mk (keepB hb2 B1.out)
    clear hb2 y0 y1 y2 y3 y4 y5 y6
    obtain ⟨z0, z1, z2, z3, z4, z5, z6⟩ := cells7 T2.out.z
    have f0 := blk_frozen T2.out.z 0
    have f1 := blk_frozen T2.out.z 1
    have f2 := blk_frozen T2.out.z 2
    have f3 := blk_frozen T2.out.z 3
    have f4 := blk_frozen T2.out.z 4
    have f5 := blk_frozen T2.out.z 5
    have f6 := blk_frozen T2.out.z 6
    go_wp2
    exact bodyPost_ret (results_ct (p := 4) (u := 5) rfl _ _ (w.heap.size + 2) 23 (agg7 zeroD) (0, 0) _ rfl (store7 T2.out.z zeroD) Tryd.underlying23 rfl (by kernel_rfl)) rfl ⟨combD_bad HM.out, below7 B2.out (by omega) zeroD⟩
set_option maxHeartbeats 2000000 in
set_option maxRecDepth 1000000 in
theorem vinculumref53_Div.good (a b : Nat → Int) (w : World) (ha : dimB a = true) (hb : dimB b = true) :
    Calls Tryd.prog 17 #[.agg (agg7 a), .agg (agg7 b)] w fun e w' => e = .returned (.tuple #[.agg (agg7 (combD (· - ·) a b).1), .int .i64 (combD (· - ·) a b).2]) ∧ Below w.heap.size w w' := by
  have va := vinculumref53_Valid.is a _ ha
  have vb := vinculumref53_Valid.is b _ hb
  have HA := Aside0.mk ((dimB_iff a).1 ha)
  have HB := Aside0.mk ((dimB_iff b).1 hb)
  have vc := checked_comb (f := fun x y : Int => x - y) ha hb
  generalize hx : (combD (fun x y : Int => x - y) a b).1 = x at vc ⊢
  generalize hy : (combD (fun x y : Int => x - y) a b).2 = y at vc ⊢
  have VC := Aside0.mk vc
  clear ha hb hx hy vc
  go_enter Tryd.func17, Tryd.ntmps17
  go_wp2_with fail
  refine (va _).mono ?_
  rintro e w1 ⟨rfl, hb1⟩
  have T1 := Aside0.mk ((Three.start w a b).below hb1)
  have B1 := Aside0.mk (Three.back a b hb1)
  clear hb1
  obtain ⟨y0, y1, y2, y3, y4, y5, y6⟩ := cells7 T1.out.y
  go_wp2_with fail
  refine (vb _).mono ?_
  rintro e w2 ⟨rfl, hb2⟩
  have T2 := Aside0.mk (T1.out.below hb2)
  have B2 := Aside0.mk (keepB hb2 B1.out)
  clear hb2 y0 y1 y2 y3 y4 y5 y6 va vb
  go_wp2
  go_loopw [6] (fun i wr => ∃ k : Nat, k ≤ 7 ∧ i = .int .i64 k ∧ Aside0 (Three wr w.heap.size (mixD (fun x y : Int => x - y) a b k) b zeroD) ∧ Aside0 (Below w.heap.size w wr)) (fun i _ => 7 - (intOf i).toNat)
  case atStart => exact ⟨0, Nat.zero_le _, rfl, ⟨by rw [mixD_zero]; exact T2.out⟩, B2⟩
  case round =>
    obtain ⟨k, hk, rfl, T, BW⟩ := hrel
    by_cases hlt : k < 7
    · have hx := cell7 T.out.x hlt
      have hy := cell7 T.out.y hlt
      rw [mixD_at] at hx
      have hl0 : (0 : Int) ≤ (k : Int) := by omega
      have hl7 : (k : Int) < 7 := by omega
      have hz := okD_le (HA.out k hlt)
      have hz' := okD_le (HB.out k hlt)
      have hz1 := hz.1
      have hz2 := hz.2
      have hz3 := hz'.1
      have hz4 := hz'.2
      clear hz hz'
      have hfr := blk_frozen T.out.x k
      go_wp2
      go_still_tail 8, (by kernel_rfl)
      change wpList _ _ _ _ _ wr.drew
      generalize hW : wr.drew = wd
      have BD := Aside0.mk (hW ▸ below_drew BW.out : Below w.heap.size w wd)
      have TD := Aside0.mk (hW ▸ ⟨T.out.x, T.out.y, T.out.z⟩ : Three wd w.heap.size (mixD (fun x y : Int => x - y) a b k) b zeroD)
      have hx' := cell7 TD.out.x hlt
      rw [mixD_at] at hx'
      have hfr' := blk_frozen TD.out.x k
      clear hW
      go_wp2
      go_roundw
      case rel => exact ⟨k + 1, by omega, by go_num, ⟨by rw [← mixD_succ]; exact TD.out.setX hlt _⟩, ⟨BD.out.setCell (Nat.le_refl _) _⟩⟩
      case measure => simp [intOf]; omega
    · have hk7 : k = 7 := by omega
      subst hk7
      clear hlt hk
      obtain ⟨x0, x1, x2, x3, x4, x5, x6⟩ := cells7 T.out.x
      go_wp2_with fail
      refine (VC.out _).mono ?_
      rintro e w3 ⟨rfl, hb3⟩
      have T3 := Aside0.mk (T.out.below hb3)
      have B3 := Aside0.mk (keepB hb3 BW.out)
      clear hb3 x0 x1 x2 x3 x4 x5 x6
      obtain ⟨z0, z1, z2, z3, z4, z5, z6⟩ := cells7 T3.out.z
      have f0 := blk_frozen T3.out.z 0
      have f1 := blk_frozen T3.out.z 1
      have f2 := blk_frozen T3.out.z 2
      have f3 := blk_frozen T3.out.z 3
      have f4 := blk_frozen T3.out.z 4
      have f5 := blk_frozen T3.out.z 5
      have f6 := blk_frozen T3.out.z 6
      go_wp2
      exact bodyPost_ret (results_ct (p := 4) (u := 5) rfl _ _ (w.heap.size + 2) 23 (agg7 x) (0, 0) _ rfl (store7 T3.out.z x) Tryd.underlying23 rfl (by kernel_rfl)) rfl ⟨rfl, below7 B3.out (by omega) x⟩
theorem vinculumref53_Div.any (a b : Nat → Int) (w : World) :
    Calls Tryd.prog 17 #[.agg (agg7 a), .agg (agg7 b)] w fun e w' => e = .returned (.tuple #[.agg (agg7 (combD (· - ·) a b).1), .int .i64 (combD (· - ·) a b).2]) ∧ Below w.heap.size w w' := by
  by_cases h : dimB a = true ∧ dimB b = true
  · exact vinculumref53_Div.good a b w h.1 h.2
  · exact vinculumref53_Div.bad a b w h
end Go.Proofs.YtjnheoelcahkaaaDoor.Gv
