/-
  vinculumref53: Pow, Root.
-/
import Derived.Test.YtjnheoelcahkaaaDoorUnRef
set_option linter.unusedVariables false
set_option linter.unusedSimpArgs false
namespace Go.Proofs.YtjnheoelcahkaaaDoor.Gv
open Go.RowKit Go.Proofs.YtjnheoelcahkaaaDoorW.PrintWords Go.Proofs.YtjnheoelcahkaaaDoorW.PrintLast Go.Proofs.YtjnheoelcahkaaaDoorW.PrintMore
attribute [local go_sem] max2_int min2_int max_two min_two
theorem mul_in {x n : Int} (h1 : -100 ≤ x) (h2 : x ≤ 100) (h3 : -101 ≤ n) (h4 : n ≤ 101) : IntKind.i64.wrap (x * n) = x * n := IntWalk.i64_in _ (by
    have k1 := Int.natAbs_mul x n
    have k2 : x.natAbs * n.natAbs ≤ 100 * 101 := Nat.mul_le_mul (by omega) (by omega)
    omega)
set_option maxHeartbeats 1000000 in
theorem vinculumref53_Pow.bad (a : Nat → Int) (n : Int) (w : World) (h : ¬ dimB a = true) :
    Calls Tryd.prog 18 #[.agg (agg7 a), .int .i64 n] w fun e w' => e = .returned (.tuple #[.agg (agg7 (combD (fun x _ => x * clampD n) a a).1), .int .i64 (combD (fun x _ => x * clampD n) a a).2]) ∧ Below w.heap.size w w' := by
  have HM := Aside0.mk (fun h' : dimB a = true ∧ dimB a = true => h h'.1)
  have ha : dimB a = false := by simpa using h
  have va := vinculumref53_Valid.is a _ ha
  clear h ha
  go_enter Tryd.func18, Tryd.ntmps18
  go_wp2_with fail
  refine (va _).mono ?_
  rintro e w1 ⟨rfl, hb1⟩
  have T1 := Aside0.mk ((Two.start w a).below hb1)
  have B1 := Aside0.mk (Two.back a hb1)
  clear hb1
  obtain ⟨z0, z1, z2, z3, z4, z5, z6⟩ := cells7 T1.out.z
  have f0 := blk_frozen T1.out.z 0
  have f1 := blk_frozen T1.out.z 1
  have f2 := blk_frozen T1.out.z 2
  have f3 := blk_frozen T1.out.z 3
  have f4 := blk_frozen T1.out.z 4
  have f5 := blk_frozen T1.out.z 5
  have f6 := blk_frozen T1.out.z 6
  go_wp2
  exact bodyPost_ret (results_ct (p := 4) (u := 5) rfl _ _ (w.heap.size + 1) 23 (agg7 zeroD) (0, 0) _ rfl (store7 T1.out.z zeroD) Tryd.underlying23 rfl (by kernel_rfl)) rfl ⟨combD_bad HM.out, below7 B1.out (by omega) zeroD⟩
set_option maxHeartbeats 2000000 in
set_option maxRecDepth 1000000 in
theorem vinculumref53_Pow.good (a : Nat → Int) (n : Int) (w : World) (ha : dimB a = true) :
    Calls Tryd.prog 18 #[.agg (agg7 a), .int .i64 n] w fun e w' => e = .returned (.tuple #[.agg (agg7 (combD (fun x _ => x * clampD n) a a).1), .int .i64 (combD (fun x _ => x * clampD n) a a).2]) ∧ Below w.heap.size w w' := by
  have va := vinculumref53_Valid.is a _ ha
  have HA := Aside0.mk ((dimB_iff a).1 ha)
  have vc := checked_comb (f := (fun x _ => x * clampD n)) ha ha
  have hc1 : -101 ≤ clampD n := by unfold clampD; omega
  have hc2 : clampD n ≤ 101 := by unfold clampD; omega
  generalize hx : (combD (fun x _ => x * clampD n) a a).1 = x at vc ⊢
  generalize hy : (combD (fun x _ => x * clampD n) a a).2 = y at vc ⊢
  clear ha hx hy
  have hcl : clampD n = 101 ∧ 101 ≤ n ∨ clampD n = -101 ∧ n ≤ -101 ∨ clampD n = n ∧ n < 101 ∧ -101 < n := by unfold clampD; omega
  generalize clampD n = c at *
  have HC := Aside0.mk hcl
  have VC := Aside0.mk vc
  clear hcl vc
  rcases HC.out with ⟨hc, h1⟩ | ⟨hc, h1⟩ | ⟨hc, h1, h2⟩
  · subst hc
    clear HC
    go_enter Tryd.func18, Tryd.ntmps18
    go_wp2_with fail
    refine (va _).mono ?_
    rintro e w1 ⟨rfl, hb1⟩
    have T1 := Aside0.mk ((Two.start w a).below hb1)
    have B1 := Aside0.mk (Two.back a hb1)
    clear hb1 va
    go_wp2
    go_loopw [6] (fun i wr => ∃ k : Nat, k ≤ 7 ∧ i = .int .i64 k ∧ Aside0 (Two wr w.heap.size (mixD (fun x _ => x * 101) a a k) zeroD) ∧ Aside0 (Below w.heap.size w wr)) (fun i _ => 7 - (intOf i).toNat)
    case atStart => exact ⟨0, Nat.zero_le _, rfl, ⟨by rw [mixD_zero]; exact T1.out⟩, B1⟩
    case round =>
      obtain ⟨k, hk, rfl, T, BW⟩ := hrel
      by_cases hlt : k < 7
      · have hx := cell7 T.out.x hlt
        rw [mixD_at] at hx
        have hl0 : (0 : Int) ≤ (k : Int) := by omega
        have hl7 : (k : Int) < 7 := by omega
        have hz := okD_le (HA.out k hlt)
        have hz1 := hz.1
        have hz2 := hz.2
        have hm := mul_in hz1 hz2 hc1 hc2
        clear hz
        have hfr := blk_frozen T.out.x k
        go_wp2
        go_roundw
        case rel => exact ⟨k + 1, by omega, by go_num, ⟨by rw [← mixD_succ]; exact T.out.setX hlt _⟩, ⟨BW.out.setCell (Nat.le_refl _) _⟩⟩
        case measure => simp [intOf]; omega
      · have hk7 : k = 7 := by omega
        subst hk7
        clear hlt hk
        obtain ⟨x0, x1, x2, x3, x4, x5, x6⟩ := cells7 T.out.x
        go_wp2_with fail
        refine (VC.out _).mono ?_
        rintro e w3 ⟨rfl, hb3⟩
        have T3 := Aside0.mk (T.out.below hb3)
        have B3 := Aside0.mk (keepB hb3 BW.out)
        clear hb3 x0 x1 x2 x3 x4 x5 x6
        obtain ⟨z0, z1, z2, z3, z4, z5, z6⟩ := cells7 T3.out.z
        have f0 := blk_frozen T3.out.z 0
        have f1 := blk_frozen T3.out.z 1
        have f2 := blk_frozen T3.out.z 2
        have f3 := blk_frozen T3.out.z 3
        have f4 := blk_frozen T3.out.z 4
        have f5 := blk_frozen T3.out.z 5
        have f6 := blk_frozen T3.out.z 6
        go_wp2
        exact bodyPost_ret (results_ct (p := 4) (u := 5) rfl _ _ (w.heap.size + 1) 23 (agg7 x) (0, 0) _ rfl (store7 T3.out.z x) Tryd.underlying23 rfl (by kernel_rfl)) rfl ⟨rfl, below7 B3.out (by omega) x⟩
  · subst hc
    clear HC
    go_enter Tryd.func18, Tryd.ntmps18
    go_wp2_with fail
    refine (va _).mono ?_
    rintro e w1 ⟨rfl, hb1⟩
    have T1 := Aside0.mk ((Two.start w a).below hb1)
    have B1 := Aside0.mk (Two.back a hb1)
    clear hb1 va
    go_wp2
    go_loopw [6] (fun i wr => ∃ k : Nat, k ≤ 7 ∧ i = .int .i64 k ∧ Aside0 (Two wr w.heap.size (mixD (fun x _ => x * (-101)) a a k) zeroD) ∧ Aside0 (Below w.heap.size w wr)) (fun i _ => 7 - (intOf i).toNat)
    case atStart => exact ⟨0, Nat.zero_le _, rfl, ⟨by rw [mixD_zero]; exact T1.out⟩, B1⟩
    case round =>
      obtain ⟨k, hk, rfl, T, BW⟩ := hrel
      by_cases hlt : k < 7
      · have hx := cell7 T.out.x hlt
        rw [mixD_at] at hx
        have hl0 : (0 : Int) ≤ (k : Int) := by omega
        have hl7 : (k : Int) < 7 := by omega
        have hz := okD_le (HA.out k hlt)
        have hz1 := hz.1
        have hz2 := hz.2
        have hm := mul_in hz1 hz2 hc1 hc2
        clear hz
        have hfr := blk_frozen T.out.x k
        go_wp2
        go_roundw
        case rel => exact ⟨k + 1, by omega, by go_num, ⟨by rw [← mixD_succ]; exact T.out.setX hlt _⟩, ⟨BW.out.setCell (Nat.le_refl _) _⟩⟩
        case measure => simp [intOf]; omega
      · have hk7 : k = 7 := by omega
        subst hk7
        clear hlt hk
        obtain ⟨x0, x1, x2, x3, x4, x5, x6⟩ := cells7 T.out.x
        go_wp2_with fail
        refine (VC.out _).mono ?_
        rintro e w3 ⟨rfl, hb3⟩
        have T3 := Aside0.mk (T.out.below hb3)
        have B3 := Aside0.mk (keepB hb3 BW.out)
        clear hb3 x0 x1 x2 x3 x4 x5 x6
        obtain ⟨z0, z1, z2, z3, z4, z5, z6⟩ := cells7 T3.out.z
        have f0 := blk_frozen T3.out.z 0
        have f1 := blk_frozen T3.out.z 1
        have f2 := blk_frozen T3.out.z 2
        have f3 := blk_frozen T3.out.z 3
        have f4 := blk_frozen T3.out.z 4
        have f5 := blk_frozen T3.out.z 5
        have f6 := blk_frozen T3.out.z 6
        go_wp2
        exact bodyPost_ret (results_ct (p := 4) (u := 5) rfl _ _ (w.heap.size + 1) 23 (agg7 x) (0, 0) _ rfl (store7 T3.out.z x) Tryd.underlying23 rfl (by kernel_rfl)) rfl ⟨rfl, below7 B3.out (by omega) x⟩
  · subst hc
    clear HC
    go_enter Tryd.func18, Tryd.ntmps18
    go_wp2_with fail
    refine (va _).mono ?_
    rintro e w1 ⟨rfl, hb1⟩
    have T1 := Aside0.mk ((Two.start w a).below hb1)
    have B1 := Aside0.mk (Two.back a hb1)
    clear hb1 va
    go_wp2
    go_loopw [6] (fun i wr => ∃ k : Nat, k ≤ 7 ∧ i = .int .i64 k ∧ Aside0 (Two wr w.heap.size (mixD (fun x _ => x * c) a a k) zeroD) ∧ Aside0 (Below w.heap.size w wr)) (fun i _ => 7 - (intOf i).toNat)
    case atStart => exact ⟨0, Nat.zero_le _, rfl, ⟨by rw [mixD_zero]; exact T1.out⟩, B1⟩
    case round =>
      obtain ⟨k, hk, rfl, T, BW⟩ := hrel
      by_cases hlt : k < 7
      · have hx := cell7 T.out.x hlt
        rw [mixD_at] at hx
        have hl0 : (0 : Int) ≤ (k : Int) := by omega
        have hl7 : (k : Int) < 7 := by omega
        have hz := okD_le (HA.out k hlt)
        have hz1 := hz.1
        have hz2 := hz.2
        have hm := mul_in hz1 hz2 hc1 hc2
        clear hz
        have hfr := blk_frozen T.out.x k
        go_wp2
        go_roundw
        case rel => exact ⟨k + 1, by omega, by go_num, ⟨by rw [← mixD_succ]; exact T.out.setX hlt _⟩, ⟨BW.out.setCell (Nat.le_refl _) _⟩⟩
        case measure => simp [intOf]; omega
      · have hk7 : k = 7 := by omega
        subst hk7
        clear hlt hk
        obtain ⟨x0, x1, x2, x3, x4, x5, x6⟩ := cells7 T.out.x
        go_wp2_with fail
        refine (VC.out _).mono ?_
        rintro e w3 ⟨rfl, hb3⟩
        have T3 := Aside0.mk (T.out.below hb3)
        have B3 := Aside0.mk (keepB hb3 BW.out)
        clear hb3 x0 x1 x2 x3 x4 x5 x6
        obtain ⟨z0, z1, z2, z3, z4, z5, z6⟩ := cells7 T3.out.z
        have f0 := blk_frozen T3.out.z 0
        have f1 := blk_frozen T3.out.z 1
        have f2 := blk_frozen T3.out.z 2
        have f3 := blk_frozen T3.out.z 3
        have f4 := blk_frozen T3.out.z 4
        have f5 := blk_frozen T3.out.z 5
        have f6 := blk_frozen T3.out.z 6
        go_wp2
        exact bodyPost_ret (results_ct (p := 4) (u := 5) rfl _ _ (w.heap.size + 1) 23 (agg7 x) (0, 0) _ rfl (store7 T3.out.z x) Tryd.underlying23 rfl (by kernel_rfl)) rfl ⟨rfl, below7 B3.out (by omega) x⟩
theorem vinculumref53_Pow.any (a : Nat → Int) (n : Int) (w : World) :
    Calls Tryd.prog 18 #[.agg (agg7 a), .int .i64 n] w fun e w' => e = .returned (.tuple #[.agg (agg7 (combD (fun x _ => x * clampD n) a a).1), .int .i64 (combD (fun x _ => x * clampD n) a a).2]) ∧ Below w.heap.size w w' := by
  by_cases h : dimB a = true
  · exact vinculumref53_Pow.good a n w h
  · exact vinculumref53_Pow.bad a n w h
set_option maxHeartbeats 2000000 in
set_option maxRecDepth 1000000 in
theorem vinculumref53_Root.any (a : Nat → Int) (w : World) :
    Calls Tryd.prog 19 #[.agg (agg7 a)] w fun e w' => e = .returned (.tuple #[.agg (agg7 (rootD a).1), .int .i64 (rootD a).2]) ∧ Below w.heap.size w w' := by
  cases ha : dimB a with
  | false =>
    have va := vinculumref53_Valid.is a _ ha
    have HM := Aside0.mk ha
    clear ha
    go_enter Tryd.func19, Tryd.ntmps19
    go_wp2_with fail
    refine (va _).mono ?_
    rintro e w1 ⟨rfl, hb1⟩
    have T1 := Aside0.mk ((Two.start w a).below hb1)
    have B1 := Aside0.mk (Two.back a hb1)
    clear hb1 va
    obtain ⟨z0, z1, z2, z3, z4, z5, z6⟩ := cells7 T1.out.z
    have f0 := blk_frozen T1.out.z 0
    have f1 := blk_frozen T1.out.z 1
    have f2 := blk_frozen T1.out.z 2
    have f3 := blk_frozen T1.out.z 3
    have f4 := blk_frozen T1.out.z 4
    have f5 := blk_frozen T1.out.z 5
    have f6 := blk_frozen T1.out.z 6
    go_wp2
    exact bodyPost_ret (results_ct (p := 2) (u := 3) rfl _ _ (w.heap.size + 1) 23 (agg7 zeroD) (0, 0) _ rfl (store7 T1.out.z zeroD) Tryd.underlying23 rfl (by kernel_rfl)) rfl ⟨rootD_bad HM.out, below7 B1.out (by omega) zeroD⟩
  | true =>
    have va := vinculumref53_Valid.is a _ ha
    have HA := Aside0.mk ((dimB_iff a).1 ha)
    clear ha
    go_enter Tryd.func19, Tryd.ntmps19
    go_wp2_with fail
    refine (va _).mono ?_
    rintro e w1 ⟨rfl, hb1⟩
    have T1 := Aside0.mk ((Two.start w a).below hb1)
    have B1 := Aside0.mk (Two.back a hb1)
    clear hb1 va
    go_wp2
    go_loopw [4] (fun i wr => ∃ k : Nat, k ≤ 7 ∧ i = .int .i64 k ∧ Aside0 (Two wr w.heap.size (halfD a k) zeroD) ∧ Aside0 (Below w.heap.size w wr) ∧ Aside0 (∀ j, j < k → evenI (a j) = true)) (fun i _ => 7 - (intOf i).toNat)
    case atStart => exact ⟨0, Nat.zero_le _, rfl, ⟨by rw [halfD_zero]; exact T1.out⟩, B1, ⟨fun j hj => absurd hj (Nat.not_lt_zero _)⟩⟩
    case round =>
      obtain ⟨k, hk, rfl, T, BW, A0⟩ := hrel
      by_cases hlt : k < 7
      · have hz := okD_le (HA.out k hlt)
        have hz1 := hz.1
        have hz2 := hz.2
        clear hz
        have hl0 : (0 : Int) ≤ (k : Int) := by omega
        have hl7 : (k : Int) < 7 := by omega
        have hx := cell7 T.out.x hlt
        rw [halfD_at] at hx
        cases ho : evenI (a k) with
        | false =>
          have HE := Aside0.mk (evenD_no hlt ho)
          have ht : ((a k).tmod 2 != 0) = true := by
            unfold evenI at ho
            rw [bne, ho]; rfl
          clear ho
          obtain ⟨z0, z1, z2, z3, z4, z5, z6⟩ := cells7 T.out.z
          have f0 := blk_frozen T.out.z 0
          have f1 := blk_frozen T.out.z 1
          have f2 := blk_frozen T.out.z 2
          have f3 := blk_frozen T.out.z 3
          have f4 := blk_frozen T.out.z 4
          have f5 := blk_frozen T.out.z 5
          have f6 := blk_frozen T.out.z 6
          go_wp2
          exact bodyPost_ret (results_ct (p := 2) (u := 3) rfl _ _ (w.heap.size + 1) 23 (agg7 zeroD) (0, 0) _ rfl (store7 T.out.z zeroD) Tryd.underlying23 rfl (by kernel_rfl)) rfl ⟨rootD_odd (dimB_yes HA.out) HE.out, below7 BW.out (by omega) zeroD⟩
        | true =>
          have A1 : Aside0 (∀ j, j < k + 1 → evenI (a j) = true) := ⟨fun j hj => by
            by_cases e : j = k
            · subst e; exact ho
            · exact A0.out j (by omega)⟩
          have ht : ((a k).tmod 2 != 0) = false := by
            unfold evenI at ho
            rw [bne, ho]; rfl
          clear ho
          have hfr := blk_frozen T.out.x k
          go_wp2
          go_roundw
          case rel => exact ⟨k + 1, by omega, by go_num, ⟨by rw [← halfD_succ]; exact T.out.setX hlt _⟩, ⟨BW.out.setCell (Nat.le_refl _) _⟩, A1⟩
          case measure => simp [intOf]; omega
      · have hk7 : k = 7 := by omega
        subst hk7
        clear hlt hk
        have HE := Aside0.mk ((evenD_iff a).2 A0.out)
        obtain ⟨x0, x1, x2, x3, x4, x5, x6⟩ := cells7 T.out.x
        obtain ⟨z0, z1, z2, z3, z4, z5, z6⟩ := cells7 T.out.z
        have f0 := blk_frozen T.out.z 0
        have f1 := blk_frozen T.out.z 1
        have f2 := blk_frozen T.out.z 2
        have f3 := blk_frozen T.out.z 3
        have f4 := blk_frozen T.out.z 4
        have f5 := blk_frozen T.out.z 5
        have f6 := blk_frozen T.out.z 6
        go_wp2
        exact bodyPost_ret (results_ct (p := 2) (u := 3) rfl _ _ (w.heap.size + 1) 23 (agg7 (halfD a 7)) (0, 0) _ rfl (store7 T.out.z _) Tryd.underlying23 rfl (by kernel_rfl)) rfl ⟨rootD_yes (dimB_yes HA.out) HE.out, below7 BW.out (by omega) _⟩
end Go.Proofs.YtjnheoelcahkaaaDoor.Gv
