/-
  unit.combine where both dimensions are valid; Mul, Div and Pow.
-/
import Derived.Test.YtjnheoelcahkaaaDoorUnComb
set_option linter.unusedVariables false
set_option linter.unusedSimpArgs false
namespace Go.Proofs.YtjnheoelcahkaaaDoor.Gv
open Go.RowKit Go.Proofs.YtjnheoelcahkaaaDoorW.PrintWords Go.Proofs.YtjnheoelcahkaaaDoorW.PrintLast Go.Proofs.YtjnheoelcahkaaaDoorW.PrintMore
theorem Three.setX {w : World} {B : Nat} {a b c : Nat → Int} (h : Three w B a b c) {k : Nat} (hk : k < 7) (v : Int) : Three (w.setCell ⟨B, k, none⟩ (.int .i64 v)) B (updD a k v) b c :=
  ⟨set7 h.x hk v, blk_far h.y (by show B + 1 ≠ B; omega) _, blk_far h.z (by show B + 2 ≠ B; omega) _⟩
theorem okD_le {x : Int} (h : okD x = true) : -100 ≤ x ∧ x ≤ 100 := by simpa [okD] using h
theorem fin_no {f : Int → Int → Int} {a b : Nat → Int} (ha : dimB a = true) (hb : dimB b = true) (h : dimB (mixD f a b 7) = false) : Ending.returned (.tuple #[.agg (agg7 zeroD), .int .i64 2]) = .returned (.tuple #[.agg (agg7 (combD f a b).1), .int .i64 (combD f a b).2]) := by
  unfold combD
  rw [if_pos ⟨ha, hb⟩, if_neg (by rw [h]; decide)]
theorem fin_yes {f : Int → Int → Int} {a b : Nat → Int} (ha : dimB a = true) (hb : dimB b = true) (h : dimB (mixD f a b 7) = true) : Ending.returned (.tuple #[.agg (agg7 (mixD f a b 7)), .int .i64 0]) = .returned (.tuple #[.agg (agg7 (combD f a b).1), .int .i64 (combD f a b).2]) := by
  unfold combD
  rw [if_pos ⟨ha, hb⟩, if_pos h]
set_option maxHeartbeats 2000000 in
set_option maxRecDepth 1000000 in
theorem unit_combine.good (a b : Nat → Int) (g : Nat) (lb : Array Value) (f : Int → Int → Int) (w : World) (eg : ∀ args w, (callFunc g args).run Tryd.prog w = .ok (.enter g args) w)
    (ha : dimB a = true) (hb : dimB b = true)
    (hf : ∀ (W : World) (x y : Int), Below w.heap.size w W → -100 ≤ x → x ≤ 100 → -100 ≤ y → y ≤ 100 → Calls Tryd.prog g (#[.int .i64 x, .int .i64 y] ++ lb) W fun e w' => e = .returned (.int .i64 (f x y)) ∧ W = w') :
    Calls Tryd.prog 35 #[.agg (agg7 a), .agg (agg7 b), .func (.func g) #[] lb] w fun e w' => e = .returned (.tuple #[.agg (agg7 (combD f a b).1), .int .i64 (combD f a b).2]) ∧ Below w.heap.size w w' := by
  have va := unit_Valid.is a _ ha
  have vb := unit_Valid.is b _ hb
  have HA := Aside0.mk ((dimB_iff a).1 ha)
  have HB := Aside0.mk ((dimB_iff b).1 hb)
  have HF := Aside0.mk hf
  clear ha hb hf
  go_enter Tryd.func35, Tryd.ntmps35
  go_wp2_with fail
  refine (va _).mono ?_
  rintro e w1 ⟨rfl, hb1⟩
  have T1 := Aside0.mk ((Three.start w a b).below hb1)
  have B1 := Aside0.mk (Three.back a b hb1)
  clear hb1
  obtain ⟨y0, y1, y2, y3, y4, y5, y6⟩ := cells7 T1.out.y
  go_wp2_with fail
  refine (vb _).mono ?_
  rintro e w2 ⟨rfl, hb2⟩
  have T2 := Aside0.mk (T1.out.below hb2)
  have B2 := Aside0.mk (keepB hb2 B1.out)
  clear hb2 y0 y1 y2 y3 y4 y5 y6 va vb
  go_wp2
  go_loopw [8, 18] (fun _ i wr => ∃ k : Nat, k ≤ 7 ∧ i = .int .i64 k ∧ Aside0 (Three wr w.heap.size (mixD f a b k) b zeroD) ∧ Aside0 (Below w.heap.size w wr)) (fun _ i _ => 7 - (intOf i).toNat)
  case atStart => exact ⟨0, Nat.zero_le _, rfl, ⟨by rw [mixD_zero]; exact T2.out⟩, B2⟩
  case round =>
    obtain ⟨k, hk, rfl, T, BW⟩ := hrel
    by_cases hlt : k < 7
    · have hx := cell7 T.out.x hlt
      have hy := cell7 T.out.y hlt
      rw [mixD_at] at hx
      have hl0 : (0 : Int) ≤ (k : Int) := by omega
      have hl7 : (k : Int) < 7 := by omega
      have hz := okD_le (HA.out k hlt)
      have hz' := okD_le (HB.out k hlt)
      have hc := fun W (hW : Below w.heap.size w W) => HF.out W (a k) (b k) hW hz.1 hz.2 hz'.1 hz'.2
      have HC := Aside0.mk hc
      clear hc hz hz'
      have hfr := blk_frozen T.out.x k
      go_wp2
      go_still_tail 10, (by kernel_rfl)
      still_call ((HC.out _ (below_drew BW.out)).mono (fun e w'' h => ⟨h.1, h.2.symm⟩))
      repeat still_step
      refine wpStill_nil ?_
      change wpList _ _ _ _ _ wr.drew
      generalize hW : wr.drew = wd
      have BD := Aside0.mk (hW ▸ below_drew BW.out : Below w.heap.size w wd)
      have TD := Aside0.mk (hW ▸ ⟨T.out.x, T.out.y, T.out.z⟩ : Three wd w.heap.size (mixD f a b k) b zeroD)
      have hx' := cell7 TD.out.x hlt
      rw [mixD_at] at hx'
      have hfr' := blk_frozen TD.out.x k
      clear hW
      go_wp2
      go_roundw
      case rel => exact ⟨k + 1, by omega, by go_num, ⟨by rw [← mixD_succ]; exact TD.out.setX hlt _⟩, ⟨BD.out.setCell (Nat.le_refl _) _⟩⟩
      case measure => simp [intOf]; omega
    · have hk7 : k = 7 := by omega
      subst hk7
      clear hlt hk
      obtain ⟨x0, x1, x2, x3, x4, x5, x6⟩ := cells7 T.out.x
      cases hm : dimB (mixD f a b 7) with
      | false =>
        have vm := unit_Valid.is _ _ hm
        have HM := Aside0.mk hm
        clear hm
        go_wp2_with fail
        refine (vm _).mono ?_
        rintro e w3 ⟨rfl, hb3⟩
        have T3 := Aside0.mk (T.out.below hb3)
        have B3 := Aside0.mk (keepB hb3 BW.out)
        clear hb3 x0 x1 x2 x3 x4 x5 x6
        obtain ⟨z0, z1, z2, z3, z4, z5, z6⟩ := cells7 T3.out.z
        have f0 := blk_frozen T3.out.z 0
        have f1 := blk_frozen T3.out.z 1
        have f2 := blk_frozen T3.out.z 2
        have f3 := blk_frozen T3.out.z 3
        have f4 := blk_frozen T3.out.z 4
        have f5 := blk_frozen T3.out.z 5
        have f6 := blk_frozen T3.out.z 6
        go_wp2
        exact bodyPost_ret (results_ct (p := 6) (u := 7) rfl _ _ (w.heap.size + 2) 23 (agg7 zeroD) (0, 0) _ rfl (store7 T3.out.z zeroD) Tryd.underlying23 rfl (by kernel_rfl)) rfl ⟨fin_no (dimB_yes HA.out) (dimB_yes HB.out) HM.out, below7 B3.out (by omega) zeroD⟩
      | true =>
        have vm := unit_Valid.is _ _ hm
        have HM := Aside0.mk hm
        clear hm
        go_wp2_with fail
        refine (vm _).mono ?_
        rintro e w3 ⟨rfl, hb3⟩
        have T3 := Aside0.mk (T.out.below hb3)
        have B3 := Aside0.mk (keepB hb3 BW.out)
        clear hb3 x0 x1 x2 x3 x4 x5 x6
        obtain ⟨x0, x1, x2, x3, x4, x5, x6⟩ := cells7 T3.out.x
        obtain ⟨z0, z1, z2, z3, z4, z5, z6⟩ := cells7 T3.out.z
        have f0 := blk_frozen T3.out.z 0
        have f1 := blk_frozen T3.out.z 1
        have f2 := blk_frozen T3.out.z 2
        have f3 := blk_frozen T3.out.z 3
        have f4 := blk_frozen T3.out.z 4
        have f5 := blk_frozen T3.out.z 5
        have f6 := blk_frozen T3.out.z 6
        go_wp2
        exact bodyPost_ret (results_ct (p := 6) (u := 7) rfl _ _ (w.heap.size + 2) 23 (agg7 (mixD f a b 7)) (0, 0) _ rfl (store7 T3.out.z _) Tryd.underlying23 rfl (by kernel_rfl)) rfl ⟨fin_yes (dimB_yes HA.out) (dimB_yes HB.out) HM.out, below7 B3.out (by omega) _⟩

/-- what combine answers -/
theorem unit_combine.any (a b : Nat → Int) (g : Nat) (lb : Array Value) (f : Int → Int → Int) (w : World) (eg : ∀ args w, (callFunc g args).run Tryd.prog w = .ok (.enter g args) w)
    (hf : ∀ (W : World) (x y : Int), Below w.heap.size w W → -100 ≤ x → x ≤ 100 → -100 ≤ y → y ≤ 100 → Calls Tryd.prog g (#[.int .i64 x, .int .i64 y] ++ lb) W fun e w' => e = .returned (.int .i64 (f x y)) ∧ W = w') :
    Calls Tryd.prog 35 #[.agg (agg7 a), .agg (agg7 b), .func (.func g) #[] lb] w fun e w' => e = .returned (.tuple #[.agg (agg7 (combD f a b).1), .int .i64 (combD f a b).2]) ∧ Below w.heap.size w w' := by
  by_cases h : dimB a = true ∧ dimB b = true
  · exact unit_combine.good a b g lb f w eg h.1 h.2 hf
  · have := unit_combine.bad a b g lb w h
    unfold combD
    rw [if_neg h]
    exact this
end Go.Proofs.YtjnheoelcahkaaaDoor.Gv
