/-
  vinculumref53.Parse.
-/
import Derived.Test.YtjnheoelcahkaaaDoorUnSplit
set_option linter.unusedVariables false
set_option linter.unusedSimpArgs false
namespace Go.Proofs.YtjnheoelcahkaaaDoor.Gv
open Go.RowKit Go.Proofs.YtjnheoelcahkaaaDoorW.PrintWords Go.Proofs.YtjnheoelcahkaaaDoorW.PrintLast Go.Proofs.YtjnheoelcahkaaaDoorW.PrintMore
open Go.Proofs.YtjnheoelcahkaaaDoor.V
/-- the dimension behind the inner loop's first rounds -/
def innerD (d : Nat → Int) (w : List ByteArray) (k j : Nat) : Int := if j < k ∧ ((baseN j).toList == (nthS w 0).toList) = true then expV w else d j
theorem innerD_zero (d : Nat → Int) (w : List ByteArray) : innerD d w 0 = d := by funext j; exact if_neg (fun h => Nat.not_lt_zero j h.1)
theorem innerD_hit (d : Nat → Int) (w : List ByteArray) {k : Nat} (h : ((baseN k).toList == (nthS w 0).toList) = true) : updD (innerD d w k) k (expV w) = innerD d w (k + 1) := by
  funext j
  unfold updD innerD
  by_cases e : j = k
  · subst e; rw [if_pos rfl, if_pos ⟨by omega, h⟩]
  · rw [if_neg e]
    by_cases c : j < k ∧ ((baseN j).toList == (nthS w 0).toList) = true
    · rw [if_pos c, if_pos ⟨by omega, c.2⟩]
    · rw [if_neg c, if_neg (fun c' => c ⟨by omega, c'.2⟩)]
theorem innerD_miss (d : Nat → Int) (w : List ByteArray) {k : Nat} (h : ((baseN k).toList == (nthS w 0).toList) = false) : innerD d w k = innerD d w (k + 1) := by
  funext j
  unfold innerD
  by_cases c : j < k ∧ ((baseN j).toList == (nthS w 0).toList) = true
  · rw [if_pos c, if_pos ⟨by omega, c.2⟩]
  · rw [if_neg c, if_neg]
    rintro ⟨h1, h2⟩
    by_cases e : j = k
    · subst e; rw [h] at h2; cases h2
    · exact c ⟨by omega, h2⟩
def stepR (d : Nat → Int) (p : ByteArray) : Nat → Int := innerD d (partsS 94 p) 7
def foldR (l : List ByteArray) : Nat → Int := l.foldl stepR zeroD
theorem foldR_at {l : List ByteArray} {k : Nat} (hk : k < l.length) : foldR (l.take (k + 1)) = stepR (foldR (l.take k)) (nthS l k) := by
  unfold foldR nthS
  rw [List.take_succ_eq_append_getElem hk, List.foldl_append, List.getD_eq_getElem?_getD, List.getElem?_eq_getElem hk]
  rfl
theorem stepR_dim (d : Nat → Int) (p : ByteArray) (h : dimB d = true) : dimB (stepR d p) = true := by
  rw [dimB_iff] at h ⊢
  intro j hj
  unfold stepR innerD
  split
  · have := expV_range (partsS 94 p)
    simp [okD]; omega
  · exact h j hj
theorem foldR_dim : ∀ (l : List ByteArray) (d : Nat → Int), dimB d = true → dimB (l.foldl stepR d) = true
  | [], d, h => h
  | p :: r, d, h => foldR_dim r (stepR d p) (stepR_dim d p h)
theorem zeroD_dim : dimB zeroD = true := by decide
/-- what the reference answers -/
def parseR (s : ByteArray) : (Nat → Int) × Int := if textD (foldR (partsS 32 s)) = s then (foldR (partsS 32 s), 0) else (zeroD, 3)
theorem parseR_yes {s : ByteArray} (h : textD (foldR (partsS 32 s)) = s) : Ending.returned (.tuple #[.agg (agg7 (foldR (partsS 32 s))), .int .i64 0]) = .returned (.tuple #[.agg (agg7 (parseR s).1), .int .i64 (parseR s).2]) := by
  unfold parseR; rw [if_pos h]
theorem parseR_no {s : ByteArray} (h : ¬ textD (foldR (partsS 32 s)) = s) : Ending.returned (.tuple #[.agg (agg7 zeroD), .int .i64 3]) = .returned (.tuple #[.agg (agg7 (parseR s).1), .int .i64 (parseR s).2]) := by
  unfold parseR; rw [if_neg h]
theorem partsS_ne (c : UInt8) (s : ByteArray) : 0 < (partsS c s).length := by
  unfold partsS
  rw [List.length_map]
  exact List.length_pos_iff.2 (Spl.splitL_ne c _)
/-- a list of strings of the call's own -/
abbrev Own (w : World) (b : Nat) (v : Value) (l : List ByteArray) : Prop := Kd.R Kd.string 9 w b (fun _ => True) v l
theorem Own.below {w w1 : World} {b : Nat} {v : Value} {l : List ByteArray} (h : Own w b v l) (hb : Below w.heap.size w w1) : Own w1 b v l := Kd.R_below h hb
theorem Own.set {w : World} {b g : Nat} {v : Value} {l : List ByteArray} {d : Nat → Int} (h : Own w b v l) (hx : Box7 w g d) (k : Nat) (u : Value) : Own (w.setCell ⟨g, k, none⟩ u) b v l :=
  Kd.R_mono (Kd.R_far (p := ⟨g, k, none⟩) (Kd.R_types h hx (by decide)) (fun _ hk => hk.2) u) (fun _ _ => trivial)
theorem Own.cell {w : World} {b : Nat} {A : Option Addr} {n c : Nat} {l : List ByteArray} (h : Own w b (.slice A n c) l) {k : Nat} (hk : k < l.length) : ∃ ad, A = some ad ∧ w.cell? (ad.add k) = some (.string (nthS l k)) := by
  have hr := (Kd.R_reads' h).2.2
  have hr2 := Kd.reads_of_C (enc := Value.string) (d := ByteArray.empty) (h1 := fun _ => rfl) hr
  obtain ⟨ad, e, hc⟩ := ReadsOf.at_ hr2 (k : Int) (by omega) (by omega)
  exact ⟨ad, e, hc⟩
set_option maxHeartbeats 4000000 in
set_option maxRecDepth 1000000 in
theorem vinculumref53_Parse.any (s : ByteArray) (w : World) (hs : s.size ≤ 1000000) :
    Calls Tryd.prog 34 #[.string s] w fun e w' => e = .returned (.tuple #[.agg (agg7 (parseR s).1), .int .i64 (parseR s).2]) ∧ Below w.heap.size w w' := by
  have split := fun W => ref_split s 32 (by omega) W
  have SPLIT := Aside0.mk split
  have hlen := partsS_len 32 s
  have HLE := Aside0.mk (partsS_le 32 s)
  have HNE := Aside0.mk (partsS_ne 32 s)
  have FY := Aside0.mk (parseR_yes (s := s))
  have FN := Aside0.mk (parseR_no (s := s))
  have hdf := foldR_dim (partsS 32 s) zeroD zeroD_dim
  have HDF := Aside0.mk (show dimB (foldR (partsS 32 s)) = true from hdf)
  generalize (parseR s).1 = r1 at *
  generalize (parseR s).2 = r2 at *
  generalize hL : partsS 32 s = L at *
  generalize hn : L.length = n at *
  have HN := Aside0.mk hn
  clear split hL hn hdf
  go_enter Tryd.func34, Tryd.ntmps34
  go_wp2_with fail
  refine (SPLIT.out _).mono ?_
  rintro e w1 ⟨v, rfl, hO, hw1⟩
  have T1 := Aside0.mk (show Two w1 w.heap.size zeroD zeroD from ⟨blk_below (blk_alloc (blk_new _ _) _) hw1, blk_below (Two.start w zeroD).z hw1⟩)
  have B1 := Aside0.mk (box_below (box_below hw1))
  obtain ⟨A, c, ev⟩ := Kd.R_slice hO
  subst ev
  obtain ⟨b1, O1⟩ : ∃ b, Aside0 (Own w1 b (.slice A n c) L) := ⟨_, ⟨by rw [← HN.out]; exact hO⟩⟩
  clear hO hw1
  rw [HN.out]
  go_wp2
  go_loopw [6, 7, 8] (fun i _ _ wr => ∃ k : Nat, k ≤ n ∧ i = .int .i64 k ∧ Aside0 (Two wr w.heap.size zeroD (foldR (L.take k))) ∧ Aside0 (Own wr b1 (.slice A n c) L) ∧ Aside0 (Below w.heap.size w wr)) (fun i _ _ _ => n - (intOf i).toNat)
  case atStart => exact ⟨0, Nat.zero_le _, rfl, T1, O1, B1⟩
  case round =>
    clear T1 O1 B1
    obtain ⟨k, hk, rfl, T, O, BW⟩ := hrel
    by_cases hlt : k < n
    · have hkL : k < L.length := by have := HN.out; omega
      obtain ⟨ad, eA, hx⟩ := O.out.cell hkL
      cases eA
      have hl0 : (0 : Int) ≤ (k : Int) := by omega
      have hl7 : (k : Int) < (n : Int) := by omega
      have hps := HLE.out k
      have FR := Aside0.mk (foldR_at hkL)
      have SPLIT2 := Aside0.mk (fun W => ref_split (nthS L k) 94 (by omega) W)
      unfold stepR at FR
      have HW0 := Aside0.mk (partsS_ne 94 (nthS L k))
      generalize partsS 94 (nthS L k) = ws at *
      go_wp2_with fail
      refine (SPLIT2.out _).mono ?_
      rintro e w3 ⟨v, rfl, hO, hw3⟩
      have T3 := Aside0.mk (T.out.below hw3)
      have O3 := Aside0.mk (O.out.below hw3)
      have B3 := Aside0.mk (keepB hw3 BW.out)
      obtain ⟨A7, c7, ev⟩ := Kd.R_slice hO
      subst ev
      have P3 := Aside0.mk hO
      generalize wr.heap.size = b3 at P3
      clear hO hw3 hx T O BW
      have hn7 : (0 : Int) < (ws.length : Int) := by have := HW0.out; omega
      go_wp2
      go_loopw [8] (fun i wr => ∃ j : Nat, j ≤ 7 ∧ i = .int .i64 j ∧ Aside0 (Two wr w.heap.size zeroD (innerD (foldR (L.take k)) ws j)) ∧ Aside0 (Own wr b1 (.slice (some ad) n c) L) ∧ Aside0 (Own wr b3 (.slice A7 ws.length c7) ws) ∧ Aside0 (Below w.heap.size w wr)) (fun i _ => 7 - (intOf i).toNat)
      case atStart => exact ⟨0, Nat.zero_le _, rfl, ⟨by rw [innerD_zero]; exact T3.out⟩, O3, P3, B3⟩
      case round =>
        clear T3 O3 P3 B3
        obtain ⟨j, hj, rfl, T, O, P, BW⟩ := hrel
        by_cases hjt : j < 7
        · obtain ⟨a7, e7, hw0⟩ := P.out.cell HW0.out
          cases e7
          have hw1 : wr.cell? a7 = some (.string (nthS ws 0)) := hw0
          have ix := bases_at j hjt
          have hj0 : (0 : Int) ≤ (j : Int) := by omega
          have hj7 : (j : Int) < 7 := by omega
          have TD := Aside0.mk (T.out.below (Below.refl wr.heap.size wr).drew)
          have OD := Aside0.mk (O.out.below (Below.refl wr.heap.size wr).drew)
          have PD := Aside0.mk (P.out.below (Below.refl wr.heap.size wr).drew)
          have BD := Aside0.mk (keepB (Below.refl wr.heap.size wr).drew BW.out)
          go_wp2
          go_cut [32] (fun s wx => s = .bool ((baseN j).toList == (nthS ws 0).toList) ∧ Aside0 (Two wx w.heap.size zeroD (innerD (foldR (L.take k)) ws j)) ∧ Aside0 (Own wx b1 (.slice (some ad) n c) L) ∧ Aside0 (Own wx b3 (.slice (some a7) ws.length c7) ws) ∧ Aside0 (Below w.heap.size w wx))
          case first =>
            go_region_with (go_at_call 41; refine (vinculumref53_bases.any _).mono ?_; rintro e w5 ⟨rfl, hb5⟩; have hw0' := keepC hb5 hw0; have hw1' := keepC hb5 hw1; have B5 := Aside0.mk hb5; clear hb5)
            all_goals (try go_wp2_with fail)
            all_goals go_meet
            all_goals exact ⟨rfl, ⟨TD.out.below B5.out⟩, ⟨OD.out.below B5.out⟩, ⟨PD.out.below B5.out⟩, ⟨keepB B5.out BD.out⟩⟩
          case rest =>
            clear T O P BW TD OD PD BD hw0 hw1
            obtain ⟨rfl, T, O, P, BW⟩ := hcut
            have hjx := hjt
            cases hq : ((baseN j).toList == (nthS ws 0).toList) with
            | false =>
              have ID := Aside0.mk (innerD_miss (foldR (L.take k)) ws hq)
              clear hq
              go_wp2
              go_roundw
              case rel => exact ⟨j + 1, by omega, by go_num, ⟨by rw [← ID.out]; exact T.out⟩, O, P, BW⟩
              case measure => simp [intOf]; omega
            | true =>
              have ID := Aside0.mk (innerD_hit (foldR (L.take k)) ws hq)
              have hrd := Kd.R_reads' P.out
              have ex := vinculumref53_exponent.calls 300 (some a7) c7 ws (expV ws) wc hrd.2.2 hrd.2.1 (expV_f ws)
              have EX := Aside0.mk ex
              clear hq hrd ex
              go_wp2_with fail
              refine EX.out.mono ?_
              rintro e w6 ⟨rfl, hb6⟩
              have T6 := Aside0.mk (T.out.below hb6)
              have O6 := Aside0.mk (O.out.below hb6)
              have P6 := Aside0.mk (P.out.below hb6)
              have B6 := Aside0.mk (keepB hb6 BW.out)
              clear hb6 T O P BW EX
              have hxj := cell7 T6.out.z hjt
              have hfj := blk_frozen T6.out.z j
              go_wp2
              go_roundw
              case rel => exact ⟨j + 1, by omega, by go_num, ⟨by rw [← ID.out]; exact ⟨blk_far T6.out.x (by show w.heap.size ≠ w.heap.size + 1; omega) _, set7 T6.out.z hjt _⟩⟩, ⟨O6.out.set T6.out.z j _⟩, ⟨P6.out.set T6.out.z j _⟩, ⟨setB B6.out⟩⟩
              case measure => simp [intOf]; omega
        · have hj7 : j = 7 := by omega
          subst hj7
          clear hjt hj
          go_wp2
          go_roundw
          case rel => exact ⟨k + 1, by omega, by go_num, ⟨by rw [FR.out]; exact T.out⟩, O, BW⟩
          case measure => simp [intOf]; omega
    · have hk7 : k = n := by omega
      subst hk7
      clear hlt hk hlen
      have hall : L.take k = L := by rw [← HN.out, List.take_length]
      rw [hall] at T
      clear hall
      obtain ⟨x0, x1, x2, x3, x4, x5, x6⟩ := cells7 T.out.z
      have TX := Aside0.mk (vinculumref53_Text.good (foldR L) HDF.out wr)
      go_wp2_with fail
      refine TX.out.mono ?_
      rintro e w6 ⟨rfl, hb6⟩
      have T6 := Aside0.mk (T.out.below hb6)
      have B6 := Aside0.mk (keepB hb6 BW.out)
      clear hb6 T O BW TX x0 x1 x2 x3 x4 x5 x6
      by_cases he : textD (foldR L) = s
      · have FIN := Aside0.mk (FY.out he)
        have hne : ((textD (foldR L)).toList == s.toList) = true := by rw [he]; simp
        clear he
        generalize foldR L = q at *
        obtain ⟨x0, x1, x2, x3, x4, x5, x6⟩ := cells7 T6.out.z
        obtain ⟨z0, z1, z2, z3, z4, z5, z6⟩ := cells7 T6.out.x
        have f0 := blk_frozen T6.out.x 0
        have f1 := blk_frozen T6.out.x 1
        have f2 := blk_frozen T6.out.x 2
        have f3 := blk_frozen T6.out.x 3
        have f4 := blk_frozen T6.out.x 4
        have f5 := blk_frozen T6.out.x 5
        have f6 := blk_frozen T6.out.x 6
        go_wp2
        exact bodyPost_ret (results_ct (p := 2) (u := 3) rfl _ _ w.heap.size 23 (agg7 q) (0, 0) _ rfl (store7 T6.out.x q) Tryd.underlying23 rfl (by kernel_rfl)) rfl ⟨FIN.out, below7 B6.out (Nat.le_refl _) q⟩
      · have FIN := Aside0.mk (FN.out he)
        have hne : ((textD (foldR L)).toList == s.toList) = false := by
          rw [beq_eq_false_iff_ne]
          intro h
          rw [ByteArray.toList_eq, ByteArray.toList_eq] at h
          exact he (ByteArray.ext (Array.ext' h))
        clear he
        generalize foldR L = q at *
        obtain ⟨z0, z1, z2, z3, z4, z5, z6⟩ := cells7 T6.out.x
        have f0 := blk_frozen T6.out.x 0
        have f1 := blk_frozen T6.out.x 1
        have f2 := blk_frozen T6.out.x 2
        have f3 := blk_frozen T6.out.x 3
        have f4 := blk_frozen T6.out.x 4
        have f5 := blk_frozen T6.out.x 5
        have f6 := blk_frozen T6.out.x 6
        go_wp2
        exact bodyPost_ret (results_ct (p := 2) (u := 3) rfl _ _ w.heap.size 23 (agg7 zeroD) (0, 0) _ rfl (store7 T6.out.x zeroD) Tryd.underlying23 rfl (by kernel_rfl)) rfl ⟨FIN.out, below7 B6.out (Nat.le_refl _) zeroD⟩
end Go.Proofs.YtjnheoelcahkaaaDoor.Gv
