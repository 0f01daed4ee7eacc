/-
  unit.Parse: the walk.
-/
import Derived.Test.YtjnheoelcahkaaaDoorUnParse
set_option linter.unusedVariables false
set_option linter.unusedSimpArgs false
namespace Go.Proofs.YtjnheoelcahkaaaDoor.Gv
open Go.RowKit Go.Proofs.YtjnheoelcahkaaaDoorW.PrintWords Go.Proofs.YtjnheoelcahkaaaDoorW.PrintLast Go.Proofs.YtjnheoelcahkaaaDoorW.PrintMore
def partsS (c : UInt8) (s : ByteArray) : List ByteArray := (Spl.splitL c s.data.toList).map fun p => ⟨p.toArray⟩
theorem partsS_of {c : UInt8} {s : ByteArray} {l : List ByteArray} (h : l.map (·.data.toList) = Spl.splitL c s.data.toList) : l = partsS c s := by
  unfold partsS
  rw [← h, List.map_map]
  have : ((fun p : List UInt8 => (⟨p.toArray⟩ : ByteArray)) ∘ fun x : ByteArray => x.data.toList) = id := by
    funext x; simp
  rw [this, List.map_id]
theorem split_parts (s : ByteArray) (c : UInt8) (w : World) (hG : Gw w) (hs : s.size < 4294967281) :
    Calls Tryd.prog 56 #[.string s, .string ⟨#[c]⟩] w fun e w' => e = .returned (.slice (some ⟨w.heap.size, 0, none⟩) (partsS c s).length (partsS c s).length) ∧ Strs w' w.heap.size (partsS c s) 9 ∧ Below w.heap.size w w' :=
  (split_any s c w hG hs).mono fun e w' ⟨l, hl, he, hS, hb⟩ => by
    obtain rfl := partsS_of hl
    exact ⟨he, hS, hb⟩
/-- the boxes of Parse: the result, the dimension, the names, the parts -/
structure Four (w : World) (B N : Nat) (d : Nat → Int) (l : List ByteArray) : Prop where
  z : Box7 w B zeroD
  x : Box7 w (B + 1) d
  n : Strs w N baseL 71
  p : Strs w (N + 1) l 9
  lt : B + 1 < N
theorem Four.below {w w1 : World} {B N : Nat} {d : Nat → Int} {l : List ByteArray} (h : Four w B N d l) (hb : Below w.heap.size w w1) : Four w1 B N d l := ⟨blk_below h.z hb, blk_below h.x hb, h.n.below hb, h.p.below hb, h.lt⟩
theorem Four.setX {w : World} {B N : Nat} {d : Nat → Int} {l : List ByteArray} (h : Four w B N d l) {k : Nat} (hk : k < 7) (v : Int) : Four (w.setCell ⟨B + 1, k, none⟩ (.int .i64 v)) B N (updD d k v) l :=
  ⟨blk_far h.z (by show B ≠ B + 1; omega) _, set7 h.x hk v, blk_far h.n (by show N ≠ B + 1; have := h.lt; omega) _, blk_far h.p (by show N + 1 ≠ B + 1; have := h.lt; omega) _, h.lt⟩
theorem setB {B : Nat} {w w1 : World} {k : Nat} {v : Value} (h : Below B w w1) : Below B w (w1.setCell ⟨B + 1, k, none⟩ v) := h.setCell (by show B ≤ B + 1; omega) _
theorem splitL_len (c : UInt8) : ∀ l : List UInt8, (Spl.splitL c l).length ≤ l.length + 1
  | [] => by simp [Spl.splitL]
  | x :: r => by
    have ih := splitL_len c r
    have hne := Spl.splitL_ne c r
    rw [Spl.splitL]
    split
    · simp; omega
    · split
      · simp
      · rename_i e; rw [e] at ih; simp at ih ⊢; omega
theorem partsS_len (c : UInt8) (s : ByteArray) : (partsS c s).length ≤ s.size + 1 := by
  unfold partsS
  rw [List.length_map]
  have := splitL_len c s.data.toList
  simpa using this
theorem foldD_at {l : List ByteArray} {k : Nat} (hk : k < l.length) {d : Nat → Int} (h : foldD zeroD (l.take k) = some d) : foldD zeroD (l.take (k + 1)) = stepD d (nthS l k) := by
  rw [List.take_succ_eq_append_getElem hk, foldD_snoc, h]
  unfold nthS
  rw [List.getD_eq_getElem?_getD, List.getElem?_eq_getElem hk]
  rfl
theorem parseD_fail {s : ByteArray} {l : List ByteArray} (h1 : s ≠ ⟨#[49]⟩) {k : Nat} (h : foldD zeroD (l.take k) = none) : Ending.returned (.tuple #[.agg (agg7 zeroD), .int .i64 3]) = .returned (.tuple #[.agg (agg7 (parseD s l).1), .int .i64 (parseD s l).2]) := by
  unfold parseD
  have := foldD_none (l.take k) (l.drop k) zeroD h
  rw [List.take_append_drop] at this
  rw [if_neg h1, this]
theorem parseD_end {s : ByteArray} {l : List ByteArray} (h1 : s ≠ ⟨#[49]⟩) {d : Nat → Int} (h : foldD zeroD l = some d) (h2 : ¬ (dimB d = true ∧ textD d = s)) : Ending.returned (.tuple #[.agg (agg7 zeroD), .int .i64 3]) = .returned (.tuple #[.agg (agg7 (parseD s l).1), .int .i64 (parseD s l).2]) := by
  unfold parseD
  rw [if_neg h1, h]
  show _ = Ending.returned (.tuple #[.agg (agg7 (if dimB d = true ∧ textD d = s then (d, (0 : Int)) else (zeroD, 3)).1), .int .i64 (if dimB d = true ∧ textD d = s then (d, (0 : Int)) else (zeroD, 3)).2])
  rw [if_neg h2]
theorem parseD_yes {s : ByteArray} {l : List ByteArray} (h1 : s ≠ ⟨#[49]⟩) {d : Nat → Int} (h : foldD zeroD l = some d) (h2 : dimB d = true ∧ textD d = s) : Ending.returned (.tuple #[.agg (agg7 d), .int .i64 0]) = .returned (.tuple #[.agg (agg7 (parseD s l).1), .int .i64 (parseD s l).2]) := by
  unfold parseD
  rw [if_neg h1, h]
  show _ = Ending.returned (.tuple #[.agg (agg7 (if dimB d = true ∧ textD d = s then (d, (0 : Int)) else (zeroD, 3)).1), .int .i64 (if dimB d = true ∧ textD d = s then (d, (0 : Int)) else (zeroD, 3)).2])
  rw [if_pos h2]
theorem splitL_le (c : UInt8) : ∀ (l : List UInt8), ∀ p ∈ Spl.splitL c l, p.length ≤ l.length
  | [], p, hp => by simp [Spl.splitL] at hp; subst hp; simp
  | x :: r, p, hp => by
    have ih := splitL_le c r
    rw [Spl.splitL] at hp
    split at hp
    · rcases List.mem_cons.1 hp with rfl | hp
      · simp
      · have := ih p hp; simp; omega
    · generalize Spl.splitL c r = s at hp ih
      match s with
      | [] => simp at hp; subst hp; simp
      | q :: t =>
        rcases List.mem_cons.1 hp with rfl | hp
        · have := ih q (by simp); simp; omega
        · have := ih p (by simp [hp]); simp; omega
theorem partsS_le (c : UInt8) (s : ByteArray) (k : Nat) : (nthS (partsS c s) k).size ≤ s.size := by
  unfold nthS
  rw [List.getD_eq_getElem?_getD]
  cases h : (partsS c s)[k]? with
  | none => exact Nat.zero_le _
  | some x =>
    have hx := List.mem_of_getElem? h
    unfold partsS at hx
    obtain ⟨p, hp, rfl⟩ := List.mem_map.1 hx
    have := splitL_le c _ p hp
    show p.toArray.size ≤ s.size
    simpa using this
theorem cut_len (l sep : List UInt8) : (Lib.cut l sep).1.length ≤ l.length ∧ (Lib.cut l sep).2.1.length ≤ l.length := by
  unfold Lib.cut
  split
  · exact ⟨by simp; omega, by simp⟩
  · exact ⟨Nat.le_refl _, by simp⟩
theorem partD_len (d : Nat → Int) (hd : dimB d = true) {k : Nat} (hk : k < 7) : ∀ x ∈ partD d k, x.size ≤ 30 := by
  have hok := okD_le ((dimB_iff d).1 hd k hk)
  have hb := baseN_size k
  have hi := Lib.itoa_length_le (d k) (by omega) (by omega)
  unfold partD
  intro x hx
  split at hx
  · cases hx
  · split at hx
    · rw [List.mem_singleton] at hx; subst hx; omega
    · rw [List.mem_singleton] at hx
      subst hx
      rw [ByteArray.size_append, ByteArray.size_append]
      have e1 : (⟨#[94]⟩ : ByteArray).size = 1 := rfl
      have e2 : (⟨(Lib.itoa (d k)).toArray⟩ : ByteArray).size = (Lib.itoa (d k)).length := by show (Lib.itoa (d k)).toArray.size = _; rw [List.size_toArray]
      omega
theorem partsD_le (d : Nat → Int) (hd : dimB d = true) : ∀ k, k ≤ 7 → ∀ x ∈ partsD d k, x.size ≤ 30
  | 0, _, x, hx => by cases hx
  | k + 1, hk, x, hx => by
    rcases List.mem_append.1 hx with h | h
    · exact partsD_le d hd k (by omega) x h
    · exact partD_len d hd (by omega) x h
theorem joinB_le (sep : ByteArray) (M : Nat) : ∀ (l : List ByteArray), (∀ x ∈ l, x.size ≤ M) → (joinB l sep).length ≤ l.length * (M + sep.size)
  | [], _ => by simp [joinB, Lib.join_nil]
  | [x], h => by
    have := h x (by simp)
    have e : x.data.toList.length = x.size := by simp
    simp only [joinB, List.map_cons, List.map_nil, Lib.join_one, e, List.length_cons, List.length_nil]
    omega
  | x :: y :: r, h => by
    have hx := h x (by simp)
    have ih := joinB_le sep M (y :: r) (fun z hz => h z (by simp [hz]))
    have e : x.data.toList.length = x.size := by simp
    have e3 : sep.data.toList.length = sep.size := by simp
    have e2 : (joinB (x :: y :: r) sep).length = x.size + sep.size + (joinB (y :: r) sep).length := by
      simp only [joinB, List.map_cons, Lib.join_cons, Lib.joinTail, List.flatten_cons, List.length_append, e, e3]
      omega
    rw [e2, List.length_cons, Nat.add_mul, Nat.one_mul]
    omega
theorem join_parts (d : Nat → Int) (hd : dimB d = true) : strings_Join.f (partsD d 7) ⟨#[32]⟩ = some ⟨(joinB (partsD d 7) ⟨#[32]⟩).toArray⟩ := by
  have h1 := joinB_le ⟨#[32]⟩ 30 (partsD d 7) (partsD_le d hd 7 (Nat.le_refl _))
  have h2 := partsD_size d 7
  have e : (⟨#[32]⟩ : ByteArray).size = 1 := rfl
  rw [e] at h1
  have h3 : (partsD d 7).length * (30 + 1) ≤ 7 * 31 := Nat.mul_le_mul_right _ h2
  unfold strings_Join.f
  rw [if_pos (by omega), if_pos (by omega)]
theorem unit_Text.all (d : Nat → Int) (hd : dimB d = true) (w : World) (hG : Gw w) :
    Calls Tryd.prog 29 #[.agg (agg7 d)] w fun e w' => e = .returned (.string (textD d)) ∧ Below w.heap.size w w' := by
  unfold textD
  rw [if_pos hd]
  cases hz : eqD d zeroD with
  | true => rw [if_pos rfl]; exact unit_Text.one d w hd hz
  | false => rw [if_neg (by decide)]; exact unit_Text.any d _ w hG hd hz (join_parts d hd)
set_option maxHeartbeats 2000000 in
set_option maxRecDepth 1000000 in
theorem unit_Parse.many (s : ByteArray) (w : World) (hG : Ge w) (hs : s.size < 4000000000) (h1 : s ≠ ⟨#[49]⟩) :
    Calls Tryd.prog 30 #[.string s] w fun e w' => e = .returned (.tuple #[.agg (agg7 (parseD s (partsS 32 s)).1), .int .i64 (parseD s (partsS 32 s)).2]) ∧ Below w.heap.size w w' := by
  have hb1 : (s.toList == ([49] : List UInt8)) = false := by
    rw [beq_eq_false_iff_ne]
    intro e
    exact h1 (by rw [ByteArray.toList_eq] at e; obtain ⟨⟨l⟩⟩ := s; simp at e; rw [e])
  have HG := Aside0.mk hG
  have H1 := Aside0.mk h1
  have split := fun W hG => split_parts s 32 W hG (by omega)
  have SPLIT := Aside0.mk split
  have hlen := partsS_len 32 s
  have hle := partsS_le 32 s
  have HLE := Aside0.mk hle
  generalize hL : partsS 32 s = L at *
  generalize hn : L.length = n at *
  have HN := Aside0.mk hn
  clear hG h1 split hL hn hle
  go_enter Tryd.func30, Tryd.ntmps30
  go_wp2_with fail
  refine (unit_bases.any _).mono ?_
  rintro e w1 ⟨rfl, hw1⟩
  have Z1 := Aside0.mk (blk_below (show ((w.alloc (.cells (agg7 zeroD) 23)).alloc (.cells (agg7 zeroD) 23)).heap[w.heap.size]? = some (.cells (agg7 zeroD) 23 (0, 0)) from blk_alloc (blk_new _ _) _) hw1)
  have X1 := Aside0.mk (blk_below (show ((w.alloc (.cells (agg7 zeroD) 23)).alloc (.cells (agg7 zeroD) 23)).heap[w.heap.size + 1]? = some (.cells (agg7 zeroD) 23 (0, 0)) from (Two.start w zeroD).z) hw1)
  have B1 := Aside0.mk (box_below (box_below hw1))
  have hz1 : w.heap.size + 1 < w1.heap.size := blk_lt X1.out
  clear hw1 hb1
  go_wp2_with fail
  refine (SPLIT.out _ (Gw.below HG.out.g (B1.out.alloc B1.out.size _))).mono ?_
  rintro e w2 ⟨rfl, hP, hw2⟩
  have F2 := Aside0.mk (Four.mk (N := w1.heap.size) (blk_below (blk_alloc Z1.out _) hw2) (blk_below (blk_alloc X1.out _) hw2) (blk_below (blk_new w1 (.cells (baseL.map Value.string).toArray 71)) hw2) (by
    have e : (w1.alloc (.cells (baseL.map Value.string).toArray 71)).heap.size = w1.heap.size + 1 := by simp
    rw [← e]; exact hP) hz1)
  have B2 := Aside0.mk (keepB (box_below hw2) B1.out)
  clear hw2 hP hz1
  generalize hbN : w1.heap.size = N at F2
  go_wp2
  go_loopw [7, 8, 9, 10, 11, 12, 13, 21] (fun _ _ _ _ _ _ _ i wr => ∃ (k : Nat) (d : Nat → Int), k ≤ n ∧ i = .int .i64 k ∧ Aside0 (foldD zeroD (L.take k) = some d) ∧ Aside0 (Four wr w.heap.size N d L) ∧ Aside0 (Below w.heap.size w wr)) (fun _ _ _ _ _ _ _ i _ => n - (intOf i).toNat)
  case atStart => exact ⟨0, zeroD, Nat.zero_le _, rfl, ⟨rfl⟩, F2, B2⟩
  case round =>
    clear F2 B2 Z1 X1 B1
    obtain ⟨k, d, hk, rfl, FD, F, BW⟩ := hrel
    by_cases hlt : k < n
    · have hkL : k < L.length := by have := HN.out; omega
      have hx := F.out.p.cell hkL
      have hl0 : (0 : Int) ≤ (k : Int) := by omega
      have hl7 : (k : Int) < (n : Int) := by omega
      have hps := HLE.out k
      have cut := cut_any (nthS L k) ⟨#[94]⟩ wr (Gw.below HG.out.g BW.out) (by omega)
      have hat := foldD_at hkL FD.out
      have hcl := cut_len (nthS L k).data.toList [94]
      unfold stepD at hat
      change Calls _ _ _ _ fun e w' => e = .returned (.tuple #[.string ⟨(Lib.cut (nthS L k).data.toList [94]).1.toArray⟩, .string ⟨(Lib.cut (nthS L k).data.toList [94]).2.1.toArray⟩, .bool (Lib.cut (nthS L k).data.toList [94]).2.2]) ∧ _ at cut
      generalize (Lib.cut (nthS L k).data.toList [94]).1 = c1 at *
      generalize (Lib.cut (nthS L k).data.toList [94]).2.1 = c2 at *
      generalize (Lib.cut (nthS L k).data.toList [94]).2.2 = c3 at *
      have hc2 : (⟨c2.toArray⟩ : ByteArray).size ≤ 281474976710656 := by
        have h2 := hcl.2
        have e : (nthS L k).data.toList.length = (nthS L k).size := by simp
        show c2.toArray.size ≤ _
        rw [List.size_toArray]; omega
      have HC2 := Aside0.mk hc2
      clear hc2 hcl
      have HAT := Aside0.mk hat
      have CUT := Aside0.mk cut
      clear hat cut
      go_wp2_with fail
      refine CUT.out.mono ?_
      rintro e w3 ⟨rfl, hb3⟩
      have F3 := Aside0.mk (F.out.below hb3)
      have B3 := Aside0.mk (keepB hb3 BW.out)
      clear hb3 hx F BW
      have idx : Calls Tryd.prog 58 #[.slice (some ⟨N, 0, none⟩) 7 7, .string ⟨c1.toArray⟩] w3 fun e w' => e = .returned (.int .i64 (idxS baseL ⟨c1.toArray⟩)) ∧ w3 = w' := index_any N baseL 71 7 ⟨c1.toArray⟩ w3 (by decide) F3.out.n
      rcases idxB_range ⟨c1.toArray⟩ with hi | ⟨hi1, hi2⟩
      · rw [hi] at idx
        have hat := HAT.out
        rw [if_pos (by rw [hi]; decide)] at hat
        have HAT2 := Aside0.mk hat
        clear hat hi HAT
        go_wp2_with fail
        refine idx.mono ?_
        rintro e w4 ⟨rfl, rfl⟩
        clear idx
        obtain ⟨z0, z1, z2, z3, z4, z5, z6⟩ := cells7 F3.out.z
        have f0 := blk_frozen F3.out.z 0
        have f1 := blk_frozen F3.out.z 1
        have f2 := blk_frozen F3.out.z 2
        have f3 := blk_frozen F3.out.z 3
        have f4 := blk_frozen F3.out.z 4
        have f5 := blk_frozen F3.out.z 5
        have f6 := blk_frozen F3.out.z 6
        go_wp2
        exact bodyPost_ret (results_ct (p := 2) (u := 3) rfl _ _ w.heap.size 23 (agg7 zeroD) (0, 0) _ rfl (store7 F3.out.z zeroD) Tryd.underlying23 rfl (by kernel_rfl)) rfl ⟨parseD_fail H1.out HAT2.out, below7 B3.out (Nat.le_refl _) zeroD⟩
      · obtain ⟨m, hm⟩ : ∃ m : Nat, idxS baseL ⟨c1.toArray⟩ = (m : Int) := ⟨(idxS baseL ⟨c1.toArray⟩).toNat, by omega⟩
        rw [hm] at idx hi1 hi2
        have hat := HAT.out
        rw [if_neg (by omega), hm, show ((m : Int)).toNat = m from rfl] at hat
        have hm7 : m < 7 := by omega
        have hxm := cell7 F3.out.x hm7
        have hfr := blk_frozen F3.out.x m
        clear hm HAT
        cases c3 with
        | false =>
          rw [if_neg (by decide)] at hat
          have HAT2 := Aside0.mk hat
          clear hat
          go_wp2_with fail
          refine idx.mono ?_
          rintro e w4 ⟨rfl, rfl⟩
          clear idx
          go_wp2
          go_roundw
          case rel => exact ⟨k + 1, updD d m 1, by omega, by go_num, HAT2, ⟨F3.out.setX hm7 _⟩, ⟨setB B3.out⟩⟩
          case measure => simp [intOf]; omega
        | true =>
          rw [if_pos rfl] at hat
          cases hnum : numO c2 with
          | some v =>
            rw [hnum] at hat
            change _ = some (updD d m v) at hat
            have HAT2 := Aside0.mk hat
            have atoi := fun W => atoi_ok ⟨c2.toArray⟩ v HC2.out (by exact hnum) W
            have ATOI := Aside0.mk atoi
            clear hat atoi hnum
            go_wp2_with fail
            refine idx.mono ?_
            rintro e w4 ⟨rfl, rfl⟩
            clear idx
            go_wp2_with fail
            refine (ATOI.out _).mono ?_
            rintro e w5 ⟨rfl, hb5⟩
            have F5 := Aside0.mk ((F3.out.setX hm7 1).below hb5)
            have B5 := Aside0.mk (keepB hb5 (setB B3.out))
            clear hb5 hxm hfr
            have hxm := cell7 F5.out.x hm7
            have hfr := blk_frozen F5.out.x m
            go_wp2
            go_roundw
            case rel => exact ⟨k + 1, updD d m v, by omega, by go_num, HAT2, ⟨by rw [← updD_twice d m 1 v]; exact F5.out.setX hm7 _⟩, ⟨setB B5.out⟩⟩
            case measure => simp [intOf]; omega
          | none =>
            rw [hnum] at hat
            have HAT2 := Aside0.mk (show foldD zeroD (L.take (k + 1)) = none from hat)
            have atoi := fun W hG => atoi_no ⟨c2.toArray⟩ HC2.out (by exact hnum) W hG
            have ATOI := Aside0.mk atoi
            clear hat atoi hnum
            go_wp2_with fail
            refine idx.mono ?_
            rintro e w4 ⟨rfl, rfl⟩
            clear idx
            go_wp2_with fail
            refine (ATOI.out _ (Ge.below HG.out (setB B3.out))).mono ?_
            rintro e w5 ⟨v, M, rfl, hb5⟩
            have F5 := Aside0.mk ((F3.out.setX hm7 1).below hb5)
            have B5 := Aside0.mk (keepB hb5 (setB B3.out))
            clear hb5 hxm hfr
            obtain ⟨z0, z1, z2, z3, z4, z5, z6⟩ := cells7 F5.out.z
            have f0 := blk_frozen F5.out.z 0
            have f1 := blk_frozen F5.out.z 1
            have f2 := blk_frozen F5.out.z 2
            have f3 := blk_frozen F5.out.z 3
            have f4 := blk_frozen F5.out.z 4
            have f5 := blk_frozen F5.out.z 5
            have f6 := blk_frozen F5.out.z 6
            go_wp2
            exact bodyPost_ret (results_ct (p := 2) (u := 3) rfl _ _ w.heap.size 23 (agg7 zeroD) (0, 0) _ rfl (store7 F5.out.z zeroD) Tryd.underlying23 rfl (by kernel_rfl)) rfl ⟨parseD_fail H1.out HAT2.out, below7 B5.out (Nat.le_refl _) zeroD⟩
    · have hk7 : k = n := by omega
      subst hk7
      clear hlt hk hlen
      have hfd := FD.out
      rw [← HN.out, List.take_length] at hfd
      have FD2 := Aside0.mk hfd
      clear hfd
      obtain ⟨x0, x1, x2, x3, x4, x5, x6⟩ := cells7 F.out.x
      cases hv : dimB d with
      | false =>
        have va := unit_Valid.is d _ hv
        have HV := Aside0.mk (show ¬ (dimB d = true ∧ textD d = s) from fun h => by rw [hv] at h; cases h.1)
        clear hv
        go_wp2_with fail
        refine (va _).mono ?_
        rintro e w4 ⟨rfl, hb4⟩
        have F4 := Aside0.mk (F.out.below hb4)
        have B4 := Aside0.mk (keepB hb4 BW.out)
        clear hb4 va x0 x1 x2 x3 x4 x5 x6
        obtain ⟨z0, z1, z2, z3, z4, z5, z6⟩ := cells7 F4.out.z
        have f0 := blk_frozen F4.out.z 0
        have f1 := blk_frozen F4.out.z 1
        have f2 := blk_frozen F4.out.z 2
        have f3 := blk_frozen F4.out.z 3
        have f4 := blk_frozen F4.out.z 4
        have f5 := blk_frozen F4.out.z 5
        have f6 := blk_frozen F4.out.z 6
        go_wp2
        exact bodyPost_ret (results_ct (p := 2) (u := 3) rfl _ _ w.heap.size 23 (agg7 zeroD) (0, 0) _ rfl (store7 F4.out.z zeroD) Tryd.underlying23 rfl (by kernel_rfl)) rfl ⟨parseD_end H1.out FD2.out HV.out, below7 B4.out (Nat.le_refl _) zeroD⟩
      | true =>
        have va := unit_Valid.is d _ hv
        have tx := fun W hG => unit_Text.all d hv W hG
        have HV := Aside0.mk hv
        have TX := Aside0.mk tx
        clear hv tx
        go_wp2_with fail
        refine (va _).mono ?_
        rintro e w4 ⟨rfl, hb4⟩
        have F4 := Aside0.mk (F.out.below hb4)
        have B4 := Aside0.mk (keepB hb4 BW.out)
        clear hb4 va x0 x1 x2 x3 x4 x5 x6
        obtain ⟨x0, x1, x2, x3, x4, x5, x6⟩ := cells7 F4.out.x
        go_wp2_with fail
        refine (TX.out _ (Gw.below HG.out.g B4.out)).mono ?_
        rintro e w5 ⟨rfl, hb5⟩
        have F5 := Aside0.mk (F4.out.below hb5)
        have B5 := Aside0.mk (keepB hb5 B4.out)
        clear hb5 x0 x1 x2 x3 x4 x5 x6
        by_cases he : textD d = s
        · have hne : ((textD d).toList == s.toList) = true := by rw [he]; simp
          have FIN := Aside0.mk (parseD_yes (l := L) H1.out FD2.out ⟨HV.out, he⟩)
          clear he
          obtain ⟨x0, x1, x2, x3, x4, x5, x6⟩ := cells7 F5.out.x
          obtain ⟨z0, z1, z2, z3, z4, z5, z6⟩ := cells7 F5.out.z
          have f0 := blk_frozen F5.out.z 0
          have f1 := blk_frozen F5.out.z 1
          have f2 := blk_frozen F5.out.z 2
          have f3 := blk_frozen F5.out.z 3
          have f4 := blk_frozen F5.out.z 4
          have f5 := blk_frozen F5.out.z 5
          have f6 := blk_frozen F5.out.z 6
          go_wp2
          exact bodyPost_ret (results_ct (p := 2) (u := 3) rfl _ _ w.heap.size 23 (agg7 d) (0, 0) _ rfl (store7 F5.out.z d) Tryd.underlying23 rfl (by kernel_rfl)) rfl ⟨FIN.out, below7 B5.out (Nat.le_refl _) d⟩
        · have hne : ((textD d).toList == s.toList) = false := by
            rw [beq_eq_false_iff_ne]
            intro h
            rw [ByteArray.toList_eq, ByteArray.toList_eq] at h
            exact he (ByteArray.ext (Array.ext' h))
          have FIN := Aside0.mk (parseD_end (l := L) H1.out FD2.out (fun h => he h.2))
          clear he
          obtain ⟨z0, z1, z2, z3, z4, z5, z6⟩ := cells7 F5.out.z
          have f0 := blk_frozen F5.out.z 0
          have f1 := blk_frozen F5.out.z 1
          have f2 := blk_frozen F5.out.z 2
          have f3 := blk_frozen F5.out.z 3
          have f4 := blk_frozen F5.out.z 4
          have f5 := blk_frozen F5.out.z 5
          have f6 := blk_frozen F5.out.z 6
          go_wp2
          exact bodyPost_ret (results_ct (p := 2) (u := 3) rfl _ _ w.heap.size 23 (agg7 zeroD) (0, 0) _ rfl (store7 F5.out.z zeroD) Tryd.underlying23 rfl (by kernel_rfl)) rfl ⟨FIN.out, below7 B5.out (Nat.le_refl _) zeroD⟩
end Go.Proofs.YtjnheoelcahkaaaDoor.Gv
