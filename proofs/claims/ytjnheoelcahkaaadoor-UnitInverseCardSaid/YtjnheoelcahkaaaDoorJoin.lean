/-
  strings.Join at this program's own text: however many elements; what is below the heap's end stays.
-/
import Derived.Test.YtjnheoelcahkaaaDoorBld
import Derived.Test.YtjnheoelcahkaaaDoorWMore
set_option linter.unusedVariables false
namespace Go.Proofs.YtjnheoelcahkaaaDoor.Gv
open Go.RowKit Go.Proofs.YtjnheoelcahkaaaDoorW.PrintWords
/-- where the strings of a list lie -/
theorem cells_string {w : World} {A : Option Addr} {xs : List ByteArray} {n : Nat} (h : Kd.C Kd.string w A n xs) (h0 : 0 < n) :
    ∃ bk o, A = some ⟨bk, o, none⟩ ∧ bk < w.heap.size ∧ ∀ j, j < n → w.cell? ⟨bk, o + j, none⟩ = some (.string (xs.getD j ByteArray.empty)) := by
  obtain ⟨ad, hA, hc⟩ := Kd.at_string h 0 (by omega) (by omega)
  obtain ⟨bk, o, spot⟩ := ad
  have hz : (⟨bk, o, spot⟩ : Addr).add 0 = ⟨bk, o, spot⟩ := rfl
  rw [show (0 : Int).toNat = 0 from rfl, hz] at hc
  have hsp : spot = none := by
    cases spot with
    | none => rfl
    | some x => simp [World.cell?] at hc; split at hc <;> simp at hc
  subst hsp
  refine ⟨bk, o, hA, World.block_lt_of_cell? w _ hc, fun j hj => ?_⟩
  obtain ⟨ad', hA', hc'⟩ := Kd.at_string h (j : Int) (by omega) (by omega)
  rw [hA] at hA'
  obtain rfl := Option.some.inj hA'
  rw [show ((j : Int)).toNat = j from rfl] at hc'
  have : (⟨bk, o, none⟩ : Addr).add j = ⟨bk, o + j, none⟩ := by
    unfold Addr.add
    split
    · rename_i h; subst h; rfl
    · rfl
  rw [this] at hc'
  exact hc'
def joinB (l : List ByteArray) (sep : ByteArray) : List UInt8 := Lib.join (l.map (·.data.toList)) sep.data.toList
theorem join_none (A : Option Addr) (c : Nat) (sep : ByteArray) (w : World) :
    Calls Tryd.prog 55 #[.slice A 0 c, .string sep] w fun e w' => e = .returned (.string ⟨#[]⟩) ∧ w' = w := by
  go_enter Tryd.func55, Tryd.ntmps55
  go_wp2
  go_ret
  exact ⟨rfl, rfl⟩
theorem join_one (bk o c : Nat) (x sep : ByteArray) (w : World) (hc : w.cell? ⟨bk, o, none⟩ = some (.string x)) :
    Calls Tryd.prog 55 #[.slice (some ⟨bk, o, none⟩) 1 c, .string sep] w fun e w' => e = .returned (.string x) ∧ w' = w := by
  go_enter Tryd.func55, Tryd.ntmps55
  go_wp2
  go_ret
  exact ⟨rfl, rfl⟩
/-- what the builder holds behind k further elements -/
def part (x : ByteArray) (r : List ByteArray) (sep : ByteArray) (k : Nat) : List UInt8 := x.data.toList ++ Lib.joinTail sep.data.toList ((r.map (·.data.toList)).take k)
theorem part_all (x : ByteArray) (r : List ByteArray) (sep : ByteArray) : part x r sep r.length = joinB (x :: r) sep := by
  unfold part joinB
  rw [List.map_cons, Lib.join_cons, List.take_of_length_le (by simp)]
theorem part_succ {x : ByteArray} {r : List ByteArray} {sep : ByteArray} {k : Nat} {y : ByteArray} (h : r[k]? = some y) : part x r sep (k + 1) = part x r sep k ++ sep.data.toList ++ y.data.toList := by
  unfold part
  rw [Lib.joinTail_take_succ sep.data.toList (r.map (·.data.toList)) k y.data.toList (by simp [h])]
  simp [List.append_assoc]
theorem part_le (x : ByteArray) (r : List ByteArray) (sep : ByteArray) (k : Nat) : (part x r sep k).length ≤ (joinB (x :: r) sep).length := by
  rw [← part_all]
  unfold part
  have h2 := Lib.joinTail_take_le sep.data.toList (r.map (·.data.toList)) k
  have h3 : (r.map (·.data.toList)).take r.length = r.map (·.data.toList) := List.take_of_length_le (by simp)
  rw [List.length_append, List.length_append, h3]
  omega
set_option maxHeartbeats 4000000 in
set_option maxRecDepth 100000 in
theorem join_many (bk o c : Nat) (x0 : ByteArray) (r : List ByteArray) (sep : ByteArray) (w : World)
    (hcells : ∀ j, j < r.length + 1 → w.cell? ⟨bk, o + j, none⟩ = some (.string ((x0 :: r).getD j ByteArray.empty)))
    (hbk : bk < w.heap.size) (h2 : 1 ≤ r.length) (hN : r.length < 140737488355328) (hcap : r.length + 1 ≤ c)
    (hlen : (joinB (x0 :: r) sep).length ≤ 140737488355328) :
    Calls Tryd.prog 55 #[.slice (some ⟨bk, o, none⟩) ((r.length + 1 : Nat)) c, .string sep] w fun e w' => e = .returned (.string ⟨(joinB (x0 :: r) sep).toArray⟩) ∧ Below w.heap.size w w' := by
  have HC := hid hcells
  clear hcells
  have hjl : sep.size * r.length + Lib.lens ((x0 :: r).map (·.data.toList)) ≤ 140737488355328 := by
    have := Lib.join_length x0.data.toList (r.map (·.data.toList)) sep.data.toList
    unfold joinB at hlen
    rw [List.map_cons] at hlen ⊢
    rw [this, List.length_map] at hlen
    rw [Lib.size_eq]
    exact hlen
  generalize hM : sep.size * r.length = M at hjl
  generalize hxs : x0 :: r = xs at *
  obtain ⟨n, hn⟩ : ∃ n, n = r.length + 1 := ⟨_, rfl⟩
  have hxn : xs.length = n := by rw [← hxs, hn]; rfl
  have hM' : sep.size * (n - 1) = M := by rw [hn, Nat.add_sub_cancel]; exact hM
  rw [← hn] at HC hcap ⊢
  have hcast : ((n : Int) - 1) = ((n - 1 : Nat) : Int) := by omega
  have hlt : sep.size < 9223372036854775807 / (n - 1) := by
    have : sep.size + 1 ≤ 9223372036854775807 / (n - 1) := by
      rw [Nat.le_div_iff_mul_le (by omega), Nat.add_mul, hM']
      omega
    omega
  have hdv : ¬ (9223372036854775807 / ((n : Int) - 1) ≤ (sep.size : Int)) := by
    have e : (9223372036854775807 : Int) / ((n - 1 : Nat) : Int) = ((9223372036854775807 / (n - 1) : Nat) : Int) := IntWalk.up_div (x := 9223372036854775807) rfl rfl
    rw [hcast, e]
    generalize 9223372036854775807 / (n - 1) = q at hlt
    omega
  have hprod : wrap64 ((sep.size : Int) * ((n : Int) - 1)) = (M : Int) := by
    have e : (sep.size : Int) * ((n - 1 : Nat) : Int) = ((sep.size * (n - 1) : Nat) : Int) := IntWalk.up_mul rfl rfl
    rw [hcast, e, hM']
    exact IntWalk.wrap64_in _ ⟨by omega, by omega⟩
  have hM0 : sep.size = 0 → M = 0 := fun h => by rw [← hM', h, Nat.zero_mul]
  clear hlt hcast hM hM'
  have hne0 : ((n : Int) == 0) = false := beq_eq_false_iff_ne.2 (by omega)
  have hne1 : ((n : Int) == 1) = false := beq_eq_false_iff_ne.2 (by omega)
  have Hxs := hid hxs
  have Hlen := hid hlen
  have Hn := hid hxn
  have hn1 : r.length + 1 ≤ n := Nat.le_of_eq hn.symm
  have hn2 : n ≤ r.length + 1 := Nat.le_of_eq hn
  clear hxs hlen hxn hn
  go_enter Tryd.func55, Tryd.ntmps55
  go_wp2_with fail
  all_goals (
    go_loop [5, 41] (fun m i => ∃ k : Nat, k ≤ n ∧ i = .int .i64 k ∧ m = .int .i64 ((M + Lib.lens ((xs.map (·.data.toList)).take k) : Nat) : Int)) (fun _ i => n - (intOf i).toNat)
    case atStart => exact ⟨0, Nat.zero_le _, rfl, by first | (simp [Lib.lens]; done) | (have := hM0 (by omega); simp [Lib.lens, this])⟩
    case round =>
      obtain ⟨k, hk, rfl, rfl⟩ := hrel
      by_cases hkn : k < n
      · have hc := HC.out k hkn
        have hx : xs[k]? = some (xs.getD k ByteArray.empty) := by rw [List.getD_eq_getElem?_getD, List.getElem?_eq_getElem (by rw [Hn.out]; exact hkn)]; rfl
        generalize xs.getD k ByteArray.empty = x at hc hx
        have hstep := Lib.lens_take_succ (xs.map (·.data.toList)) k x.data.toList (by simp [hx])
        have hbound : Lib.lens ((xs.map (·.data.toList)).take (k + 1)) ≤ Lib.lens (xs.map (·.data.toList)) := Lib.lens_take_le _ _
        rw [← Lib.size_eq] at hstep
        generalize hA1 : Lib.lens ((xs.map (·.data.toList)).take (k + 1)) = A1 at hstep hbound
        generalize Lib.lens ((xs.map (·.data.toList)).take k) = A0 at hstep
        have HA1 := hid hA1
        clear hA1
        go_wp2
        exact ⟨⟨k + 1, by omega, by go_num, by rw [HA1.out]; refine congrArg _ ?_; omega⟩, by simp [intOf]; omega⟩
      · have hke : k = n := by omega
        subst hke
        have hall : (xs.map (·.data.toList)).take k = xs.map (·.data.toList) := List.take_of_length_le (by rw [List.length_map, Hn.out]; exact Nat.le_refl _)
        rw [hall]
        generalize hT : Lib.lens (xs.map (·.data.toList)) = T at hjl
        clear hT hall
        go_wp2_with fail
        have hMT : ((M : Int) + (T : Int)) = ((M + T : Nat) : Int) := by omega
        rw [hMT]
        refine (Tryd.Builder_Grow_fresh w.heap.size w.heap.size (M + T) _ (Nat.le_refl _) (heap_alloc_new w _) (by simp) (by omega)).mono ?_
        rintro e w1 ⟨rfl, h1, hb1⟩
        have hb1' : Below w.heap.size w w1 := ((Below.refl w.heap.size w).alloc (Nat.le_refl _) _).trans hb1
        have hc0 : w1.cell? ⟨bk, o, none⟩ = some (.string x0) := by
          rw [hb1'.cell (p := ⟨bk, o, none⟩) hbk]
          have := HC.out 0 (by omega)
          rw [← Hxs.out] at this
          exact this
        have H1 := hid (Or.inr h1 : Bld w.heap.size [] w1)
        have Hb1 := hid hb1'
        have hBw1 : w.heap.size ≤ w1.heap.size := hb1'.size
        clear h1 hb1 hb1' hMT
        have hCle : ∀ k, (part x0 r sep k).length ≤ 140737488355328 := fun k => Nat.le_trans (part_le x0 r sep k) (by rw [Hxs.out]; exact Hlen.out)
        have HCle := hid hCle
        clear hCle
        go_wp2_with fail
        refine (writeString w.heap.size [] x0 w1 H1.out (by have := HCle.out 0; simp [part, Lib.joinTail] at this ⊢; omega) hBw1).mono ?_
        rintro e w2 ⟨rfl, h2', hb2⟩
        have hstart : ([] : List Value) ++ Lib.strCells x0 = Lib.byteCells (part x0 r sep 0) := by
          simp [part, Lib.joinTail, Lib.strCells_eq]
        rw [hstart] at h2'
        have H2 := hid h2'
        have Hb2 := hid (Hb1.out.trans hb2)
        clear h2' hb2 hstart
        go_wp2_with fail
        go_loopw [65] (fun i wr => ∃ k : Nat, k ≤ r.length ∧ i = .int .i64 k ∧ Hid (Bld w.heap.size (Lib.byteCells (part x0 r sep k)) wr) ∧ Hid (Below w.heap.size w wr)) (fun i _ => r.length - (intOf i).toNat)
        case atStart => exact ⟨0, Nat.zero_le _, rfl, H2, Hb2⟩
        case round =>
          obtain ⟨k', hk', rfl, HB, HW⟩ := hrel
          have hBw : w.heap.size ≤ wr.heap.size := HW.out.size
          by_cases hkr : k' < r.length
          · obtain ⟨y, hy⟩ : ∃ y, r[k']? = some y := ⟨r[k'], List.getElem?_eq_getElem hkr⟩
            have hcy : wr.cell? ⟨bk, o + 1 + k', none⟩ = some (.string y) := by
              rw [HW.out.cell (p := ⟨bk, o + 1 + k', none⟩) hbk, show o + 1 + k' = o + (k' + 1) by omega, HC.out (k' + 1) (by omega), ← Hxs.out]
              simp [hy]
            have hnext : Lib.byteCells (part x0 r sep k') ++ Lib.strCells sep ++ Lib.strCells y = Lib.byteCells (part x0 r sep (k' + 1)) := by
              rw [part_succ hy, Lib.strCells_eq, Lib.strCells_eq, ← Lib.byteCells_append, ← Lib.byteCells_append]
            have hl1 := HCle.out (k' + 1)
            rw [part_succ hy] at hl1
            simp only [List.length_append, ← Lib.size_eq] at hl1
            have hl0 : (Lib.byteCells (part x0 r sep k')).length = (part x0 r sep k').length := Lib.byteCells_length _
            generalize (part x0 r sep k').length = J at hl0 hl1
            have Hnx := hid hnext
            clear hnext hy
            go_wp2_with fail
            refine (writeString w.heap.size _ sep wr HB.out (by rw [hl0]; omega) hBw).mono ?_
            rintro e w3 ⟨rfl, h3, hb3⟩
            have hBw3 : w.heap.size ≤ w3.heap.size := Nat.le_trans hBw hb3.size
            have H3 := hid h3
            have Hb3 := hid hb3
            clear h3 hb3
            go_wp2_with fail
            refine (writeString w.heap.size _ y w3 H3.out (by rw [List.length_append, hl0, Lib.strCells_length]; omega) hBw3).mono ?_
            rintro e w4 ⟨rfl, h4, hb4⟩
            rw [Hnx.out] at h4
            have H4 := hid h4
            have Hb4 := hid ((HW.out.trans Hb3.out).trans hb4)
            clear h4 hb4
            go_wp2
            exact ⟨⟨k' + 1, by omega, by go_num, H4, Hb4⟩, by simp [intOf]; omega⟩
          · have hke : k' = r.length := by omega
            subst hke
            have hB' := HB.out
            rw [part_all] at hB'
            go_wp2_with fail
            refine (Tryd.Builder_String_any w.heap.size w.heap.size _ wr hB' hBw).mono ?_
            rintro e w5 ⟨rfl, hb5⟩
            have Hb5 := hid (HW.out.trans hb5)
            clear hb5 hB'
            go_wp2
            go_ret
            exact ⟨congrArg (fun l => Ending.returned (.string ⟨(joinB l sep).toArray⟩)) Hxs.out, Hb5.out⟩)
def strings_Join.f (l0 : List ByteArray) (a1 : ByteArray) : Option ByteArray := if (joinB l0 a1).length ≤ 140737488355328 then (if l0.length ≤ 140737488355328 then some ⟨(joinB l0 a1).toArray⟩ else none) else none
theorem strings_Join.calls (A0 : Option Addr) (c0 : Nat) (l0 : List ByteArray) (a1 : ByteArray) (r : ByteArray) (w : World) (hr0 : Kd.C Kd.string w A0 l0.length l0) (hc0 : l0.length ≤ c0) (h : strings_Join.f l0 a1 = some r) :
    Calls Tryd.prog 55 #[.slice A0 l0.length c0, .string a1] w fun e w' => e = .returned (.string r) ∧ Below w.heap.size w w' := by
  unfold strings_Join.f at h
  split at h
  · rename_i h1
    split at h
    · rename_i h2
      obtain rfl := Option.some.inj h
      match l0, hr0, hc0, h1, h2 with
      | [], _, _, _, _ => exact (join_none A0 c0 a1 w).mono fun e w' ⟨he, hw⟩ => ⟨he, hw ▸ Below.refl _ _⟩
      | [x], hr0, _, _, _ =>
        obtain ⟨bk, o, rfl, hbk, hc⟩ := cells_string hr0 (by simp)
        refine (join_one bk o c0 x a1 w (hc 0 (by simp))).mono fun e w' ⟨he, hw⟩ => ⟨?_, hw ▸ Below.refl _ _⟩
        rw [he]
        simp [joinB, Lib.join_one]
      | x :: y :: t, hr0, hc0, h1, h2 =>
        obtain ⟨bk, o, rfl, hbk, hc⟩ := cells_string hr0 (by simp)
        exact join_many bk o c0 x (y :: t) a1 w hc hbk (by simp) (by simp at h2 ⊢; omega) hc0 h1
    · cases h
  · cases h
end Go.Proofs.YtjnheoelcahkaaaDoor.Gv
