/-
  How a value, and a row of seven pairs of bytes, open.
-/
import Derived.Test.YtjnheoelcahkaaaDoorUnNum
import Derived.Test.YtjnheoelcahkaaaDoorArr7
import Derived.Deep.Strs
import Derived.OpenShut
import Derived.ChangeArms
import Derived.WideShapes
import Derived.ChangeShapes
set_option linter.constructorNameAsVariable false
namespace Go.Proofs.YtjnheoelcahkaaaDoor.Arr
open Go.RowKit Go.WideShapes Go.Deep Go.Proofs.YtjnheoelcahkaaaDoor.Gv Go.Proofs.YtjnheoelcahkaaaDoor.Rat
theorem get_of {l : List Value} {i : Nat} {v : Value} (h : (l.drop i).take 1 = [v]) : l[i]? = some v := by
  have := congrArg (fun x => x[0]?) h
  simpa using this
theorem list9 {l : List Value} (h : l.length = 9) {v0 v1 v2 v3 v4 v5 v6 v7 v8 : Value} (h0 : l[0]? = some v0) (h1 : l[1]? = some v1) (h2 : l[2]? = some v2) (h3 : l[3]? = some v3) (h4 : l[4]? = some v4) (h5 : l[5]? = some v5) (h6 : l[6]? = some v6) (h7 : l[7]? = some v7) (h8 : l[8]? = some v8) : l = [v0, v1, v2, v3, v4, v5, v6, v7, v8] := by
  match l, h with
  | [a, b, c, d, e, f, g, i, j], _ => simp_all
set_option maxRecDepth 1000000 in
theorem open_value {H : Type} {enc : TypeId × Value → H} {w W : World} {base b : Nat} {r : Reach} {spare : Nat → Bool} {held : Bool} {v : Value} {d : DataW H} {p : List MemPlace}
    (hv : Value.okWide Tryd.prog W r base 35 v) (h : DataW.Trod enc Tryd.prog w b spare held 35 v d p) :
    ∃ (n m : Int) (x : Nat → Int), v = .agg (val9 n m x) := by
  obtain ⟨cs, rfl, hcs⟩ := okWide_struct Tryd.underlying35 hv
  obtain ⟨fuel, hf⟩ := h
  obtain ⟨y0, y1, y2, k, hx, hl, h0, h1, h2⟩ := trod_struct3 Tryd.underlying35 hf
  obtain ⟨xs, m', _, hx2, hl2, hn2, hf2⟩ := DataW.trod_array Tryd.underlying23 h2
  rw [show Tryd.prog.cellsOf 35 = 9 by kernel_rfl] at hcs hl
  rw [show Tryd.prog.cellsOf 3 = 1 by kernel_rfl] at h0 h1 hf2
  rw [show Tryd.prog.cellsOf 23 = 7 by kernel_rfl] at hf2
  obtain ⟨n0, c0, _, _⟩ := DataW.trod_int Tryd.underlying3 h0
  obtain ⟨n1, c1, _, _⟩ := DataW.trod_int Tryd.underlying3 h1
  simp only [Value.cells] at c0 c1 hl hf2
  have e0 := get_of c0
  have e1 := get_of c1
  have ge : ∀ i, i < 7 → ∃ n, cs.toList[2 + i]? = some (.int .i64 n) := fun i hi => by
    have hh := hf2 i hi
    cases hxi : xs[i]? with
    | none => rw [List.getElem?_eq_none_iff] at hxi; omega
    | some y =>
      rw [hxi] at hh
      obtain ⟨n, c, _, _⟩ := DataW.trod_int Tryd.underlying3 hh
      refine ⟨n, ?_⟩
      rw [Nat.mul_one] at c
      have := congrArg (fun x => x[0]?) c
      simp only [List.getElem?_cons_zero] at this
      rw [List.getElem?_take_of_lt (by omega), List.getElem?_drop, List.getElem?_take_of_lt (by omega), List.getElem?_drop] at this
      simpa using this
  obtain ⟨x0, g0⟩ := ge 0 (by omega)
  obtain ⟨x1, g1⟩ := ge 1 (by omega)
  obtain ⟨x2, g2⟩ := ge 2 (by omega)
  obtain ⟨x3, g3⟩ := ge 3 (by omega)
  obtain ⟨x4, g4⟩ := ge 4 (by omega)
  obtain ⟨x5, g5⟩ := ge 5 (by omega)
  obtain ⟨x6, g6⟩ := ge 6 (by omega)
  have hc := list9 (by simpa using hcs) e0 e1 g0 g1 g2 g3 g4 g5 g6
  refine ⟨n0, n1, of7 x0 x1 x2 x3 x4 x5 x6, ?_⟩
  have : cs = #[.int .i64 n0, .int .i64 n1, .int .i64 x0, .int .i64 x1, .int .i64 x2, .int .i64 x3, .int .i64 x4, .int .i64 x5, .int .i64 x6] := by
    apply Array.ext'; rw [hc]
  rw [this]; rfl
theorem u8_rng {x : Int} (h : (Lit.int .u8 x).wf = true) : 0 ≤ x ∧ x ≤ 255 := by
  simp only [Lit.wf, Bool.and_eq_true, decide_eq_true_eq] at h; exact ⟨h.1, h.2⟩
theorem u8_nat {x : Int} (h : (Lit.int .u8 x).wf = true) : x.toNat ≤ 255 := by have := u8_rng h; omega
theorem u8_cast {x : Int} (h : (Lit.int .u8 x).wf = true) : ((x.toNat : Nat) : Int) = x := by have := u8_rng h; omega
def pr7 (g : Nat → Int) (k : Nat) : Int × Int := (g (2 * k), g (2 * k + 1))
set_option maxRecDepth 1000000 in
theorem open_scaling {H : Type} {enc : TypeId × Value → H} {w W : World} {base b : Nat} {r : Reach} {spare : Nat → Bool} {held : Bool} {v : Value} {d : DataW H} {p : List MemPlace}
    (hv : Value.okWide Tryd.prog W r base 49 v) (h : DataW.Trod enc Tryd.prog w b spare held 49 v d p) :
    ∃ (s : Nat → Int × Int), v = .agg (aggU s) ∧ ∀ k, k < 7 → (0 ≤ (s k).1 ∧ (s k).1 ≤ 255) ∧ (0 ≤ (s k).2 ∧ (s k).2 ≤ 255) := by
  simp only [Value.okWide, Tryd.underlying49] at hv
  obtain ⟨cs, rfl, hcs, _⟩ := hv
  obtain ⟨fuel, hf⟩ := h
  obtain ⟨xs, m', _, hx2, hl2, hn2, hf2⟩ := DataW.trod_array Tryd.underlying49 hf
  rw [show Tryd.prog.cellsOf 49 = 14 by kernel_rfl] at hcs
  rw [show Tryd.prog.cellsOf 47 = 2 by kernel_rfl] at hf2
  simp only [Value.cells] at hf2
  have ge : ∀ i, i < 14 → ∃ n, cs.toList[i]? = some (.int .u8 n) ∧ 0 ≤ n ∧ n ≤ 255 := fun i hi => by
    have hh := hf2 (i / 2) (by omega)
    cases hxi : xs[i / 2]? with
    | none => rw [List.getElem?_eq_none_iff] at hxi; omega
    | some y =>
      rw [hxi] at hh
      obtain ⟨ys, m2, _, _, _, hn3, hf3⟩ := DataW.trod_array Tryd.underlying47 hh
      rw [show Tryd.prog.cellsOf 5 = 1 by kernel_rfl] at hf3
      have h3 := hf3 (i % 2) (by omega)
      cases hyi : ys[i % 2]? with
      | none => rw [List.getElem?_eq_none_iff] at hyi; omega
      | some z =>
        rw [hyi] at h3
        obtain ⟨n, c, _, hw⟩ := DataW.trod_int Tryd.underlying5 h3
        refine ⟨n, ?_, u8_rng hw⟩
        rw [Nat.mul_one] at c
        have := congrArg (fun x => x[0]?) c
        simp only [List.getElem?_cons_zero] at this
        rw [List.getElem?_take_of_lt (by omega), List.getElem?_drop, List.getElem?_take_of_lt (by omega), List.getElem?_drop] at this
        rw [show i / 2 * 2 + (i % 2 + 0) = i by omega] at this
        exact this
  have gi : ∀ i, ∃ n, i < 14 → cs.toList[i]? = some (.int .u8 n) ∧ 0 ≤ n ∧ n ≤ 255 := fun i => by
    by_cases hi : i < 14
    · obtain ⟨n, h1⟩ := ge i hi; exact ⟨n, fun _ => h1⟩
    · exact ⟨0, fun c => absurd c hi⟩
  refine ⟨pr7 (fun i => (gi i).choose), ?_, fun k hk => ?_⟩
  · have : cs = aggU (pr7 (fun i => (gi i).choose)) := by
      apply Array.ext'
      apply List.ext_getElem?
      intro i
      by_cases hi : i < 14
      · rw [((gi i).choose_spec hi).1]
        have : i = 0 ∨ i = 1 ∨ i = 2 ∨ i = 3 ∨ i = 4 ∨ i = 5 ∨ i = 6 ∨ i = 7 ∨ i = 8 ∨ i = 9 ∨ i = 10 ∨ i = 11 ∨ i = 12 ∨ i = 13 := by omega
        rcases this with rfl | rfl | rfl | rfl | rfl | rfl | rfl | rfl | rfl | rfl | rfl | rfl | rfl | rfl <;> rfl
      · rw [List.getElem?_eq_none (by simp; omega), List.getElem?_eq_none (by simp; omega)]
    exact congrArg Value.agg this
  · exact ⟨((gi (2 * k)).choose_spec (by omega)).2, ((gi (2 * k + 1)).choose_spec (by omega)).2⟩
end Go.Proofs.YtjnheoelcahkaaaDoor.Arr
