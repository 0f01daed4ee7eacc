/-
  What reads as a list of rules.
-/
import Derived.Test.YtghdimmomnfakaaDoorRd
import Derived.Test.YtghdimmomnfakaaDoorXx0
namespace Go.Proofs.YtghdimmomnfakaaDoor.Rd
open Go.RowKit Go.Proofs.YtghdimmomnfakaaDoorW.PrintWords
open Go.Proofs.YtghdimmomnfakaaDoor.X (S38 k38 k38_mk)
def okRule (x : S38) : Prop := (Lit.int .i64 x.f0).wf = true ∧ x.f1.size ≤ maxLen ∧ x.f2.size ≤ maxLen ∧ (Lit.int .i64 x.f3).wf = true ∧ (Lit.int .i64 x.f4).wf = true ∧ (Lit.int .i64 x.f5).wf = true
theorem ci : Tryd.prog.cellsOf 3 = 1 := by kernel_rfl
theorem cst : Tryd.prog.cellsOf 9 = 1 := by kernel_rfl
theorem ctr : Tryd.prog.cellsOf 38 = 6 := by kernel_rfl
set_option maxRecDepth 100000 in
theorem rds_rule (W : World) (n : Nat) : Rds Tryd.prog W 38 k38 okRule n := fun H enc spare held fuel cs x _ h => by
  obtain ⟨xs, m, rfl, _, hl, hx, hf⟩ := DataW.trod_struct Tryd.underlying38 h
  rw [ctr] at hl
  match cs, hl with
  | [v0, v1, v2, v3, v4, v5], _ =>
    have hx6 : xs.length = 6 := hx
    have get : ∀ i (hi : i < 6), xs[i]? = some (xs[i]'(by omega)) := fun i hi => List.getElem?_eq_getElem (by omega)
    have h0 : DataW.trod enc Tryd.prog W 0 spare held m 3 (List.take (Tryd.prog.cellsOf 3) (List.drop 0 [v0, v1, v2, v3, v4, v5])) = xs[0]? := hf 0 _ rfl
    have h1 : DataW.trod enc Tryd.prog W 0 spare held m 9 (List.take (Tryd.prog.cellsOf 9) (List.drop 1 [v0, v1, v2, v3, v4, v5])) = xs[1]? := hf 1 _ rfl
    have h2 : DataW.trod enc Tryd.prog W 0 spare held m 9 (List.take (Tryd.prog.cellsOf 9) (List.drop 2 [v0, v1, v2, v3, v4, v5])) = xs[2]? := hf 2 _ rfl
    have h3 : DataW.trod enc Tryd.prog W 0 spare held m 3 (List.take (Tryd.prog.cellsOf 3) (List.drop 3 [v0, v1, v2, v3, v4, v5])) = xs[3]? := hf 3 _ rfl
    have h4 : DataW.trod enc Tryd.prog W 0 spare held m 3 (List.take (Tryd.prog.cellsOf 3) (List.drop 4 [v0, v1, v2, v3, v4, v5])) = xs[4]? := hf 4 _ rfl
    have h5 : DataW.trod enc Tryd.prog W 0 spare held m 3 (List.take (Tryd.prog.cellsOf 3) (List.drop 5 [v0, v1, v2, v3, v4, v5])) = xs[5]? := hf 5 _ rfl
    rw [ci, get 0 (by omega)] at h0
    rw [cst, get 1 (by omega)] at h1
    rw [cst, get 2 (by omega)] at h2
    rw [ci, get 3 (by omega)] at h3
    rw [ci, get 4 (by omega)] at h4
    rw [ci, get 5 (by omega)] at h5
    obtain ⟨n0, e0, _, w0⟩ := DataW.trod_int Tryd.underlying3 h0
    obtain ⟨n1, e1, _, w1⟩ := DataW.trod_string Tryd.underlying9 h1
    obtain ⟨n2, e2, _, w2⟩ := DataW.trod_string Tryd.underlying9 h2
    obtain ⟨n3, e3, _, w3⟩ := DataW.trod_int Tryd.underlying3 h3
    obtain ⟨n4, e4, _, w4⟩ := DataW.trod_int Tryd.underlying3 h4
    obtain ⟨n5, e5, _, w5⟩ := DataW.trod_int Tryd.underlying3 h5
    simp at e0 e1 e2 e3 e4 e5
    subst e0 e1 e2 e3 e4 e5
    exact ⟨⟨n0, n1, n2, n3, n4, n5⟩, k38_mk W _, w0, w1, w2, w3, w4, w5⟩
end Go.Proofs.YtghdimmomnfakaaDoor.Rd
