/-
  What reads as data of a Go type is a value of the walk's own kind: by the type's shape.
-/
import Derived.Test.YtghdimmomnfakaaDoorWWords
import Derived.OpenShut
import Derived.ChangeArms
import Derived.Carry
import Derived.DataElems
import Derived.DataReads
import Derived.Test.YtghdimmomnfakaaDoorXx0
namespace Go.Proofs.YtghdimmomnfakaaDoor.Rd
open Go.RowKit Go.Proofs.YtghdimmomnfakaaDoorW.PrintWords

/-- what reads as data of type t (to a depth) is a value of the kind d, of which ok holds -/
def Rds {α : Type} (P : Program) (W : World) (t : TypeId) (d : Kd α) (ok : α → Prop) (n : Nat) : Prop :=
  ∀ (H : Type) (enc : TypeId × Value → H) (spare : Nat → Bool) (held : Bool) (fuel : Nat) (cs : List Value) (x : DataW H × List MemPlace), fuel ≤ n → DataW.trod enc P W 0 spare held fuel t cs = some x → ∃ a : α, d.K W a cs ∧ ok a
theorem Rds.le {α : Type} {P : Program} {W : World} {t : TypeId} {d : Kd α} {ok : α → Prop} {n m : Nat} (h : Rds P W t d ok n) (hm : m ≤ n) : Rds P W t d ok m :=
  fun H enc spare held fuel cs x hf => h H enc spare held fuel cs x (Nat.le_trans hf hm)
section
variable {P : Program} {W : World} {t e : TypeId} {n : Nat}
theorem rds_int {k : IntKind} (ht : P.underlying t = some (.int k)) : Rds P W t (Kd.int k) (fun a => (Lit.int k a).wf = true) n := fun H enc spare held fuel cs x _ h => by
  obtain ⟨m, rfl, _, hw⟩ := DataW.trod_int ht h
  exact ⟨m, rfl, hw⟩
theorem rds_bool (ht : P.underlying t = some .bool) : Rds P W t Kd.bool (fun _ => True) n := fun H enc spare held fuel cs x _ h => by
  obtain ⟨b, rfl, _⟩ := DataW.trod_bool ht h
  exact ⟨b, rfl, trivial⟩
theorem rds_string (ht : P.underlying t = some .string) : Rds P W t Kd.string (fun s => s.size ≤ maxLen) n := fun H enc spare held fuel cs x _ h => by
  obtain ⟨s, rfl, _, hs⟩ := DataW.trod_string ht h
  exact ⟨s, rfl, hs⟩
theorem add_twice (a : Addr) (i j : Nat) : (a.add i).add j = a.add (i + j) := Addr.add_add a i j
theorem exists_list {α : Type} {Q : Nat → α → Prop} : ∀ n, (∀ i, i < n → ∃ y, Q i y) → ∃ l : List α, l.length = n ∧ ∀ (i : Nat) y, l[i]? = some y → Q i y
  | 0, _ => ⟨[], rfl, fun i y h => by simp at h⟩
  | n + 1, h => by
    obtain ⟨l, hl, hq⟩ := exists_list n (fun i hi => h i (by omega))
    obtain ⟨y, hy⟩ := h n (by omega)
    refine ⟨l ++ [y], by simp [hl], fun i z hz => ?_⟩
    by_cases hi : i < n
    · rw [List.getElem?_append_left (by omega)] at hz
      exact hq i z hz
    · rw [List.getElem?_append_right (by omega)] at hz
      obtain rfl : i = n := by
        have : i - l.length < 1 := by
          rcases Nat.lt_or_ge (i - l.length) 1 with h | h
          · exact h
          · rw [List.getElem?_eq_none (by simpa using h)] at hz; cases hz
        omega
      rw [hl, Nat.sub_self] at hz
      obtain rfl : y = z := by simpa using hz
      exact hy
/-- a slice's elements, whatever their kind -/
theorem rds_slice_row {α : Type} {d : Kd α} {ok : α → Prop} (ht : P.underlying t = some (.slice e)) (hsz : P.cellsOf e = d.sz) (h : Rds P W e d ok n)
    {H : Type} {enc : TypeId × Value → H} {spare : Nat → Bool} {held : Bool} {fuel : Nat} {cs : List Value} {x : DataW H × List MemPlace} (hf : fuel ≤ n + 1) (hx : DataW.trod enc P W 0 spare held fuel t cs = some x) :
    ∃ (A : Option Addr) (l : List α) (c : Nat), cs = [.slice A l.length c] ∧ l.length ≤ c ∧ Kd.C d W A l.length l ∧ l.length ≤ maxLen ∧ ∀ y, y ∈ l → ok y := by
  rcases DataW.trod_slice ht hx with ⟨rfl, _⟩ | ⟨a, len, cap, elems, rest, m, rfl, rfl, _, _, hl, hm, hlen, hel, _⟩
  · exact ⟨none, [], 0, rfl, Nat.le_refl _, ⟨rfl, Nat.zero_le _, fun h => absurd h (by simp)⟩, Nat.zero_le _, fun y hy => by cases hy⟩
  · have one : ∀ i, i < len → ∃ y : α, (∃ c : List Value, c.length = d.sz ∧ d.K W y c ∧ ∀ j u, c[j]? = some u → W.cell? (a.add (i * d.sz + j)) = some u) ∧ ok y := fun i hi => by
      have h1 := hel i hi
      rw [List.getElem?_eq_getElem (show i < elems.length by omega)] at h1
      obtain ⟨c, hc, hd⟩ := Option.bind_eq_some_iff.1 h1
      obtain ⟨y, hy, hoky⟩ := h H enc spare held m c _ (by omega) hd
      refine ⟨y, ⟨c, d.K_len hy, hy, fun j u hj => ?_⟩, hoky⟩
      unfold World.cells? at hc
      rw [if_pos (Nat.zero_le _)] at hc
      have hlt : j < c.length := by
        rcases Nat.lt_or_ge j c.length with h | h
        · exact h
        · rw [List.getElem?_eq_none h] at hj; cases hj
      rw [d.K_len hy, ← hsz] at hlt
      have := mapM_some_get hc j j (by rw [List.getElem?_range hlt])
      rw [hj, add_twice, hsz] at this
      exact this
    obtain ⟨l, hl1, hq⟩ := exists_list len one
    have hcap : l.length ≤ 9223372036854775807 := by
      have : cap ≤ maxLen := hm
      unfold maxLen at this
      omega
    refine ⟨some a, l, cap, by rw [hl1], by omega, ⟨rfl, hcap, fun _ => ⟨a, rfl, fun j p hp => (hq j p hp).1⟩⟩, by unfold maxLen; omega, fun y hy => ?_⟩
    obtain ⟨j, hj, rfl⟩ := List.getElem_of_mem hy
    exact (hq j _ (List.getElem?_eq_getElem hj)).2
end
end Go.Proofs.YtghdimmomnfakaaDoor.Rd

namespace Go.Proofs.YtghdimmomnfakaaDoor.Rd
open Go.RowKit Go.Proofs.YtghdimmomnfakaaDoorW.PrintWords
open Go.Proofs.YtghdimmomnfakaaDoor.X (S38 k38 k38_mk)
def okRule (x : S38) : Prop := (Lit.int .i64 x.f0).wf = true ∧ x.f1.size ≤ maxLen ∧ x.f2.size ≤ maxLen ∧ (Lit.int .i64 x.f3).wf = true ∧ (Lit.int .i64 x.f4).wf = true ∧ (Lit.int .i64 x.f5).wf = true
theorem ci : Tryd.prog.cellsOf 3 = 1 := by kernel_rfl
theorem cst : Tryd.prog.cellsOf 9 = 1 := by kernel_rfl
theorem ctr : Tryd.prog.cellsOf 38 = 6 := by kernel_rfl
set_option maxRecDepth 100000 in
theorem rds_rule (W : World) (n : Nat) : Rds Tryd.prog W 38 k38 okRule n := fun H enc spare held fuel cs x _ h => by
  obtain ⟨xs, m, rfl, _, hl, hx, hf⟩ := DataW.trod_struct Tryd.underlying38 h
  rw [ctr] at hl
  match cs, hl with
  | [v0, v1, v2, v3, v4, v5], _ =>
    have hx6 : xs.length = 6 := hx
    have get : ∀ i (hi : i < 6), xs[i]? = some (xs[i]'(by omega)) := fun i hi => List.getElem?_eq_getElem (by omega)
    have h0 : DataW.trod enc Tryd.prog W 0 spare held m 3 (List.take (Tryd.prog.cellsOf 3) (List.drop 0 [v0, v1, v2, v3, v4, v5])) = xs[0]? := hf 0 _ rfl
    have h1 : DataW.trod enc Tryd.prog W 0 spare held m 9 (List.take (Tryd.prog.cellsOf 9) (List.drop 1 [v0, v1, v2, v3, v4, v5])) = xs[1]? := hf 1 _ rfl
    have h2 : DataW.trod enc Tryd.prog W 0 spare held m 9 (List.take (Tryd.prog.cellsOf 9) (List.drop 2 [v0, v1, v2, v3, v4, v5])) = xs[2]? := hf 2 _ rfl
    have h3 : DataW.trod enc Tryd.prog W 0 spare held m 3 (List.take (Tryd.prog.cellsOf 3) (List.drop 3 [v0, v1, v2, v3, v4, v5])) = xs[3]? := hf 3 _ rfl
    have h4 : DataW.trod enc Tryd.prog W 0 spare held m 3 (List.take (Tryd.prog.cellsOf 3) (List.drop 4 [v0, v1, v2, v3, v4, v5])) = xs[4]? := hf 4 _ rfl
    have h5 : DataW.trod enc Tryd.prog W 0 spare held m 3 (List.take (Tryd.prog.cellsOf 3) (List.drop 5 [v0, v1, v2, v3, v4, v5])) = xs[5]? := hf 5 _ rfl
    rw [ci, get 0 (by omega)] at h0
    rw [cst, get 1 (by omega)] at h1
    rw [cst, get 2 (by omega)] at h2
    rw [ci, get 3 (by omega)] at h3
    rw [ci, get 4 (by omega)] at h4
    rw [ci, get 5 (by omega)] at h5
    obtain ⟨n0, e0, _, w0⟩ := DataW.trod_int Tryd.underlying3 h0
    obtain ⟨n1, e1, _, w1⟩ := DataW.trod_string Tryd.underlying9 h1
    obtain ⟨n2, e2, _, w2⟩ := DataW.trod_string Tryd.underlying9 h2
    obtain ⟨n3, e3, _, w3⟩ := DataW.trod_int Tryd.underlying3 h3
    obtain ⟨n4, e4, _, w4⟩ := DataW.trod_int Tryd.underlying3 h4
    obtain ⟨n5, e5, _, w5⟩ := DataW.trod_int Tryd.underlying3 h5
    simp at e0 e1 e2 e3 e4 e5
    subst e0 e1 e2 e3 e4 e5
    exact ⟨⟨n0, n1, n2, n3, n4, n5⟩, k38_mk W _, w0, w1, w2, w3, w4, w5⟩
end Go.Proofs.YtghdimmomnfakaaDoor.Rd
