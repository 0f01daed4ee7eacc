/-
  The plain law LengthParse: numbers and lists alone.
-/
import Derived.Test.YtignpfhlagfijaaDoorXx9
import Derived.Test.YtignpfhlagfijaaDoorPureText
namespace Go.Proofs.YtignpfhlagfijaaDoor.Pure
open Go.RowKit Go.Proofs.YtignpfhlagfijaaDoorW.PrintWords Go.Proofs.YtignpfhlagfijaaDoorW.PrintLast Go.Proofs.YtignpfhlagfijaaDoorW.PrintMore Go.Proofs.YtignpfhlagfijaaDoor.Gv Go.Proofs.YtignpfhlagfijaaDoor.X Go.Proofs.YtignpfhlagfijaaDoor.Dec Go.Lib
theorem LengthParse (a0 : ByteArray) (_ : a0.size ≤ 140737488351232) : ∃ k, vinculumlaw01_LengthParse.f k a0 = some true := by
  refine ⟨1200, ?_⟩
  unfold vinculumlaw01_LengthParse.f
  rw [awake 1200 (by omega), Option.bind_some, if_pos rfl]
  by_cases h40 : (a0.size : Int) > 40
  · rw [if_pos h40]
  · rw [if_neg h40, parse_agree a0 (by omega), ref_value a0 (by omega) 1194 (by omega), Option.bind_some, Option.bind_some, if_pos rfl, if_pos rfl]
    by_cases h : ∃ neg W F, Shape a0.data.toList neg W F
    · obtain ⟨neg, W, F, h⟩ := h
      rw [ref_shape h]
      by_cases e : (fin neg W (F.getD [])).2 = 0
      · rw [if_pos e]
        have hf : fin neg W (F.getD []) = ((fin neg W (F.getD [])).1, 0) := by
          generalize fin neg W (F.getD []) = p at *
          obtain ⟨p1, p2⟩ := p
          simp only at e
          rw [e]
        obtain ⟨h1, h2⟩ := text_fin h hf
        rw [impl_text 1199, if_pos h1, h2, Option.bind_some, Lib.toList_data]
        simp
      · rw [if_neg e]
    · have h : ∀ neg W F, ¬ Shape a0.data.toList neg W F := fun a b c hh => h ⟨a, b, c, hh⟩
      rw [ref_other h, if_neg (by decide)]
end Go.Proofs.YtignpfhlagfijaaDoor.Pure
