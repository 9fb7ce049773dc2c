/- Own text, by hand: what the row's condition gives the walk. -/
import Derived.Test.YtlbkfeelkdombaaDoorPqF
import Derived.Test.YtlbkfeelkdombaaDoorRows
import Derived.Stop.LaidTwo
import Derived.LaidHandle
import Derived.LaidLaws
namespace Go.Proofs.YtlbkfeelkdombaaDoor.Pq
open Go.RowKit Go.Proofs.YtlbkfeelkdombaaDoorW.PrintWords Go.Proofs.YtlbkfeelkdombaaDoorW.PrintLast Go.Proofs.YtlbkfeelkdombaaDoorW.PrintMore
attribute [local go_sem] max2_int min2_int max_two min_two max_three min_three max_four min_four
set_option linter.unusedVariables false
set_option linter.unusedSimpArgs false

theorem star_errorString : "*" ++ "errors.errorString" = "*errors.errorString" := by decide
theorem row132 (u : TypeId) (h : Tryd.prog.typeName? 3 u = some "*errors.errorString") : u = 132 := typeName_ptr_named (nm := "errors.errorString") (by rw [star_errorString]; kernel_rfl) (by kernel_rfl) (by decide) u (by rw [star_errorString]; exact h)
theorem et_global : Tryd.prog.globalNamed "errors.errorType" = some 2 := by kernel_rfl
theorem rt_cut : (Tryd.prog.cutTypes.find? (·.1 == "internal/reflectlite.rtype")).map (·.2) = some 111 := by kernel_rfl
/-- What the row's condition gives the walk. -/
theorem laidW_of {W : World} (h : laidMetH Tryd.prog Rows.hallReasonsRow.laid W) : ∃ aM aS, LaidW W aM aS := by
  have h' : laidMet Tryd.prog [("switchboard/hall.errShape", Rows.laid_switchboard_hall_errShape), ("switchboard/hall.errMany", Rows.laid_switchboard_hall_errMany)] W ∧ handlesMet Tryd.prog [("errors.errorType", Rows.laid_errors_errorType)] W := h
  obtain ⟨a0, a1, s0, s1, c0, c1, t0, t1, hv0, hv1, _, _, _, _, _, _, hne, hb0, hb1⟩ := laid_sentinels2 (g0 := 1) (g1 := 0) (ti := 78) (tp := 132) (te := 154) (ts := 9) h'.1 (by kernel_rfl) (by kernel_rfl) (by kernel_rfl) (by kernel_rfl) Tryd.underlying78 row132 Tryd.underlying132 Tryd.underlying154 rfl rfl Tryd.underlying9 (by kernel_rfl) (by kernel_rfl)
  obtain ⟨name, u, ty, e1, e2, e3, e4, e5⟩ := h'.2 _ (List.mem_singleton.2 rfl)
  have en : name = [101, 114, 114, 111, 114] := (Option.some.inj e1).symm
  subst en
  obtain rfl := Option.some.inj (rt_cut.symm.trans e2)
  have hm : ty ∈ (List.range Tryd.prog.types.size).filter fun t => Tryd.prog.rowNamed t [101, 114, 114, 111, 114] := List.mem_filter.2 ⟨List.mem_range.2 e3, e4⟩
  rw [show (List.range Tryd.prog.types.size).filter (fun t => Tryd.prog.rowNamed t [101, 114, 114, 111, 114]) = [78] by kernel_rfl] at hm
  obtain rfl := List.mem_singleton.1 hm
  have hh : typeHandle Tryd.prog 78 = .pointer (some ⟨3, 78, none⟩) := by kernel_rfl
  rw [hh] at e5
  exact ⟨a1, a0, by simpa using World.var?_cell (show Tryd.prog.globalNamed "switchboard/hall.errMany" = some 0 by kernel_rfl) hv1 0, by simpa using World.var?_cell (show Tryd.prog.globalNamed "switchboard/hall.errShape" = some 1 by kernel_rfl) hv0 0, by simpa using World.var?_cell et_global e5 0, hne, ⟨_, _, hb1⟩, ⟨_, _, hb0⟩⟩

end Go.Proofs.YtlbkfeelkdombaaDoor.Pq
