-- Laid by wip/xprint.py, a program of this session that runs the kit's print with some contracts given by hand; not a text of print.sh. Lean checks it.
import Derived.Test.YtglcmnhaoeohdaaPr0
namespace Go.Proofs.Ytglcmnhaoeohdaa.Pr
open Go.RowKit Go.Proofs.YtglcmnhaoeohdaaW.PrintWords Go.Proofs.YtglcmnhaoeohdaaW.PrintLast Go.Proofs.YtglcmnhaoeohdaaW.PrintMore
attribute [local go_sem] max2_int min2_int max_two min_two max_three min_three max_four min_four   -- for this text's walks alone
set_option linter.unusedVariables false
set_option linter.unusedSimpArgs false

theorem eqA25 (d : Nat) (w : World) (x0 y0 x1 y1 : Int) :
    (Op.equalIn (d + 2) 25 (.agg #[.int .i64 x0, .int .i64 x1]) (.agg #[.int .i64 y0, .int .i64 y1])).run Try.prog w = .ok (x0 == y0 && (x1 == y1)) w := by
  have h3 : ∀ a b : Int, (Op.equalIn (d + 1) 3 (.int .i64 a) (.int .i64 b)).run Try.prog w = .ok (a == b) w := fun a b => by go_simp
  have hp0 : ∀ a b : Value, (part 3 #[a, b] 0).run Try.prog w = .ok a w := fun a b => by go_simp
  have hp1 : ∀ a b : Value, (part 3 #[a, b] 1).run Try.prog w = .ok b w := fun a b => by go_simp
  have hs : (Try.prog.info? 3).isSome = true := by kernel_rfl
  obtain ⟨i, hi⟩ := Option.isSome_iff_exists.mp hs
  have hc : Try.prog.cellsOf 3 = 1 := by kernel_rfl
  rw [Go.run_equalIn_array w (d + 1) _ _ Try.underlying25 hi, hc]
  show (Op.eqItems (d + 1) 3 1 _ _ [0, 1]).run Try.prog w = _
  simp only [Op.eqItems, Sem.run_bind, Nat.zero_mul, hp0, h3, Result.andThen_ok]
  cases ha : (x0 == y0) <;> cases hb : (x1 == y1) <;> simp [hp1, h3, hb]
end Go.Proofs.Ytglcmnhaoeohdaa.Pr
