-- Laid by wip/xprint.py, a program of this session that runs the kit's print with some contracts given by hand; not a text of print.sh. Lean checks it.
import Derived.Test.YtfipiohchnaglaaPu0
import Derived.Test.YtfipiohchnaglaaPu6
namespace Go.Proofs.Ytfipiohchnaglaa.Pu
open Go.RowKit Go.Proofs.YtfipiohchnaglaaW.PrintWords Go.Proofs.YtfipiohchnaglaaW.PrintLast Go.Proofs.YtfipiohchnaglaaW.PrintMore
attribute [local go_sem] max2_int min2_int max_two min_two max_three min_three max_four min_four   -- for this text's walks alone
set_option linter.unusedVariables false
set_option linter.unusedSimpArgs false

/-! ### model_Combine: function 31 -/
def model_Combine.T6 : Bool × List (List Nat × List Nat) := (true, [([], []), ([], []), ([1], [1]), ([0, 2], [0, 2]), ([3], [3]), ([], []), ([], []), ([5, 6], [5, 6]), ([7], [7]), ([], []), ([9], [9]), ([8, 10], [8, 10]), ([4, 11, 11], [4, 11]), ([12], [12]), ([13], [13]), ([13], [13]), ([14, 12, 0, 1, 2, 3, 4, 5, 6, 7, 8, 9, 10, 11, 12, 13, 14], [14]), ([15, 16, 0, 1, 2, 3, 4, 5, 6, 7, 8, 9, 10, 11, 12, 13, 14, 15, 16], [15])])
def model_Combine.B6 : List Nat := [0, 0, 2, 7, 15, 0, 0, 96, 224, 0, 512, 2016, 4095, 8191, 16383, 16383, 32767, 131071]
end Go.Proofs.Ytfipiohchnaglaa.Pu
