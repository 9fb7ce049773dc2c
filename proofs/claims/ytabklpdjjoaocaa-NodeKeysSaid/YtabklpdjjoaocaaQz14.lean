/- Own text, by hand: what a node answers when asked again. -/
import Derived.Test.YtabklpdjjoaocaaQz0
import Derived.Test.YtabklpdjjoaocaaQz1
import Derived.Test.YtabklpdjjoaocaaQz2
import Derived.Test.YtabklpdjjoaocaaQz3
import Derived.Test.YtabklpdjjoaocaaQz4
import Derived.Test.YtabklpdjjoaocaaQz5
import Derived.Test.YtabklpdjjoaocaaQz6
import Derived.Test.YtabklpdjjoaocaaQz7
import Derived.Test.YtabklpdjjoaocaaQz8
import Derived.Test.YtabklpdjjoaocaaQz9
namespace Go.Proofs.Ytabklpdjjoaocaa.Qz
open Go.RowKit Go.Proofs.YtabklpdjjoaocaaW.PrintWords Go.Proofs.YtabklpdjjoaocaaW.PrintLast Go.Proofs.YtabklpdjjoaocaaW.PrintMore
attribute [local go_sem] max2_int min2_int max_two min_two max_three min_three max_four min_four   -- for this text's walks alone
set_option linter.unusedVariables false
set_option linter.unusedSimpArgs false

theorem answer_len {l : List S61} {a5 a8 : Int} {v : List Int} : (answer l a5 a8 v).length ≤ 8 := by
  unfold answer
  split
  · rename_i h
    obtain ⟨_, h2, _, _, _, h6, _⟩ := erB_true h
    rw [runE_length]
    omega
  · simp
theorem clone_f {v : List Int} (h : v.length ≤ 1000) : slices_Clone_int_int.f v = some v := by
  unfold slices_Clone_int_int.f
  simp only [Option.bind_some, List.length_nil, Nat.zero_add, List.nil_append, if_pos (show v.length < 17592186044416 by omega)]
theorem find_nil (a b c d : Int) : ledger_Find.f [] a b c d = some ([], false) := rfl
theorem enter_nil (a b c d : Int) {v : List Int} (h : v.length ≤ 1000) : ledger_Enter.f [] a b c d v = some ([(⟨(⟨a, b, c, d⟩ : S37), v⟩ : S39)], true) := by
  unfold ledger_Enter.f
  simp only [find_nil, Option.bind_some, if_neg (show ¬ (false = true) by decide), clone_f h]
  unfold ledger_Entry_40.f
  simp
theorem find_one_hit (a b c d : Int) {v : List Int} (h : v.length ≤ 1000) : ledger_Find.f [(⟨(⟨a, b, c, d⟩ : S37), v⟩ : S39)] a b c d = some (v, true) := by
  have e : idxFrom34 (fun x => keyB x a b c d) [(⟨(⟨a, b, c, d⟩ : S37), v⟩ : S39)] 0 = 0 := by
    simp [idxFrom34, keyB]
  unfold ledger_Find.f
  rw [e, if_neg (by omega)]
  have e2 : (rd_T39 [(⟨(⟨a, b, c, d⟩ : S37), v⟩ : S39)] 0).f1 = v := rfl
  rw [e2, clone_f h]
  rfl
theorem work_any {pb hb : Bool} {e : Int} {H : List (List Int)} {n : Int} {l : List S61} {me a0 a1 a2 a3 a4 a5 a6 a7 a8 a9 : Int} {v : List Int} {fb : Bool} (hq : fitsB pb n l me a0 a1 a2 a3 a4 a5 a6 a7 a8 a9 v = fb) (hf : Ev (fun k => node_fits.f k n l e H me a0 a1 a2 a3 a4 a5 a6 a7 a8 a9 v) fb) (hh : Ev (fun k => place_Holds.f k e H a8 me) hb) :
    ∃ r, Ev (fun k => node_Work.f k n l e H me [] a0 a1 a2 a3 a4 a5 a6 a7 a8 a9 v) r := by
  cases fb
  · exact ⟨_, work_no hf⟩
  · by_cases h9 : a9 = e
    · cases hb
      · exact ⟨_, work_stale hf hh (.inr rfl)⟩
      · obtain ⟨_, _, _, _, _, h5, h8, _, h5', h8'⟩ := fitsB_true hq
        exact ⟨_, work_new hf hh h9 h5' h5 h8' h8 (find_nil ..) (enter_nil _ _ _ _ (by have := answer_len (l := l) (a5 := a5) (a8 := a8) (v := v); omega))⟩
    · exact ⟨_, work_stale hf hh (.inl h9)⟩
theorem same07_l0 (x : List Int) (hx : x.length ≤ 2000) : ∀ (d i : Nat), i + d = x.length → Ev (fun k => switchboardref07_Same.l0 k x x (i : Int)) true := by
  intro d
  induction d with
  | zero =>
    intro i hi
    refine ev_shift ?_
    simp only [switchboardref07_Same.l0, if_neg (show ¬ (i : Int) < (x.length : Int) by omega)]
    exact Ev.now _
  | succ d ih =>
    intro i hi
    have hw : wrap64 ((i : Int) + 1) = ((i + 1 : Nat) : Int) := by rw [wrap_small (by omega) (by omega)]; omega
    refine ev_shift ?_
    simp only [switchboardref07_Same.l0, if_pos (show (i : Int) < (x.length : Int) by omega), if_pos (show (0 : Int) ≤ (i : Int) by omega), if_true, hw]
    exact ih (i + 1) (by omega)
theorem same07 (a0 a1 a2 a3 a4 a5 a6 a7 a8 a9 : Int) {x : List Int} (hx : x.length ≤ 1000) : Ev (fun k => switchboardref07_Same.f k a0 a1 a2 a3 a4 a5 a6 a7 a8 a9 x a0 a1 a2 a3 a4 a5 a6 a7 a8 a9 x) true := by
  unfold switchboardref07_Same.f switchboardref07_List.f
  simp only [Option.bind_some, List.length_cons, List.length_nil, if_pos (show 0 + 1 + 1 + 1 + 1 + 1 + 1 + 1 + 1 + 1 + 1 + 1 + x.length < 17592186044416 by omega), if_true]
  exact same07_l0 _ (by simp; omega) _ 0 (Nat.zero_add _)


end Go.Proofs.Ytabklpdjjoaocaa.Qz
