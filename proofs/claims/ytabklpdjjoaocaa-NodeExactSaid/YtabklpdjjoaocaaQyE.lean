/- Own text, by hand: what NodeExact's functions answer. -/
import Derived.Test.YtabklpdjjoaocaaQy0
import Derived.Test.YtabklpdjjoaocaaQy1
import Derived.Test.YtabklpdjjoaocaaQy2
import Derived.Test.YtabklpdjjoaocaaQy3
import Derived.Test.YtabklpdjjoaocaaQy4
import Derived.Test.YtabklpdjjoaocaaQy5
import Derived.Test.YtabklpdjjoaocaaQy6
import Derived.Test.YtabklpdjjoaocaaQy7
import Derived.Test.YtabklpdjjoaocaaQy8
import Derived.Test.YtabklpdjjoaocaaQy9
import Derived.Test.YtabklpdjjoaocaaQy10
import Derived.Test.YtabklpdjjoaocaaQy11
import Derived.Test.YtabklpdjjoaocaaQy12
import Derived.Test.YtabklpdjjoaocaaQy13
import Derived.Test.YtabklpdjjoaocaaQy14
import Derived.Test.YtabklpdjjoaocaaQyD
import Derived.Test.YtabklpdjjoaocaaQyF
import Derived.Test.YtabklpdjjoaocaaQyW
namespace Go.Proofs.Ytabklpdjjoaocaa.Qy
open Go.RowKit Go.Proofs.YtabklpdjjoaocaaW.PrintWords Go.Proofs.YtabklpdjjoaocaaW.PrintLast Go.Proofs.YtabklpdjjoaocaaW.PrintMore
attribute [local go_sem] max2_int min2_int max_two min_two max_three min_three max_four min_four
set_option linter.unusedVariables false
set_option linter.unusedSimpArgs false

/-! ### A map: both say the same -/
theorem pl_l1 (H : List (List Int)) (e : Int) (i : Nat) (hi : i < H.length) (hH : H.length ≤ 1000) (x : List Int) (hx : x.length ≤ 1000) (h0 : 0 < x.length) {chk : Prop}
    (hr : ∃ b, Ev (fun k => place_Right.l0 k H (H.length : Int) ((i + 1 : Nat) : Int) e H) b ∧ (b = true → chk) ∧ (chk → Ev (fun k => switchboardref17_Right.l0 k ((i + 1 : Nat) : Int) e H) b)) : ∀ (d j : Nat) (last : Int), j + d = x.length → (j = 0 → last = 0) → (0 < j → last = rd x ((j - 1 : Nat) : Int) ∧ 1 ≤ last) →
    ∃ b, Ev (fun k => place_Right.l1 k x last H (H.length : Int) (i : Int) x (x.length : Int) (j : Int) e H) b ∧ (b = true → chk) ∧ (chk → Ev (fun k => switchboardref17_Right.l1 k (i : Int) x (j : Int) e H) b) := by
  have hwi : wrap64 ((i : Int) + 1) = ((i + 1 : Nat) : Int) := by rw [wrap_small (by omega) (by omega)]; omega
  intro d
  induction d with
  | zero =>
    intro j last hj h1 h2
    obtain ⟨b, hb, hc, hq⟩ := hr
    refine ⟨b, ?_, hc, fun h => ?_⟩
    · refine ev_shift ?_
      simp only [place_Right.l1, if_neg (show ¬ (j : Int) < (x.length : Int) by omega), if_neg (show ¬ (x.length : Int) = 0 by omega), hwi]
      exact hb
    · refine ev_shift ?_
      simp only [switchboardref17_Right.l1, if_neg (show ¬ (j : Int) < (x.length : Int) by omega), hwi]
      exact hq h
  | succ d ih =>
    intro j last hj h1 h2
    have hw : wrap64 ((j : Int) + 1) = ((j + 1 : Nat) : Int) := by rw [wrap_small (by omega) (by omega)]; omega
    have hjl : (j : Int) < (x.length : Int) := by omega
    have hj0 : (0 : Int) ≤ (j : Int) := by omega
    have hl0 : 0 ≤ last := by
      rcases Nat.eq_zero_or_pos j with h | h
      · rw [h1 h]; decide
      · have := (h2 h).2; omega
    by_cases g1 : rd x (j : Int) ≤ last
    · refine ⟨false, ?_, by simp, fun _ => ?_⟩
      · refine ev_shift ?_
        simp only [place_Right.l1, if_pos hjl, if_pos hj0, if_pos g1]
        exact Ev.now _
      · refine ev_shift ?_
        by_cases g0 : rd x (j : Int) < 1
        · simp only [switchboardref17_Right.l1, if_pos hjl, if_pos hj0, if_pos g0]
          exact Ev.now _
        · by_cases g4 : rd x (j : Int) > 4
          · simp only [switchboardref17_Right.l1, if_pos hjl, if_pos hj0, if_neg g0, if_pos g4]
            exact Ev.now _
          · have hjp : 0 < j := Nat.pos_of_ne_zero (fun hz => by have := h1 hz; omega)
            have hwm : wrap64 ((j : Int) - 1) = ((j - 1 : Nat) : Int) := by rw [wrap_small (by omega) (by omega)]; omega
            have g5 : rd x (j : Int) ≤ rd x ((j - 1 : Nat) : Int) := by rw [← (h2 hjp).1]; exact g1
            simp only [switchboardref17_Right.l1, if_pos hjl, if_pos hj0, if_neg g0, if_neg g4, if_pos (show (j : Int) > 0 by omega), hwm, if_pos (show (0 : Int) ≤ ((j - 1 : Nat) : Int) by omega), if_pos (show ((j - 1 : Nat) : Int) < (x.length : Int) by omega), if_pos g5]
            exact Ev.now _
    · have g0 : ¬ rd x (j : Int) < 1 := by omega
      by_cases g4 : rd x (j : Int) > 4
      · refine ⟨false, ?_, by simp, fun _ => ?_⟩
        · refine ev_shift ?_
          simp only [place_Right.l1, if_pos hjl, if_pos hj0, if_neg g1, if_pos g4]
          exact Ev.now _
        · refine ev_shift ?_
          simp only [switchboardref17_Right.l1, if_pos hjl, if_pos hj0, if_neg g0, if_pos g4]
          exact Ev.now _
      · obtain ⟨b, hb, hc, hq⟩ := ih (j + 1) (rd x (j : Int)) (by omega) (by omega) (fun _ => ⟨by rw [Nat.add_sub_cancel], by omega⟩)
        refine ⟨b, ?_, hc, fun h => ?_⟩
        · refine ev_shift ?_
          simp only [place_Right.l1, if_pos hjl, if_pos hj0, if_neg g1, if_neg g4, hw]
          exact hb
        · refine ev_shift ?_
          by_cases hjp : 0 < j
          · have hwm : wrap64 ((j : Int) - 1) = ((j - 1 : Nat) : Int) := by rw [wrap_small (by omega) (by omega)]; omega
            have g5 : ¬ rd x (j : Int) ≤ rd x ((j - 1 : Nat) : Int) := by rw [← (h2 hjp).1]; exact g1
            simp only [switchboardref17_Right.l1, if_pos hjl, if_pos hj0, if_neg g0, if_neg g4, if_pos (show (j : Int) > 0 by omega), hwm, if_pos (show (0 : Int) ≤ ((j - 1 : Nat) : Int) by omega), if_pos (show ((j - 1 : Nat) : Int) < (x.length : Int) by omega), if_neg g5, hw]
            exact hq h
          · simp only [switchboardref17_Right.l1, if_pos hjl, if_pos hj0, if_neg g0, if_neg g4, if_neg (show ¬ (j : Int) > 0 by omega), hw]
            exact hq h
theorem pl_l0 (H : List (List Int)) (e : Int) (hH : H.length ≤ 1000) (hx : ∀ x ∈ H, x.length ≤ 1000) : ∀ (d i : Nat), i + d = H.length → ∃ b, Ev (fun k => place_Right.l0 k H (H.length : Int) (i : Int) e H) b ∧ (b = true → (0 ≤ e ∧ e ≤ 2147483647 ∧ (H.length : Int) ≤ 8)) ∧ ((0 ≤ e ∧ e ≤ 2147483647 ∧ (H.length : Int) ≤ 8) → Ev (fun k => switchboardref17_Right.l0 k (i : Int) e H) b) := by
  intro d
  induction d with
  | zero =>
    intro i hi
    by_cases h1 : e ≥ 0
    · by_cases h2 : e ≤ 2147483647
      · refine ⟨decide ((H.length : Int) ≤ 8), ev_shift ?_, fun h => ⟨h1, h2, of_decide_eq_true h⟩, fun h => ev_shift ?_⟩
        · simp only [place_Right.l0, if_neg (show ¬ (i : Int) < (H.length : Int) by omega), if_pos h1, if_pos h2]
          exact Ev.now _
        · simp only [switchboardref17_Right.l0, if_neg (show ¬ (i : Int) < (H.length : Int) by omega), decide_eq_true h.2.2]
          exact Ev.now _
      · refine ⟨false, ev_shift ?_, by simp, fun h => absurd h.2.1 h2⟩
        simp only [place_Right.l0, if_neg (show ¬ (i : Int) < (H.length : Int) by omega), if_pos h1, if_neg h2]
        exact Ev.now _
    · refine ⟨false, ev_shift ?_, by simp, fun h => absurd h.1 h1⟩
      simp only [place_Right.l0, if_neg (show ¬ (i : Int) < (H.length : Int) by omega), if_neg h1]
      exact Ev.now _
  | succ d ih =>
    intro i hi
    have hlt : i < H.length := by omega
    have hi0 : (0 : Int) ≤ (i : Int) := by omega
    have hil : (i : Int) < (H.length : Int) := by omega
    by_cases he : (rd_L1 H (i : Int)).length = 0
    · refine ⟨false, ev_shift ?_, by simp, fun _ => ev_shift ?_⟩
      · simp only [place_Right.l0, if_pos hil, if_pos hi0]
        refine ev_shift ?_
        simp only [place_Right.l1, he, if_neg (show ¬ (0 : Int) < ((0 : Nat) : Int) by omega), if_pos (show ((0 : Nat) : Int) = 0 from rfl)]
        exact Ev.now _
      · simp only [switchboardref17_Right.l0, if_pos hil, if_pos hi0, he, if_pos (show ((0 : Nat) : Int) = 0 from rfl)]
        exact Ev.now _
    · obtain ⟨b, hb, hc, hq⟩ := pl_l1 H e i hlt hH (rd_L1 H (i : Int)) (hx _ (rdL_mem hlt)) (by omega) (ih (i + 1) (by omega)) (rd_L1 H (i : Int)).length 0 0 (by omega) (fun _ => rfl) (by omega)
      refine ⟨b, ev_shift ?_, hc, fun h => ev_shift ?_⟩
      · simp only [place_Right.l0, if_pos hil, if_pos hi0]
        exact hb
      · simp only [switchboardref17_Right.l0, if_pos hil, if_pos hi0, if_neg (show ¬ ((rd_L1 H (i : Int)).length : Int) = 0 by omega)]
        exact hq h
theorem place_is (e : Int) {H : List (List Int)} (hF : Few H) : ∃ b, Ev (fun k => place_Right.f k e H) b ∧ Ev (fun k => switchboardref17_Right.f k e H) b := by
  obtain ⟨b, hb, hc, hq⟩ := pl_l0 H e (by have := hF.1; omega) (fun x hx => by have := hF.2 x hx; omega) H.length 0 (by omega)
  refine ⟨b, hb, ?_⟩
  have no : ∀ (h : ¬ (0 ≤ e ∧ e ≤ 2147483647 ∧ (H.length : Int) ≤ 8)), b = false := fun h => by
    cases hb' : b with
    | false => rfl
    | true => exact absurd (hc hb') h
  unfold switchboardref17_Right.f
  by_cases h1 : e < 0
  · rw [no (by omega)]
    simp only [if_pos h1]
    refine ev_shift ?_
    simp only [switchboardref17_Right.j0, if_true]
    exact Ev.now _
  · by_cases h2 : e > 2147483647
    · rw [no (by omega)]
      simp only [if_neg h1, if_pos h2]
      refine ev_shift ?_
      simp only [switchboardref17_Right.j0, if_true]
      exact Ev.now _
    · by_cases h3 : (H.length : Int) > 8
      · rw [no (by omega)]
        simp only [if_neg h1, if_neg h2, decide_eq_true h3]
        refine ev_shift ?_
        simp only [switchboardref17_Right.j0, if_true]
        exact Ev.now _
      · simp only [if_neg h1, if_neg h2, decide_eq_false h3]
        refine ev_shift ?_
        simp only [switchboardref17_Right.j0, if_neg (show ¬ (false = true) by decide)]
        exact hq ⟨by omega, by omega, by omega⟩
/-! ### A message: both say the same -/
theorem r07_l0 (u v : List Int) (hu : u.length = 11) (hv : v.length ≤ 1000) (a0 a1 a2 a3 a4 a5 a6 a7 a8 a9 : Int) : ∀ (d i : Nat), i + d = (u ++ v).length →
    Ev (fun k => switchboardref07_Right.l0 k (u ++ v) (i : Int) a0 a1 a2 a3 a4 a5 a6 a7 a8 a9 v) ((u.drop i).all inR && ((v.drop (i - 11)).all inV && tailB a0 v)) := by
  have hlen : (u ++ v).length = 11 + v.length := by rw [List.length_append, hu]
  intro d
  induction d with
  | zero =>
    intro i hi
    refine ev_shift ?_
    rw [List.drop_eq_nil_of_le (show u.length ≤ i by omega), List.drop_eq_nil_of_le (show v.length ≤ i - 11 by omega)]
    simp only [switchboardref07_Right.l0, if_neg (show ¬ (i : Int) < ((u ++ v).length : Int) by omega), List.all_nil, Bool.true_and]
    unfold tailB
    by_cases h1 : a0 > 0
    · by_cases h2 : a0 < 5
      · simp only [if_pos h1, if_pos h2, decide_eq_true (show 1 ≤ a0 by omega), decide_eq_true (show a0 ≤ 4 by omega), Bool.true_and]
        rw [show decide ((v.length : Int) ≤ 8) = decide ((v.length : Int) < 9) from decide_eq_decide.2 (by omega)]
        exact Ev.now _
      · simp only [if_pos h1, if_neg h2, decide_eq_false (show ¬ a0 ≤ 4 by omega), Bool.false_and, Bool.and_false]
        exact Ev.now _
    · simp only [if_neg h1, decide_eq_false (show ¬ 1 ≤ a0 by omega), Bool.false_and]
      exact Ev.now _
  | succ d ih =>
    intro i hi
    have hw : wrap64 ((i : Int) + 1) = ((i + 1 : Nat) : Int) := by rw [wrap_small (by omega) (by omega)]; omega
    have hil : (i : Int) < ((u ++ v).length : Int) := by omega
    have hi0 : (0 : Int) ≤ (i : Int) := by omega
    have ih := ih (i + 1) (by omega)
    by_cases h11 : i < 11
    · have hrd : rd (u ++ v) (i : Int) = u[i]'(by omega) := by rw [rd_at (by omega), List.getElem_append_left]
      rw [show i - 11 = 0 by omega, List.drop_zero]
      rw [show i + 1 - 11 = 0 by omega, List.drop_zero] at ih
      rw [List.drop_eq_getElem_cons (show i < u.length by omega), List.all_cons, ← hrd]
      refine ev_shift ?_
      by_cases h1 : rd (u ++ v) (i : Int) > 2147483647
      · have : inR (rd (u ++ v) (i : Int)) = false := Bool.eq_false_iff.mpr (fun h => by have := inR_iff.1 h; omega)
        simp only [switchboardref07_Right.l0, if_pos hil, if_pos hi0, if_pos h1, this, Bool.false_and]
        exact Ev.now _
      · by_cases h2 : rd (u ++ v) (i : Int) < -2147483648
        · have : inR (rd (u ++ v) (i : Int)) = false := Bool.eq_false_iff.mpr (fun h => by have := inR_iff.1 h; omega)
          simp only [switchboardref07_Right.l0, if_pos hil, if_pos hi0, if_neg h1, if_pos h2, this, Bool.false_and]
          exact Ev.now _
        · by_cases h3 : rd (u ++ v) (i : Int) < 0
          · have : inR (rd (u ++ v) (i : Int)) = false := Bool.eq_false_iff.mpr (fun h => by have := inR_iff.1 h; omega)
            simp only [switchboardref07_Right.l0, if_pos hil, if_pos hi0, if_neg h1, if_neg h2, if_pos (show (i : Int) < 11 by omega), if_pos h3, this, Bool.false_and]
            exact Ev.now _
          · have : inR (rd (u ++ v) (i : Int)) = true := inR_iff.2 ⟨by omega, by omega⟩
            simp only [switchboardref07_Right.l0, if_pos hil, if_pos hi0, if_neg h1, if_neg h2, if_pos (show (i : Int) < 11 by omega), if_neg h3, this, Bool.true_and, hw]
            exact ih
    · have hrd : rd (u ++ v) (i : Int) = v[i - 11]'(by omega) := by rw [rd_at (by omega), List.getElem_append_right (by omega)]; simp only [hu]
      rw [List.drop_eq_nil_of_le (show u.length ≤ i by omega), List.all_nil, Bool.true_and]
      rw [List.drop_eq_nil_of_le (show u.length ≤ i + 1 by omega), List.all_nil, Bool.true_and, show i + 1 - 11 = (i - 11) + 1 by omega] at ih
      rw [List.drop_eq_getElem_cons (show i - 11 < v.length by omega), List.all_cons, ← hrd]
      refine ev_shift ?_
      by_cases h1 : rd (u ++ v) (i : Int) > 2147483647
      · have : inV (rd (u ++ v) (i : Int)) = false := Bool.eq_false_iff.mpr (fun h => by have := inV_iff.1 h; omega)
        simp only [switchboardref07_Right.l0, if_pos hil, if_pos hi0, if_pos h1, this, Bool.false_and]
        exact Ev.now _
      · by_cases h2 : rd (u ++ v) (i : Int) < -2147483648
        · have : inV (rd (u ++ v) (i : Int)) = false := Bool.eq_false_iff.mpr (fun h => by have := inV_iff.1 h; omega)
          simp only [switchboardref07_Right.l0, if_pos hil, if_pos hi0, if_neg h1, if_pos h2, this, Bool.false_and]
          exact Ev.now _
        · have : inV (rd (u ++ v) (i : Int)) = true := inV_iff.2 ⟨by omega, by omega⟩
          simp only [switchboardref07_Right.l0, if_pos hil, if_pos hi0, if_neg h1, if_neg h2, if_neg (show ¬ (i : Int) < 11 by omega), this, Bool.true_and, hw]
          exact ih
theorem ref07_is (a0 a1 a2 a3 a4 a5 a6 a7 a8 a9 : Int) (v : List Int) (hv : v.length ≤ 1000) : Ev (fun k => switchboardref07_Right.f k a0 a1 a2 a3 a4 a5 a6 a7 a8 a9 v) (wireB a0 a1 a2 a3 a4 a5 a6 a7 a8 a9 v) := by
  have h := r07_l0 [a0, a1, a2, a3, a4, a5, a6, a7, a8, a9, (v.length : Int)] v rfl hv a0 a1 a2 a3 a4 a5 a6 a7 a8 a9 (11 + v.length) 0 (by rw [List.length_append]; simp only [List.length_cons, List.length_nil]; omega)
  have e : (([a0, a1, a2, a3, a4, a5, a6, a7, a8, a9, (v.length : Int)].drop 0).all inR && ((v.drop (0 - 11)).all inV && tailB a0 v)) = wireB a0 a1 a2 a3 a4 a5 a6 a7 a8 a9 v := by
    have hl : inR (v.length : Int) = true := inR_iff.2 ⟨by omega, by omega⟩
    unfold wireB
    simp only [List.drop_zero, Nat.zero_sub, List.all_cons, List.all_nil, hl, Bool.and_true]
  rw [e] at h
  unfold switchboardref07_Right.f switchboardref07_List.f
  simp only [Option.bind_some, if_pos (show ([a0, a1, a2, a3, a4, a5, a6, a7, a8, a9, (v.length : Int)] : List Int).length + v.length < 17592186044416 by simp only [List.length_cons, List.length_nil]; omega)]
  exact h
/-! ### Who holds an expert: both say the same -/
theorem has_l0 (x : List Int) (y : Int) (hx : x.length ≤ 1000) : ∀ (d i : Nat), i + d = x.length → ∃ r, Ev (fun k => slices_Index_int_int.l0 k x y (x.length : Int) (i : Int)) r ∧ Ev (fun k => switchboardref17_Has.l0 k x y (i : Int)) (decide (r ≥ 0)) := by
  intro d
  induction d with
  | zero =>
    intro i hi
    refine ⟨-1, ev_shift ?_, ev_shift ?_⟩
    · simp only [slices_Index_int_int.l0, if_neg (show ¬ (i : Int) < (x.length : Int) by omega)]
      exact Ev.now _
    · simp only [switchboardref17_Has.l0, if_neg (show ¬ (i : Int) < (x.length : Int) by omega)]
      exact Ev.now _
  | succ d ih =>
    intro i hi
    have hw : wrap64 ((i : Int) + 1) = ((i + 1 : Nat) : Int) := by rw [wrap_small (by omega) (by omega)]; omega
    have hil : (i : Int) < (x.length : Int) := by omega
    have hi0 : (0 : Int) ≤ (i : Int) := by omega
    by_cases h : y = rd x (i : Int)
    · refine ⟨(i : Int), ev_shift ?_, ev_shift ?_⟩
      · simp only [slices_Index_int_int.l0, if_pos hil, if_pos hi0, if_pos h]
        exact Ev.now _
      · rw [decide_eq_true (show (i : Int) ≥ 0 by omega)]
        simp only [switchboardref17_Has.l0, if_pos hil, if_pos hi0, if_pos h.symm]
        exact Ev.now _
    · obtain ⟨r, hr, hq⟩ := ih (i + 1) (by omega)
      refine ⟨r, ev_shift ?_, ev_shift ?_⟩
      · simp only [slices_Index_int_int.l0, if_pos hil, if_pos hi0, if_neg h, hw]
        exact hr
      · simp only [switchboardref17_Has.l0, if_pos hil, if_pos hi0, if_neg (show ¬ rd x (i : Int) = y from fun h_ => h h_.symm), hw]
        exact hq
theorem holds_is (e : Int) {H : List (List Int)} (hF : Few H) {x : Int} (h1 : 0 ≤ x) (h2 : x < (H.length : Int)) (me : Int) : ∃ b, Ev (fun k => place_Holds.f k e H x me) b ∧ Ev (fun k => switchboardref17_Has.f k (rd_L1 H x) me) b := by
  obtain ⟨i, rfl⟩ : ∃ i : Nat, x = (i : Int) := ⟨x.toNat, by omega⟩
  have := hF.2 _ (rdL_mem (m := H) (i := i) (by omega))
  obtain ⟨r, hr, hq⟩ := has_l0 (rd_L1 H (i : Int)) me (by omega) (rd_L1 H (i : Int)).length 0 (by omega)
  refine ⟨decide (r ≥ 0), ?_, hq⟩
  unfold place_Holds.f
  simp only [if_pos h1, if_pos h2]
  unfold slices_Contains_int_int.f slices_Index_int_int.f
  exact Ev.bind (Ev.bind hr (Ev.now _)) (Ev.now _)
theorem holds_no (e : Int) {H : List (List Int)} {x : Int} (h1 : 0 ≤ x) (h2 : ¬ x < (H.length : Int)) (me : Int) : Ev (fun k => place_Holds.f k e H x me) false := by
  unfold place_Holds.f
  simp only [if_pos h1, if_neg h2]
  exact Ev.now _
/-! ### A ledger: both say the same -/
def cvE (x : S39) : S42 := ⟨⟨x.f0.f0, x.f0.f1, x.f0.f2, x.f0.f3⟩, x.f1⟩
theorem rdF_map {l : List S39} {i : Nat} (h : i < l.length) : rd_T42 (l.map cvE) i = cvE l[i] := by
  unfold rd_T42
  rw [Int.toNat_natCast, List.getD_eq_getElem?_getD, List.getElem?_eq_getElem (by rw [List.length_map]; exact h)]
  simp
theorem refFind_l0 (l : List S39) (a b c d : Int) (hn : l.length ≤ 60) : ∀ (e i : Nat), i + e = l.length →
    Ev (fun k => switchboardref12_Find.l0 k (l.map cvE) i a b c d) (idxFrom34 (fun y => keyB y a b c d) (l.drop i) i) := by
  intro e
  induction e with
  | zero =>
    intro i hi
    refine ev_shift ?_
    rw [List.drop_eq_nil_of_le (by omega)]
    simp only [switchboardref12_Find.l0, List.length_map, if_neg (show ¬ (i : Int) < (l.length : Int) by omega), idxFrom34]
    exact Ev.now _
  | succ e ih =>
    intro i hi
    have hlt : i < l.length := by omega
    have hw : wrap64 ((i : Int) + 1) = ((i + 1 : Nat) : Int) := by rw [wrap_small (by omega) (by omega)]; omega
    refine ev_shift ?_
    rw [List.drop_eq_getElem_cons hlt]
    simp only [switchboardref12_Find.l0, List.length_map, if_pos (show (i : Int) < (l.length : Int) by omega), if_pos (show (0 : Int) ≤ (i : Int) by omega), rdF_map hlt, hw, idxFrom34]
    have hp : ((cvE l[i]).f0.f0 == a && ((cvE l[i]).f0.f1 == b && ((cvE l[i]).f0.f2 == c && ((cvE l[i]).f0.f3 == d)))) = keyB l[i] a b c d := rfl
    rw [hp]
    by_cases h : keyB l[i] a b c d = true
    · simp only [if_pos h]
      exact Ev.now _
    · simp only [if_neg h]
      exact ih (i + 1) (by omega)
theorem refFind_ev (l : List S39) (a b c d : Int) (hn : l.length ≤ 60) : Ev (fun k => switchboardref12_Find.f k (l.map cvE) a b c d) (idxFrom34 (fun y => keyB y a b c d) l 0) := by
  unfold switchboardref12_Find.f
  exact refFind_l0 l a b c d hn l.length 0 (by omega)
/-- What is found: nothing, or the one at an index. -/
theorem find_is (l : List S39) (a b c d : Int) (hn : l.length ≤ 60) (hs : ∀ x ∈ l, x.f1.length ≤ 30) : ∃ at_, Ev (fun k => switchboardref12_Find.f k (l.map cvE) a b c d) at_ ∧
    ((at_ < 0 ∧ ¬ There l a b c d) ∨ (0 ≤ at_ ∧ at_ < ((l.map cvE).length : Int) ∧ (rd_T42 (l.map cvE) at_).f1.length ≤ 30 ∧ ledger_Find.f l a b c d = some ((rd_T42 (l.map cvE) at_).f1, true))) := by
  refine ⟨_, refFind_ev l a b c d hn, ?_⟩
  rcases idxSpec18 (fun y => keyB y a b c d) l 0 with e | ⟨k, hk, e⟩
  · rw [e]
    refine .inl ⟨by decide, ?_⟩
    rintro ⟨x, hx, hp⟩
    have := idx_none _ l 0 e x hx
    rw [hp] at this
    cases this
  · rw [Nat.zero_add] at e
    rw [e]
    refine .inr ⟨by omega, by rw [List.length_map]; omega, ?_, ?_⟩
    · rw [rdF_map hk]
      exact hs _ (List.getElem_mem hk)
    · unfold ledger_Find.f
      rw [e, if_neg (by omega), rdEn_get hk, cloneI_fk (by have := hs l[k] (List.getElem_mem hk); omega), rdF_map hk]
      rfl
/-! ### What a node does with a message: both say the same -/
theorem fits_h {pb : Bool} (n : Int) (ls : List S61) (e : Int) (hs : List (List Int)) (me a0 a1 a2 a3 a4 a5 a6 a7 a8 a9 : Int) (v : List Int) (hM : FewM ls) (hv : v.length ≤ 30) (hp : Ev (fun k => switchboardref17_Right.f k e hs) pb) :
    FitsH n ls e hs me a0 a1 a2 a3 a4 a5 a6 a7 a8 a9 v (modelOk n ls) pb (wireB a0 a1 a2 a3 a4 a5 a6 a7 a8 a9 v) (tokOk n [v]) (fitsB pb n ls me a0 a1 a2 a3 a4 a5 a6 a7 a8 a9 v) := by
  refine ⟨mright_is n ls hM, hp, ref07_is _ _ _ _ _ _ _ _ _ _ _ (by omega), mtokens_is n ls [v] ⟨by simp, fun r hr => by rw [List.mem_singleton.1 hr]; omega⟩, wireB_true, ?_, ?_, ?_, ?_⟩
  · intro h
    refine Bool.eq_false_iff.mpr (fun hf => h ?_)
    obtain ⟨h1, h2, h3, h4, h5, _⟩ := fitsB_true hf
    exact ⟨h1, h2, h3, h4, h5⟩
  · intro _ _ _ _ _ h
    refine Bool.eq_false_iff.mpr (fun hf => ?_)
    obtain ⟨_, _, _, _, _, h6, _⟩ := fitsB_true hf
    omega
  · intro _ _ _ _ _ _ h
    refine Bool.eq_false_iff.mpr (fun hf => ?_)
    obtain ⟨_, _, _, _, _, _, h7, _⟩ := fitsB_true hf
    omega
  · intro h1 h2 h3 h4 h5 h6 h7
    unfold fitsB
    rw [h1, h2, h3, decide_eq_true h4, decide_eq_true h5, decide_eq_true h6, decide_eq_true h7]
    rfl
theorem answer_is {n : Int} {ls : List S61} {a5 a8 : Int} {v : List Int} (hm : modelOk n ls = true) (h5 : 0 ≤ a5 ∧ a5 < (ls.length : Int)) (h8 : 0 ≤ a8 ∧ a8 < ((rd_T61 ls a5).f1.length : Int)) (ht : tokOk n [v] = true) :
    Ev (fun k => switchboardref11_Run.f k (rd_T63 (rd_T61 ls a5).f1 a8).f0 (rd_T63 (rd_T61 ls a5).f1 a8).f1 v) (answer ls a5 a8 v) := by
  obtain ⟨i, rfl⟩ : ∃ i : Nat, a5 = (i : Int) := ⟨a5.toNat, by omega⟩
  obtain ⟨j, rfl⟩ : ∃ j : Nat, a8 = (j : Int) := ⟨a8.toNat, by omega⟩
  obtain ⟨g1, g2, _, _, gl⟩ := goodM_of hm
  obtain ⟨_, _, _, _, _, gx⟩ := gl _ (rdY_mem (l := ls) (t := i) (by omega))
  have hx := gx _ (rdE_mem (l := (rd_T61 ls (i : Int)).f1) (t := j) (by omega))
  have her := goodX_er ⟨g1, g2⟩ hx
  rw [← tok_true ht] at her
  have h := ref11_run her
  unfold answer
  rw [if_pos her]
  exact h
theorem node_all (n : Int) (ls : List S61) (e : Int) (hs : List (List Int)) (me : Int) (l : List S39) (a0 a1 a2 a3 a4 a5 a6 a7 a8 a9 : Int) (v : List Int) (hM : FewM ls) (hP : Few hs) (hl : l.length ≤ 60) (hv : v.length ≤ 30) (h30 : ∀ x ∈ l, x.f1.length ≤ 30) :
    ∃ bR bM bA bT fr, FitsH n ls e hs me a0 a1 a2 a3 a4 a5 a6 a7 a8 a9 v bR bM bA bT fr ∧
      ((fr = false ∧ Ev (fun k => node_Work.f k n ls e hs me l a0 a1 a2 a3 a4 a5 a6 a7 a8 a9 v) (l, 0, 0, 0, 0, 0, 0, 0, 0, 0, 0, [], false)) ∨
       (fr = true ∧ ∃ hB at_ k0 rv r r1, WorkH n ls e hs me (l.map cvE) a0 a1 a2 a3 a4 a5 a6 a7 a8 a9 v hB at_ k0 rv r ∧ Ev (fun k => node_Work.f k n ls e hs me l a0 a1 a2 a3 a4 a5 a6 a7 a8 a9 v) (r1, k0, me, a1, a3, a4, a5, a6, a7, a8, e, rv, true) ∧ rv.length ≤ 30 ∧
        (r = false → r1 = l) ∧ (r = true → r1.length = l.length + 1 ∧ rd_T39 r1 (l.length : Int) = ⟨⟨a4, a5, a6, a7⟩, rv⟩))) := by
  obtain ⟨pb, hp, hq⟩ := place_is e hP
  refine ⟨_, _, _, _, _, fits_h n ls e hs me a0 a1 a2 a3 a4 a5 a6 a7 a8 a9 v hM hv hq, ?_⟩
  have hf := fits_ev hp n ls me a0 a1 a2 a3 a4 a5 a6 a7 a8 a9 v (show v.length ≤ 1000 by omega)
  cases hfb : fitsB pb n ls me a0 a1 a2 a3 a4 a5 a6 a7 a8 a9 v with
  | false =>
    rw [hfb] at hf
    exact .inl ⟨rfl, work_no hf⟩
  | true =>
    rw [hfb] at hf
    refine .inr ⟨rfl, ?_⟩
    obtain ⟨h1, _, h3, _, _, h6, h7, h8, p5, p8⟩ := fitsB_true hfb
    obtain ⟨at_, hat, hor⟩ := find_is l a4 a5 a6 a7 hl h30
    by_cases hlt : a8 < (hs.length : Int)
    · obtain ⟨hB, hh, hH⟩ := holds_is e hP p8 hlt me
      by_cases h9 : a9 = e ∧ hB = true
      · obtain ⟨h9, rfl⟩ := h9
        rcases hor with ⟨hn, hno⟩ | ⟨hge, hl2, h30', hfi⟩
        · have hans := answer_is h1 ⟨p5, h6⟩ ⟨p8, h7⟩ h8
          have hal := @answer_len ls a5 a8 v
          refine ⟨true, at_, 2, answer ls a5 a8 v, true, _, ⟨p8, ⟨p5, h6⟩, h7, fun _ _ => hH, hat, fun h => absurd ⟨h9, hlt, rfl⟩ h, fun _ _ _ h => absurd h (by omega), fun _ _ _ _ => ⟨rfl, rfl, hans⟩⟩, work_new hf hh h9 p5 h6 p8 h7 (find_not hno) (enter_not hno (by omega) (by omega)), by omega, by simp, fun _ => ⟨by simp, ?_⟩⟩
          rw [rdEn_get (by simp)]
          simp
        · exact ⟨true, at_, 2, _, false, l, ⟨p8, ⟨p5, h6⟩, h7, fun _ _ => hH, hat, fun h => absurd ⟨h9, hlt, rfl⟩ h, fun _ _ _ _ => ⟨hl2, rfl, rfl, rfl⟩, fun _ _ _ h => absurd h (by omega)⟩, work_found hf hh h9 hfi, h30', fun _ => rfl, by simp⟩
      · exact ⟨hB, at_, 3, [], false, l, ⟨p8, ⟨p5, h6⟩, h7, fun _ _ => hH, hat, fun _ => ⟨rfl, rfl, rfl⟩, fun h _ h_ => absurd ⟨h, h_⟩ h9, fun h _ h_ => absurd ⟨h, h_⟩ h9⟩, work_stale hf hh (by
          by_cases h : a9 = e
          · exact .inr (Bool.eq_false_iff.mpr (fun h_ => h9 ⟨h, h_⟩))
          · exact .inl h), by simp, fun _ => rfl, by simp⟩
    · exact ⟨false, at_, 3, [], false, l, ⟨p8, ⟨p5, h6⟩, h7, fun _ h => absurd h hlt, hat, fun _ => ⟨rfl, rfl, rfl⟩, fun _ h => absurd h hlt, fun _ h => absurd h hlt⟩, work_stale hf (holds_no e p8 hlt me) (.inr rfl), by simp, fun _ => rfl, by simp⟩


end Go.Proofs.Ytabklpdjjoaocaa.Qy
