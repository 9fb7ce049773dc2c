/- Own text, by hand: what the functions answer, as plain functions. -/
import Derived.Test.YtabklpdjjoaocaaQy0
import Derived.Test.YtabklpdjjoaocaaQy1
import Derived.Test.YtabklpdjjoaocaaQy2
import Derived.Test.YtabklpdjjoaocaaQy3
import Derived.Test.YtabklpdjjoaocaaQy4
import Derived.Test.YtabklpdjjoaocaaQy5
import Derived.Test.YtabklpdjjoaocaaQy6
import Derived.Test.YtabklpdjjoaocaaQy7
import Derived.Test.YtabklpdjjoaocaaQy8
import Derived.Test.YtabklpdjjoaocaaQy9
import Derived.Test.YtabklpdjjoaocaaQy10
import Derived.Test.YtabklpdjjoaocaaQy11
import Derived.Test.YtabklpdjjoaocaaQy12
import Derived.Test.YtabklpdjjoaocaaQy13
import Derived.Test.YtabklpdjjoaocaaQy14
namespace Go.Proofs.Ytabklpdjjoaocaa.Qy
open Go.RowKit Go.Proofs.YtabklpdjjoaocaaW.PrintWords Go.Proofs.YtabklpdjjoaocaaW.PrintLast Go.Proofs.YtabklpdjjoaocaaW.PrintMore
attribute [local go_sem] max2_int min2_int max_two min_two max_three min_three max_four min_four
set_option linter.unusedVariables false
set_option linter.unusedSimpArgs false

theorem wrap_small {i : Int} (h0 : -9223372036854775808 ≤ i) (h1 : i < 9223372036854775808) : wrap64 i = i := by
  unfold wrap64
  omega

theorem ev_shift {α : Type} {g : Nat → Option α} {r : α} (h : Ev (fun k => g (k + 1)) r) : Ev g r := Ev.step (fun _ => rfl) h

theorem rd_get {v : List Int} {i : Int} (h0 : 0 ≤ i) (h1 : i < v.length) : ∃ h : i.toNat < v.length, rd v i = v[i.toNat]'h := by
  refine ⟨by omega, ?_⟩
  unfold rd
  rw [List.getD_eq_getElem?_getD, List.getElem?_eq_getElem (by omega)]
  rfl

theorem hold_range (x : Int) : -2147483647 ≤ hold x ∧ hold x ≤ 2147483647 := by
  unfold hold mx mn
  split <;> split <;> omega
theorem hold_id {x : Int} (h0 : -2147483647 ≤ x) (h1 : x ≤ 2147483647) : hold x = x := by
  unfold hold mx mn
  split <;> split <;> omega
theorem hold_cases (x : Int) : hold x = if x > 2147483647 then 2147483647 else if x < -2147483647 then -2147483647 else x := by
  unfold hold mx mn
  split <;> split <;> split <;> first | omega | (split <;> omega)
theorem prod_range {x y : Int} (hx : -2147483647 ≤ x ∧ x ≤ 2147483647) (hy : -2147483647 ≤ y ∧ y ≤ 2147483647) : -4611686014132420609 ≤ x * y ∧ x * y ≤ 4611686014132420609 := by
  have h1 : x.natAbs ≤ 2147483647 := by omega
  have h2 : y.natAbs ≤ 2147483647 := by omega
  have h3 : (x * y).natAbs ≤ 2147483647 * 2147483647 := by rw [Int.natAbs_mul]; exact Nat.mul_le_mul h1 h2
  omega
theorem mul_wrap (a b : Int) : wrap64 (hold a * hold b) = hold a * hold b := by
  have := prod_range (hold_range a) (hold_range b)
  exact wrap_small (by omega) (by omega)
theorem tdiv_range {p : Int} (h0 : -4611686014132420609 ≤ p) (h1 : p ≤ 4611686014132420609) : -70368744144896 ≤ p.tdiv 65536 ∧ p.tdiv 65536 ≤ 70368744144896 := by
  rcases Int.le_total 0 p with h | h
  · rw [Int.tdiv_eq_ediv_of_nonneg h]; omega
  · have e : p.tdiv 65536 = -((-p).tdiv 65536) := by rw [Int.neg_tdiv]; omega
    rw [e, Int.tdiv_eq_ediv_of_nonneg (by omega)]; omega
theorem mulI_eq (a b : Int) : mulI a b = hold ((hold a * hold b).tdiv 65536) := by
  unfold mulI
  have := prod_range (hold_range a) (hold_range b)
  have h2 := tdiv_range this.1 this.2
  rw [mul_wrap, wrap_small (by omega) (by omega)]
theorem addI_eq (a b : Int) : addI a b = hold (hold a + hold b) := by
  unfold addI
  have h1 := hold_range a
  have h2 := hold_range b
  rw [wrap_small (by omega) (by omega)]
theorem mulI_range (a b : Int) : -2147483647 ≤ mulI a b ∧ mulI a b ≤ 2147483647 := by rw [mulI_eq]; exact hold_range _
theorem addI_range (a b : Int) : -2147483647 ≤ addI a b ∧ addI a b ≤ 2147483647 := by rw [addI_eq]; exact hold_range _
theorem addF (a b : Int) : fix_Add.f a b = some (addI a b) := rfl
theorem mulF (a b : Int) : fix_Mul.f a b = some (mulI a b) := rfl
/-- The products of the first numbers, added. -/
def dotN (a b : List Int) : Nat → Int
  | 0 => 0
  | n + 1 => addI (dotN a b n) (mulI (rd a n) (rd b n))
theorem dotN_range (a b : List Int) (n : Nat) : -2147483647 ≤ dotN a b n ∧ dotN a b n ≤ 2147483647 := by
  cases n with
  | zero => simp [dotN]
  | succ n => exact addI_range _ _
theorem dot_l0 (a b : List Int) (hl : a.length = b.length) (hn : a.length ≤ 9223372036854775806) : ∀ (d i : Nat), i + d = a.length →
    Ev (fun k => vec_Dot.l0 k b (dotN a b i) a (a.length : Int) i) (dotN a b a.length, true) := by
  intro d
  induction d with
  | zero =>
    intro i hi
    have e : i = a.length := by omega
    subst e
    refine Ev.step (f := fun _ => some _) (fun k => ?_) (Ev.now _)
    simp only [vec_Dot.l0]
    rw [if_neg (by omega)]
  | succ d ih =>
    intro i hi
    have hw : wrap64 ((i : Int) + 1) = ((i + 1 : Nat) : Int) := by rw [wrap_small (by omega) (by omega)]; omega
    refine Ev.step (fun k => ?_) (ih (i + 1) (by omega))
    simp only [vec_Dot.l0, mulF, addF, Option.bind_some]
    rw [if_pos (by omega), if_pos (by omega), if_pos (by omega), if_pos (by omega), hw]
    rfl
theorem dot_ev (a b : List Int) (hl : a.length = b.length) (hn : a.length ≤ 9223372036854775806) : Ev (fun k => vec_Dot.f k a b) (dotN a b a.length, true) := by
  unfold vec_Dot.f
  simp only [if_pos (show (a.length : Int) = (b.length : Int) by omega)]
  exact dot_l0 a b hl hn a.length 0 (by omega)
theorem same_l0 (a : List Int) (hn : a.length ≤ 9223372036854775806) : ∀ (d i : Nat), i + d = a.length →
    Ev (fun k => switchboardref02_Same.l0 k a a i) true := by
  intro d
  induction d with
  | zero =>
    intro i hi
    refine Ev.step (f := fun _ => some _) (fun k => ?_) (Ev.now _)
    simp only [switchboardref02_Same.l0]
    rw [if_neg (by omega)]
  | succ d ih =>
    intro i hi
    have hw : wrap64 ((i : Int) + 1) = ((i + 1 : Nat) : Int) := by rw [wrap_small (by omega) (by omega)]; omega
    refine Ev.step (fun k => ?_) (ih (i + 1) (by omega))
    simp only [switchboardref02_Same.l0, if_true]
    rw [if_pos (by omega), if_pos (by omega), if_pos (by omega), hw]
theorem same_refl (a : List Int) (hn : a.length ≤ 9223372036854775806) : Ev (fun k => switchboardref02_Same.f k a a) true := by
  unfold switchboardref02_Same.f
  simp only [if_true]
  exact same_l0 a hn a.length 0 (by omega)
theorem relu_f {a : List Int} (hn : a.length < 17592186044416) : vec_Relu.f a = some (mapTo (fun _ x => mx (hold x) 0) a a.length) := by
  unfold vec_Relu.f
  rw [if_pos hn]
theorem rdL_get {m : List (List Int)} {i : Nat} (h : i < m.length) : rd_L1 m (i : Int) = m[i] := by
  unfold rd_L1
  rw [Int.toNat_natCast, List.getD_eq_getElem?_getD, List.getElem?_eq_getElem h]
  rfl
theorem rdL_mem {m : List (List Int)} {i : Nat} (h : i < m.length) : rd_L1 m (i : Int) ∈ m := by
  rw [rdL_get h]
  exact List.getElem_mem h
/-- Rows by a row, those in order from place i on; 'none': one is not as long. -/
def applyTo (m : List (List Int)) (v : List Int) : Nat → List Int
  | 0 => []
  | n + 1 => applyTo m v n ++ [dotN (rd_L1 m (n : Int)) v v.length]
theorem applyTo_length (m : List (List Int)) (v : List Int) : ∀ n, (applyTo m v n).length = n := by
  intro n
  induction n with
  | zero => rfl
  | succ n ih => simp only [applyTo, List.length_append, ih]; rfl
/-- Is each row as long as v? -/
def Fit (m : List (List Int)) (v : List Int) : Prop := ∀ r ∈ m, r.length = v.length
instance (m : List (List Int)) (v : List Int) : Decidable (Fit m v) := by unfold Fit; infer_instance
theorem apply_l0 (m : List (List Int)) (v : List Int) (hm : m.length < 17592186044416) (hv : v.length ≤ 9223372036854775806) (hf : Fit m v) : ∀ (d i : Nat), i + d = m.length →
    Ev (fun k => mat_Apply.l0 k v (applyTo m v i) m (m.length : Int) i) (applyTo m v m.length, true) := by
  intro d
  induction d with
  | zero =>
    intro i hi
    have e : i = m.length := by omega
    subst e
    refine ev_shift ?_
    simp only [mat_Apply.l0, if_neg (show ¬ (m.length : Int) < (m.length : Int) by omega)]
    exact Ev.now _
  | succ d ih =>
    intro i hi
    have hw : wrap64 ((i : Int) + 1) = ((i + 1 : Nat) : Int) := by rw [wrap_small (by omega) (by omega)]; omega
    have hr := hf _ (rdL_mem (m := m) (i := i) (by omega))
    refine ev_shift ?_
    simp only [mat_Apply.l0, if_pos (show (i : Int) < (m.length : Int) by omega), if_pos (show (0 : Int) ≤ (i : Int) by omega), hw]
    refine Ev.bind (dot_ev _ v hr (by omega)) ?_
    simp only [if_true, applyTo_length, if_pos (show i < 17592186044416 by omega), hr]
    exact ih (i + 1) (by omega)
theorem apply_yes (m : List (List Int)) (v : List Int) (hm : m.length < 17592186044416) (hv : v.length ≤ 9223372036854775806) (hf : Fit m v) : Ev (fun k => mat_Apply.f k m v) (applyTo m v m.length, true) :=
  apply_l0 m v hm hv hf m.length 0 (by omega)
theorem small_j1_false (m : List (List Int)) (i : Int) : Ev (fun k => switchboardref03_Small.j1 k m i false) (decide ((m.length : Int) ≤ 30)) := by
  refine ev_shift ?_
  simp only [switchboardref03_Small.j1, if_neg (show ¬ (false = true) by decide)]
  exact Ev.now _
/-- Rows are few, and short. -/
def Few (m : List (List Int)) : Prop := m.length ≤ 30 ∧ ∀ r ∈ m, r.length ≤ 30
theorem small_l0 (m : List (List Int)) : ∀ (d i : Nat), i + d = 30 → (∀ j : Nat, j < i → j < m.length → (rd_L1 m (j : Int)).length ≤ 30) →
    ∃ b : Bool, Ev (fun k => switchboardref03_Small.l0 k m i) b ∧ (b = true → Few m) := by
  intro d
  induction d with
  | zero =>
    intro i hi hq
    by_cases h : (i : Int) < (m.length : Int)
    · refine ⟨decide ((m.length : Int) ≤ 30), ?_, ?_⟩
      · refine ev_shift ?_
        simp only [switchboardref03_Small.l0, if_pos h, decide_eq_false (show ¬ (i : Int) < 30 by omega)]
        exact small_j1_false m i
      · intro hb
        have := of_decide_eq_true hb
        omega
    · refine ⟨decide ((m.length : Int) ≤ 30), ?_, ?_⟩
      · refine ev_shift ?_
        simp only [switchboardref03_Small.l0, if_neg h]
        exact small_j1_false m i
      · intro hb
        refine ⟨by omega, fun r hr => ?_⟩
        obtain ⟨j, hj, rfl⟩ := List.getElem_of_mem hr
        have := hq j (by omega) hj
        rwa [rdL_get hj] at this
  | succ d ih =>
    intro i hi hq
    have hw : wrap64 ((i : Int) + 1) = ((i + 1 : Nat) : Int) := by rw [wrap_small (by omega) (by omega)]; omega
    by_cases h : (i : Int) < (m.length : Int)
    · by_cases h2 : ((rd_L1 m (i : Int)).length : Int) > 30
      · refine ⟨false, ?_, fun hb => by cases hb⟩
        refine ev_shift ?_
        simp only [switchboardref03_Small.l0, if_pos h, decide_eq_true (show (i : Int) < 30 by omega)]
        refine ev_shift ?_
        simp only [switchboardref03_Small.j1, if_true, if_pos (show (0 : Int) ≤ (i : Int) by omega), if_pos h, if_pos h2]
        exact Ev.now _
      · obtain ⟨b, hb, hq2⟩ := ih (i + 1) (by omega) (fun j hj hl => by
          by_cases e : j < i
          · exact hq j e hl
          · have : j = i := by omega
            subst this
            omega)
        refine ⟨b, ?_, hq2⟩
        refine ev_shift ?_
        simp only [switchboardref03_Small.l0, if_pos h, decide_eq_true (show (i : Int) < 30 by omega)]
        refine ev_shift ?_
        simp only [switchboardref03_Small.j1, if_true, if_pos (show (0 : Int) ≤ (i : Int) by omega), if_pos h, if_neg h2, hw]
        exact hb
    · refine ⟨decide ((m.length : Int) ≤ 30), ?_, ?_⟩
      · refine ev_shift ?_
        simp only [switchboardref03_Small.l0, if_neg h]
        exact small_j1_false m i
      · intro hb
        refine ⟨of_decide_eq_true hb |> fun z => by omega, fun r hr => ?_⟩
        obtain ⟨j, hj, rfl⟩ := List.getElem_of_mem hr
        have := hq j (by omega) hj
        rwa [rdL_get hj] at this
theorem small_ev (m : List (List Int)) : ∃ b : Bool, Ev (fun k => switchboardref03_Small.f k m) b ∧ (b = true → Few m) :=
  small_l0 m 30 0 (by omega) (fun j hj => by omega)

theorem ref_hold (x : Int) : switchboardref01_Hold.f x = some (hold x) := by
  unfold switchboardref01_Hold.f
  rw [hold_cases]
  split
  · rfl
  · split <;> rfl
theorem ref_mul_j0 (x y : Int) (s : Bool) (hx : -2147483647 ≤ x ∧ x ≤ 2147483647) (hy : -2147483647 ≤ y ∧ y ≤ 2147483647) :
    Ev (fun k => switchboardref01_Mul.j0 k x y s) (hold (if s = true then -((x * y).tdiv 65536) else (x * y).tdiv 65536)) := by
  have hp := prod_range hx hy
  have ht := tdiv_range hp.1 hp.2
  refine ev_shift ?_
  by_cases c : y < 0
  · have e1 : wrap64 (-y) = -y := wrap_small (by omega) (by omega)
    have e2 : wrap64 (x * -y) = -(x * y) := by rw [Int.mul_neg]; exact wrap_small (by omega) (by omega)
    have e3 : wrap64 ((-(x * y)).tdiv 65536) = -((x * y).tdiv 65536) := by rw [Int.neg_tdiv]; exact wrap_small (by omega) (by omega)
    have e4 : wrap64 (- -((x * y).tdiv 65536)) = (x * y).tdiv 65536 := by rw [Int.neg_neg]; exact wrap_small (by omega) (by omega)
    cases s
    · simp only [switchboardref01_Mul.j0, if_pos c, if_neg (show ¬ (false = true) by decide), e1, e2, e3, e4, ref_hold, Option.bind_some]
      exact Ev.now _
    · simp only [switchboardref01_Mul.j0, if_pos c, if_true, e1, e2, e3, ref_hold, Option.bind_some]
      exact Ev.now _
  · have e2 : wrap64 (x * y) = x * y := wrap_small (by omega) (by omega)
    have e3 : wrap64 ((x * y).tdiv 65536) = (x * y).tdiv 65536 := wrap_small (by omega) (by omega)
    have e4 : wrap64 (-((x * y).tdiv 65536)) = -((x * y).tdiv 65536) := wrap_small (by omega) (by omega)
    cases s
    · simp only [switchboardref01_Mul.j0, if_neg c, if_neg (show ¬ (false = true) by decide), e2, e3, ref_hold, Option.bind_some]
      exact Ev.now _
    · simp only [switchboardref01_Mul.j0, if_neg c, if_true, e2, e3, e4, ref_hold, Option.bind_some]
      exact Ev.now _
theorem ref_mul (a b : Int) : Ev (fun k => switchboardref01_Mul.f k a b) (mulI a b) := by
  unfold switchboardref01_Mul.f
  have ha := hold_range a
  have hb := hold_range b
  rw [mulI_eq]
  simp only [ref_hold, Option.bind_some]
  by_cases c : hold a < 0
  · have e1 : wrap64 (-(hold a)) = -(hold a) := wrap_small (by omega) (by omega)
    simp only [if_pos c, e1, Bool.not_false]
    have := ref_mul_j0 (-(hold a)) (hold b) true (by omega) hb
    rw [if_pos rfl, Int.neg_mul, Int.neg_tdiv, Int.neg_neg] at this
    exact this
  · simp only [if_neg c]
    have := ref_mul_j0 (hold a) (hold b) false ha hb
    rw [if_neg (by decide)] at this
    exact this

theorem ref_dot_l0 (a b : List Int) (hl : a.length = b.length) (hn : a.length ≤ 9223372036854775806) : ∀ (d i : Nat), i + d = a.length →
    Ev (fun k => switchboardref02_Dot.l0 k a b (dotN a b i) i) (dotN a b a.length) := by
  intro d
  induction d with
  | zero =>
    intro i hi
    have e : i = a.length := by omega
    subst e
    refine ev_shift ?_
    simp only [switchboardref02_Dot.l0, if_neg (show ¬ (a.length : Int) < (a.length : Int) by omega)]
    exact Ev.now _
  | succ d ih =>
    intro i hi
    have hw : wrap64 ((i : Int) + 1) = ((i + 1 : Nat) : Int) := by rw [wrap_small (by omega) (by omega)]; omega
    have h1 := dotN_range a b i
    have h2 := mulI_range (rd a i) (rd b i)
    refine ev_shift ?_
    simp only [switchboardref02_Dot.l0, if_pos (show (i : Int) < (a.length : Int) by omega), if_pos (show (0 : Int) ≤ (i : Int) by omega), if_pos (show (i : Int) < (b.length : Int) by omega), hw]
    refine Ev.bind (ref_mul (rd a i) (rd b i)) ?_
    have e : hold (wrap64 (dotN a b i + mulI (rd a i) (rd b i))) = dotN a b (i + 1) := by
      simp only [dotN]
      rw [addI_eq, hold_id h1.1 h1.2, hold_id h2.1 h2.2, wrap_small (by omega) (by omega)]
    simp only [ref_hold, Option.bind_some, e]
    exact ih (i + 1) (by omega)
theorem ref_dot (a b : List Int) (hl : a.length = b.length) (hn : a.length ≤ 9223372036854775806) : Ev (fun k => switchboardref02_Dot.f k a b) (dotN a b a.length) :=
  ref_dot_l0 a b hl hn a.length 0 (by omega)

theorem ref_apply_l0 (m : List (List Int)) (v : List Int) (hm : m.length < 17592186044416) (hv : v.length ≤ 9223372036854775806) : ∀ (d i : Nat), i + d = m.length → (∀ j : Nat, j < i → (rd_L1 m (j : Int)).length = v.length) →
    Ev (fun k => switchboardref03_Apply.l0 k m v (applyTo m v i) i) (if Fit m v then (applyTo m v m.length, true) else ([], false)) := by
  intro d
  induction d with
  | zero =>
    intro i hi hq
    have e : i = m.length := by omega
    subst e
    have hf : Fit m v := by
      intro r hr
      obtain ⟨j, hj, rfl⟩ := List.getElem_of_mem hr
      have := hq j hj
      rwa [rdL_get hj] at this
    rw [if_pos hf]
    refine ev_shift ?_
    simp only [switchboardref03_Apply.l0, if_neg (show ¬ (m.length : Int) < (m.length : Int) by omega)]
    exact Ev.now _
  | succ d ih =>
    intro i hi hq
    have hw : wrap64 ((i : Int) + 1) = ((i + 1 : Nat) : Int) := by rw [wrap_small (by omega) (by omega)]; omega
    refine ev_shift ?_
    simp only [switchboardref03_Apply.l0, if_pos (show (i : Int) < (m.length : Int) by omega), if_pos (show (0 : Int) ≤ (i : Int) by omega), hw]
    by_cases h : (rd_L1 m (i : Int)).length = v.length
    · simp only [if_pos (show ((rd_L1 m (i : Int)).length : Int) = (v.length : Int) by omega)]
      refine Ev.bind (ref_dot _ v h (by omega)) ?_
      simp only [applyTo_length, if_pos (show i < 17592186044416 by omega), h]
      refine ih (i + 1) (by omega) (fun j hj => ?_)
      by_cases e : j < i
      · exact hq j e
      · have : j = i := by omega
        subst this
        exact h
    · simp only [if_neg (show ¬ ((rd_L1 m (i : Int)).length : Int) = (v.length : Int) by omega)]
      rw [if_neg (fun hf => h (hf _ (rdL_mem (by omega))))]
      exact Ev.now _
theorem ref_apply (m : List (List Int)) (v : List Int) (hm : m.length < 17592186044416) (hv : v.length ≤ 9223372036854775806) :
    Ev (fun k => switchboardref03_Apply.f k m v) (if Fit m v then (applyTo m v m.length, true) else ([], false)) :=
  ref_apply_l0 m v hm hv m.length 0 (by omega) (fun j hj => by omega)

theorem ref_relu_l0 (a : List Int) (hn : a.length ≤ 100) : ∀ (d i : Nat), i + d = a.length →
    Ev (fun k => switchboardref02_Relu.l0 k a (mapTo (fun _ x => mx (hold x) 0) a i) i) (mapTo (fun _ x => mx (hold x) 0) a a.length) := by
  intro d
  induction d with
  | zero =>
    intro i hi
    have e : i = a.length := by omega
    subst e
    refine ev_shift ?_
    simp only [switchboardref02_Relu.l0, if_neg (show ¬ (a.length : Int) < (a.length : Int) by omega)]
    exact Ev.now _
  | succ d ih =>
    intro i hi
    have hw : wrap64 ((i : Int) + 1) = ((i + 1 : Nat) : Int) := by rw [wrap_small (by omega) (by omega)]; omega
    have := ih (i + 1) (by omega)
    rw [mapTo_succ] at this
    refine ev_shift ?_
    simp only [switchboardref02_Relu.l0, if_pos (show (i : Int) < (a.length : Int) by omega), if_pos (show (0 : Int) ≤ (i : Int) by omega), hw, mapTo_length, if_pos (show i < 17592186044416 by omega), ref_hold, Option.bind_some]
    by_cases c : hold (rd a i) < 0
    · simp only [if_pos c]
      rw [show mx (hold (rd a i)) 0 = 0 by unfold mx; rw [if_pos c]] at this
      exact this
    · simp only [if_neg c]
      rw [show mx (hold (rd a i)) 0 = hold (rd a i) by unfold mx; rw [if_neg c]] at this
      exact this

theorem notHeld_eq (x : Int) : notHeld x = (decide (x > 2147483647) || decide (x < -2147483647)) := by
  unfold notHeld holdR mx mn
  rw [Bool.eq_iff_iff]
  simp only [decide_eq_true_eq, Bool.or_eq_true]
  split <;> split <;> omega

theorem ref_right_l1 (m : List (List Int)) (c : Int) (i : Nat) (hi : i < m.length) (rest : Bool) (hrow : (rd_L1 m (i : Int)).length ≤ 9223372036854775806) (hm : m.length ≤ 9223372036854775806)
    (hr : Ev (fun k => switchboardref03_Right.l0 k m c ((i + 1 : Nat) : Int)) rest) : ∀ (d j : Nat), j + d = (rd_L1 m (i : Int)).length →
    Ev (fun k => switchboardref03_Right.l1 k m c i j) (!(((rd_L1 m (i : Int)).drop j).any notHeld) && rest) := by
  intro d
  have hwi : wrap64 ((i : Int) + 1) = ((i + 1 : Nat) : Int) := by rw [wrap_small (by omega) (by omega)]; omega
  induction d with
  | zero =>
    intro j hj
    refine ev_shift ?_
    simp only [switchboardref03_Right.l1, if_pos (show (0 : Int) ≤ (i : Int) by omega), if_pos (show (i : Int) < (m.length : Int) by omega), if_neg (show ¬ (j : Int) < ((rd_L1 m (i : Int)).length : Int) by omega), hwi]
    rw [List.drop_eq_nil_of_le (by omega)]
    exact hr
  | succ d ih =>
    intro j hj
    have hwj : wrap64 ((j : Int) + 1) = ((j + 1 : Nat) : Int) := by rw [wrap_small (by omega) (by omega)]; omega
    obtain ⟨h', e⟩ := rd_get (v := rd_L1 m (i : Int)) (i := (j : Int)) (by omega) (by omega)
    have hd : (rd_L1 m (i : Int)).drop j = rd (rd_L1 m (i : Int)) (j : Int) :: (rd_L1 m (i : Int)).drop (j + 1) := by
      rw [e]
      simp only [Int.toNat_natCast]
      exact List.drop_eq_getElem_cons _
    rw [hd, List.any_cons, notHeld_eq]
    refine ev_shift ?_
    simp only [switchboardref03_Right.l1, if_pos (show (0 : Int) ≤ (i : Int) by omega), if_pos (show (i : Int) < (m.length : Int) by omega), if_pos (show (j : Int) < ((rd_L1 m (i : Int)).length : Int) by omega), if_pos (show (0 : Int) ≤ (j : Int) by omega), hwj]
    by_cases h1 : rd (rd_L1 m (i : Int)) (j : Int) > 2147483647
    · simp only [if_pos h1, decide_eq_true h1, Bool.true_or, Bool.not_true, Bool.false_and]
      exact Ev.now _
    · by_cases h2 : rd (rd_L1 m (i : Int)) (j : Int) < -2147483647
      · simp only [if_neg h1, if_pos h2, decide_eq_true h2, Bool.or_true, Bool.true_or, Bool.not_true, Bool.false_and]
        exact Ev.now _
      · simp only [if_neg h1, if_neg h2, decide_eq_false h1, decide_eq_false h2, Bool.or_false, Bool.false_or]
        exact ih (j + 1) (by omega)
theorem ref_right_l0 (m : List (List Int)) (c : Int) (hm : m.length ≤ 9223372036854775806) (hl : ∀ r ∈ m, r.length ≤ 9223372036854775806) : ∀ (d i : Nat), i + d = m.length →
    Ev (fun k => switchboardref03_Right.l0 k m c i) (!((m.drop i).any (rowWrong c))) := by
  intro d
  induction d with
  | zero =>
    intro i hi
    refine ev_shift ?_
    simp only [switchboardref03_Right.l0, if_neg (show ¬ (i : Int) < (m.length : Int) by omega)]
    rw [List.drop_eq_nil_of_le (by omega)]
    exact Ev.now _
  | succ d ih =>
    intro i hi
    have hil : i < m.length := by omega
    have hd : m.drop i = rd_L1 m (i : Int) :: m.drop (i + 1) := by rw [rdL_get hil]; exact List.drop_eq_getElem_cons hil
    rw [hd, List.any_cons]
    refine ev_shift ?_
    simp only [switchboardref03_Right.l0, if_pos (show (i : Int) < (m.length : Int) by omega), if_pos (show (0 : Int) ≤ (i : Int) by omega)]
    by_cases h : ((rd_L1 m (i : Int)).length : Int) = c
    · simp only [if_pos h]
      have := ref_right_l1 m c i hil _ (hl _ (rdL_mem hil)) hm (ih (i + 1) (by omega)) _ 0 (by omega : 0 + (rd_L1 m (i : Int)).length = _)
      have e : (!(rowWrong c (rd_L1 m (i : Int)) || (m.drop (i + 1)).any (rowWrong c))) = (!(((rd_L1 m (i : Int)).drop 0).any notHeld) && !((m.drop (i + 1)).any (rowWrong c))) := by
        unfold rowWrong
        rw [decide_eq_false (show ¬ ¬ ((rd_L1 m (i : Int)).length : Int) = c from fun hc => hc h), Bool.false_or, Bool.not_or]
        rfl
      rw [e]
      exact this
    · simp only [if_neg h]
      have e : rowWrong c (rd_L1 m (i : Int)) = true := by
        unfold rowWrong
        rw [decide_eq_true h, Bool.true_or]
      rw [e, Bool.true_or]
      exact Ev.now _
theorem ref_right (m : List (List Int)) (rows c : Int) (hm : m.length ≤ 9223372036854775806) (hl : ∀ r ∈ m, r.length ≤ 9223372036854775806) :
    Ev (fun k => switchboardref03_Right.f k m rows c) (decide ((m.length : Int) = rows) && !(m.any (rowWrong c))) := by
  unfold switchboardref03_Right.f
  by_cases h : (m.length : Int) = rows
  · simp only [if_pos h, decide_eq_true h, Bool.true_and]
    exact ref_right_l0 m c hm hl m.length 0 (by omega)
  · simp only [if_neg h, decide_eq_false h, Bool.false_and]
    exact Ev.now _

def matR (m : List (List Int)) (r c : Int) : Bool := decide ((m.length : Int) = r) && !(m.any (rowWrong c))
theorem matR_f (m : List (List Int)) (r c : Int) : mat_Right.f m r c = some (matR m r c) := rfl
theorem matR_true {m : List (List Int)} {r c : Int} (h : matR m r c = true) : (m.length : Int) = r ∧ ∀ x ∈ m, (x.length : Int) = c ∧ ∀ y ∈ x, -2147483647 ≤ y ∧ y ≤ 2147483647 := by
  unfold matR at h
  rw [Bool.and_eq_true, decide_eq_true_eq, Bool.not_eq_true', List.any_eq_false] at h
  refine ⟨h.1, fun x hx => ?_⟩
  have := h.2 x hx
  unfold rowWrong at this
  rw [Bool.or_eq_true, decide_eq_true_eq, List.any_eq_true] at this
  refine ⟨Classical.byContradiction fun hc => this (.inl hc), fun y hy => ?_⟩
  refine Classical.byContradiction fun hc => this (.inr ⟨y, hy, ?_⟩)
  rw [notHeld_eq, Bool.or_eq_true, decide_eq_true_eq, decide_eq_true_eq]
  omega
/-- Is an expert right, for tokens of d numbers? -/
def erB (a b : List (List Int)) (d : Int) : Bool := decide (1 ≤ d) && (decide (d ≤ 8) && (decide (1 ≤ (a.length : Int)) && (decide ((a.length : Int) ≤ 8) && (matR a a.length d && matR b d a.length))))
theorem right_f (a b : List (List Int)) (d : Int) : expert_Right.f a b d = some (erB a b d) := by
  unfold expert_Right.f erB
  by_cases h1 : 1 ≤ d
  · rw [if_pos h1, decide_eq_true h1, Bool.true_and]
    by_cases h2 : d ≤ 8
    · rw [if_pos h2, decide_eq_true h2, Bool.true_and]
      by_cases h3 : 1 ≤ (a.length : Int)
      · rw [if_pos h3, decide_eq_true h3, Bool.true_and]
        by_cases h4 : (a.length : Int) ≤ 8
        · rw [if_pos h4, decide_eq_true h4, Bool.true_and, matR_f, matR_f]
          simp only [Option.bind_some]
          cases matR a a.length d
          · rfl
          · rfl
        · rw [if_neg h4, decide_eq_false h4, Bool.false_and]
      · rw [if_neg h3, decide_eq_false h3, Bool.false_and]
    · rw [if_neg h2, decide_eq_false h2, Bool.false_and]
  · rw [if_neg h1, decide_eq_false h1, Bool.false_and]
theorem erB_true {a b : List (List Int)} {d : Int} (h : erB a b d = true) : 1 ≤ d ∧ d ≤ 8 ∧ 1 ≤ a.length ∧ a.length ≤ 8 ∧ (∀ x ∈ a, (x.length : Int) = d ∧ ∀ y ∈ x, -2147483647 ≤ y ∧ y ≤ 2147483647) ∧ (b.length : Int) = d ∧ (∀ x ∈ b, x.length = a.length ∧ ∀ y ∈ x, -2147483647 ≤ y ∧ y ≤ 2147483647) := by
  unfold erB at h
  simp only [Bool.and_eq_true, decide_eq_true_eq] at h
  obtain ⟨h1, h2, h3, h4, h5, h6⟩ := h
  have h5 := matR_true h5
  have h6 := matR_true h6
  exact ⟨h1, h2, by omega, by omega, h5.2, h6.1, fun x hx => ⟨by have := (h6.2 x hx).1; omega, (h6.2 x hx).2⟩⟩
def reluL (l : List Int) : List Int := mapTo (fun _ x => mx (hold x) 0) l l.length
theorem reluL_length (l : List Int) : (reluL l).length = l.length := mapTo_length _ _ _
theorem reluL_f {l : List Int} (h : l.length < 17592186044416) : vec_Relu.f l = some (reluL l) := relu_f h
/-- What a right expert makes. -/
def runE (a b : List (List Int)) (v : List Int) : List Int := applyTo b (reluL (applyTo a v a.length)) b.length
theorem runE_length (a b : List (List Int)) (v : List Int) : (runE a b v).length = b.length := applyTo_length _ _ _
theorem run_fits {a b : List (List Int)} {v : List Int} (h : erB a b v.length = true) : Fit a v ∧ Fit b (reluL (applyTo a v a.length)) := by
  obtain ⟨_, _, _, _, h5, _, h7⟩ := erB_true h
  refine ⟨fun x hx => by have := (h5 x hx).1; omega, fun x hx => ?_⟩
  rw [reluL_length, applyTo_length]
  exact (h7 x hx).1
theorem run_yes {a b : List (List Int)} {v : List Int} (h : erB a b v.length = true) : Ev (fun k => expert_Run.f k a b v) (runE a b v, true) := by
  obtain ⟨h1, h2, h3, h4, h5, h6, h7⟩ := erB_true h
  obtain ⟨f1, f2⟩ := run_fits h
  unfold expert_Run.f
  simp only [right_f, h, Option.bind_some, if_true]
  refine Ev.bind (apply_yes a v (by omega) (by omega) f1) ?_
  simp only [reluL_f (show (applyTo a v a.length).length < 17592186044416 by rw [applyTo_length]; omega), Option.bind_some]
  exact Ev.bind (apply_yes b _ (by omega) (by rw [reluL_length, applyTo_length]; omega) f2) (Ev.now _)
theorem run_no {a b : List (List Int)} {v : List Int} (h : erB a b v.length = false) : Ev (fun k => expert_Run.f k a b v) ([], false) := by
  unfold expert_Run.f
  simp only [right_f, h, Option.bind_some, if_neg (show ¬ (false = true) by decide)]
  exact Ev.now _
theorem run_ev (a b : List (List Int)) (v : List Int) : Ev (fun k => expert_Run.f k a b v) (if erB a b v.length = true then (runE a b v, true) else ([], false)) := by
  by_cases h : erB a b v.length = true
  · rw [if_pos h]; exact run_yes h
  · rw [if_neg h]; exact run_no (Bool.eq_false_iff.mpr h)

theorem ref11_run {a b : List (List Int)} {v : List Int} (h : erB a b v.length = true) : Ev (fun k => switchboardref11_Run.f k a b v) (runE a b v) := by
  obtain ⟨h1, h2, h3, h4, h5, h6, h7⟩ := erB_true h
  obtain ⟨f1, f2⟩ := run_fits h
  unfold switchboardref11_Run.f
  have e1 := ref_apply a v (by omega) (by omega)
  rw [if_pos f1] at e1
  refine Ev.bind e1 ?_
  have e2 : Ev (fun k => switchboardref02_Relu.f k (applyTo a v a.length)) _ := ref_relu_l0 (applyTo a v a.length) (by rw [applyTo_length]; omega) _ 0 (by omega : 0 + (applyTo a v a.length).length = _)
  refine Ev.bind e2 ?_
  have e3 := ref_apply b (reluL (applyTo a v a.length)) (by omega) (by rw [reluL_length, applyTo_length]; omega)
  rw [if_pos f2] at e3
  exact Ev.bind e3 (Ev.now _)

theorem rdE_get {l : List S63} {t : Nat} (h : t < l.length) : rd_T63 l (t : Int) = l[t] := by
  unfold rd_T63
  rw [Int.toNat_natCast, List.getD_eq_getElem?_getD, List.getElem?_eq_getElem h]
  rfl
theorem rdY_get {l : List S61} {t : Nat} (h : t < l.length) : rd_T61 l (t : Int) = l[t] := by
  unfold rd_T61
  rw [Int.toNat_natCast, List.getD_eq_getElem?_getD, List.getElem?_eq_getElem h]
  rfl
theorem rdE_mem {l : List S63} {t : Nat} (h : t < l.length) : rd_T63 l (t : Int) ∈ l := by rw [rdE_get h]; exact List.getElem_mem h
theorem rdY_mem {l : List S61} {t : Nat} (h : t < l.length) : rd_T61 l (t : Int) ∈ l := by rw [rdY_get h]; exact List.getElem_mem h
/-- A model is short enough to be gone through. -/
def FewX (y : S63) : Prop := Few y.f0 ∧ Few y.f1
def FewY (x : S61) : Prop := x.f1.length ≤ 9 ∧ Few x.f0 ∧ ∀ y ∈ x.f1, FewX y
def FewM (l : List S61) : Prop := l.length ≤ 5 ∧ ∀ x ∈ l, FewY x
theorem msmall_l1 (l : List S61) (i : Nat) (hi : i < 5) (e : List S63) (he : e.length ≤ 9) (R : Prop) (hr : ∃ b : Bool, Ev (fun k => switchboardref15_Small.l0 k l (l.length : Int) ((i + 1 : Nat) : Int)) b ∧ (b = true → R)) : ∀ (d j : Nat), j + d = e.length →
    ∃ b : Bool, Ev (fun k => switchboardref15_Small.l1 k l (l.length : Int) (i : Int) e (e.length : Int) (j : Int)) b ∧ (b = true → R ∧ ∀ y ∈ e.drop j, FewX y) := by
  have hw1 : wrap64 ((i : Int) + 1) = ((i + 1 : Nat) : Int) := by rw [wrap_small (by omega) (by omega)]; omega
  intro d
  induction d with
  | zero =>
    intro j hj
    obtain ⟨b, hb, hq⟩ := hr
    refine ⟨b, ?_, fun h => ⟨hq h, fun y hy => ?_⟩⟩
    · refine ev_shift ?_
      simp only [switchboardref15_Small.l1, if_neg (show ¬ (j : Int) < (e.length : Int) by omega), hw1]
      exact hb
    · rw [List.drop_eq_nil_of_le (by omega)] at hy
      cases hy
  | succ d ih =>
    intro j hj
    have hw : wrap64 ((j : Int) + 1) = ((j + 1 : Nat) : Int) := by rw [wrap_small (by omega) (by omega)]; omega
    obtain ⟨b0, hb0, hq0⟩ := small_ev (rd_T63 e (j : Int)).f0
    obtain ⟨b1, hb1, hq1⟩ := small_ev (rd_T63 e (j : Int)).f1
    obtain ⟨b, hb, hq⟩ := ih (j + 1) (by omega)
    cases b0
    · refine ⟨false, ?_, fun h => by cases h⟩
      refine ev_shift ?_
      simp only [switchboardref15_Small.l1, if_pos (show (j : Int) < (e.length : Int) by omega), if_pos (show (0 : Int) ≤ (j : Int) by omega)]
      refine Ev.bind hb0 ?_
      simp only [if_neg (show ¬ (false = true) by decide)]
      exact Ev.now _
    · cases b1
      · refine ⟨false, ?_, fun h => by cases h⟩
        refine ev_shift ?_
        simp only [switchboardref15_Small.l1, if_pos (show (j : Int) < (e.length : Int) by omega), if_pos (show (0 : Int) ≤ (j : Int) by omega)]
        refine Ev.bind hb0 ?_
        simp only [if_true]
        refine Ev.bind hb1 ?_
        simp only [if_neg (show ¬ (false = true) by decide)]
        exact Ev.now _
      · refine ⟨b, ?_, fun h => ⟨(hq h).1, fun y hy => ?_⟩⟩
        · refine ev_shift ?_
          simp only [switchboardref15_Small.l1, if_pos (show (j : Int) < (e.length : Int) by omega), if_pos (show (0 : Int) ≤ (j : Int) by omega)]
          refine Ev.bind hb0 ?_
          simp only [if_true]
          refine Ev.bind hb1 ?_
          simp only [if_true, hw]
          exact hb
        · rw [List.drop_eq_getElem_cons (by omega), List.mem_cons] at hy
          rcases hy with rfl | hy
          · rw [rdE_get (by omega)] at hq0 hq1
            exact ⟨hq0 rfl, hq1 rfl⟩
          · exact (hq h).2 y hy
theorem msmall_l0 (l : List S61) (hl : l.length ≤ 5) : ∀ (d i : Nat), i + d = l.length →
    ∃ b : Bool, Ev (fun k => switchboardref15_Small.l0 k l (l.length : Int) (i : Int)) b ∧ (b = true → ∀ x ∈ l.drop i, FewY x) := by
  intro d
  induction d with
  | zero =>
    intro i hi
    refine ⟨true, ?_, fun _ x hx => ?_⟩
    · refine ev_shift ?_
      simp only [switchboardref15_Small.l0, if_neg (show ¬ (i : Int) < (l.length : Int) by omega)]
      exact Ev.now _
    · rw [List.drop_eq_nil_of_le (by omega)] at hx
      cases hx
  | succ d ih =>
    intro i hi
    have hj1 : Ev (fun k => switchboardref15_Small.j1 k l (l.length : Int) (i : Int) true (rd_T61 l (i : Int)).f0 (rd_T61 l (i : Int)).f1 (rd_T61 l (i : Int)).f2) false := by
      refine ev_shift ?_
      simp only [switchboardref15_Small.j1, if_true]
      exact Ev.now _
    by_cases h9 : ((rd_T61 l (i : Int)).f1.length : Int) > 9
    · refine ⟨false, ?_, fun h => by cases h⟩
      refine ev_shift ?_
      simp only [switchboardref15_Small.l0, if_pos (show (i : Int) < (l.length : Int) by omega), if_pos (show (0 : Int) ≤ (i : Int) by omega), if_pos h9]
      exact hj1
    · obtain ⟨b0, hb0, hq0⟩ := small_ev (rd_T61 l (i : Int)).f0
      cases b0
      · refine ⟨false, ?_, fun h => by cases h⟩
        refine ev_shift ?_
        simp only [switchboardref15_Small.l0, if_pos (show (i : Int) < (l.length : Int) by omega), if_pos (show (0 : Int) ≤ (i : Int) by omega), if_neg h9]
        refine Ev.bind hb0 ?_
        simp only [Bool.not_false]
        exact hj1
      · obtain ⟨b, hb, hq⟩ := msmall_l1 l i (by omega) (rd_T61 l (i : Int)).f1 (by omega) _ (ih (i + 1) (by omega)) (rd_T61 l (i : Int)).f1.length 0 (by omega)
        refine ⟨b, ?_, fun h x hx => ?_⟩
        · refine ev_shift ?_
          simp only [switchboardref15_Small.l0, if_pos (show (i : Int) < (l.length : Int) by omega), if_pos (show (0 : Int) ≤ (i : Int) by omega), if_neg h9]
          refine Ev.bind hb0 ?_
          simp only [Bool.not_true]
          refine ev_shift ?_
          simp only [switchboardref15_Small.j1, if_neg (show ¬ (false = true) by decide)]
          exact hb
        · rw [List.drop_eq_getElem_cons (by omega), List.mem_cons] at hx
          rcases hx with rfl | hx
          · rw [rdY_get (by omega)] at hq hq0 h9
            exact ⟨by omega, hq0 rfl, by simpa using (hq h).2⟩
          · exact (hq h).1 x hx
theorem msmall_ev (n : Int) (l : List S61) : ∃ b : Bool, Ev (fun k => switchboardref15_Small.f k n l) b ∧ (b = true → FewM l) := by
  by_cases h : (l.length : Int) > 5
  · refine ⟨false, ?_, fun h => by cases h⟩
    unfold switchboardref15_Small.f
    simp only [if_pos h]
    exact Ev.now _
  · obtain ⟨b, hb, hq⟩ := msmall_l0 l (by omega) l.length 0 (by omega)
    refine ⟨b, ?_, fun h2 => ⟨by omega, by simpa using hq h2⟩⟩
    unfold switchboardref15_Small.f
    simp only [if_neg h]
    exact hb
/-- Rows of a row: so many, of so many numbers, none past Top. -/
def RowsOk (m : List (List Int)) (a b : Int) : Prop := (m.length : Int) = a ∧ m.any (rowWrong b) = false
theorem rowsOk_mat {m : List (List Int)} {a b : Int} (h : RowsOk m a b) : matOk m a b = true := by
  unfold matOk
  rw [decide_eq_true h.1, h.2]
  rfl
def GoodX (n : Int) (y : S63) : Prop := 1 ≤ (y.f0.length : Int) ∧ (y.f0.length : Int) ≤ 8 ∧ RowsOk y.f0 (y.f0.length : Int) n ∧ RowsOk y.f1 n (y.f0.length : Int)
def GoodY (n : Int) (x : S61) : Prop := 1 ≤ (x.f1.length : Int) ∧ (x.f1.length : Int) ≤ 8 ∧ RowsOk x.f0 (x.f1.length : Int) n ∧ 1 ≤ x.f2 ∧ x.f2 ≤ 32 ∧ ∀ y ∈ x.f1, GoodX n y
def GoodM (n : Int) (l : List S61) : Prop := 1 ≤ n ∧ n ≤ 8 ∧ 1 ≤ (l.length : Int) ∧ (l.length : Int) ≤ 4 ∧ ∀ x ∈ l, GoodY n x
theorem ref_right_few (m : List (List Int)) (a b : Int) (hm : Few m) : ∃ t : Bool, Ev (fun k => switchboardref03_Right.f k m a b) t ∧ (t = true → RowsOk m a b) := by
  have hn := hm.1
  refine ⟨_, ref_right m a b (by omega) (fun r hr => by have := hm.2 r hr; omega), fun h => ?_⟩
  rw [Bool.and_eq_true] at h
  exact ⟨of_decide_eq_true h.1, by simpa using h.2⟩
theorem ref11_right (y : S63) (n : Int) (hy : FewX y) (h1 : 1 ≤ n) (h8 : n ≤ 8) : ∃ t : Bool, Ev (fun k => switchboardref11_Right.f k y.f0 y.f1 n) t ∧ (t = true → GoodX n y) := by
  have hj : ∃ t : Bool, Ev (fun k => switchboardref11_Right.j0 k n (y.f0.length : Int) false y.f0 y.f1) t ∧ (t = true → RowsOk y.f0 (y.f0.length : Int) n ∧ RowsOk y.f1 n (y.f0.length : Int)) := by
    obtain ⟨t0, h0, q0⟩ := ref_right_few y.f0 (y.f0.length : Int) n hy.1
    obtain ⟨t1, h1, q1⟩ := ref_right_few y.f1 n (y.f0.length : Int) hy.2
    cases t0
    · refine ⟨false, ?_, fun h => by cases h⟩
      refine ev_shift ?_
      simp only [switchboardref11_Right.j0, if_neg (show ¬ (false = true) by decide)]
      refine Ev.bind h0 ?_
      simp only [if_neg (show ¬ (false = true) by decide)]
      exact Ev.now _
    · refine ⟨t1, ?_, fun h => ⟨q0 rfl, q1 h⟩⟩
      refine ev_shift ?_
      simp only [switchboardref11_Right.j0, if_neg (show ¬ (false = true) by decide)]
      refine Ev.bind h0 ?_
      simp only [if_true]
      exact Ev.bind h1 (Ev.now _)
  have hno : Ev (fun k => switchboardref11_Right.j0 k n (y.f0.length : Int) true y.f0 y.f1) false := by
    refine ev_shift ?_
    simp only [switchboardref11_Right.j0, if_true]
    exact Ev.now _
  unfold switchboardref11_Right.f
  simp only [if_neg (show ¬ n < 1 by omega), if_neg (show ¬ n > 8 by omega)]
  by_cases h2 : (y.f0.length : Int) < 1
  · simp only [if_pos h2]
    exact ⟨false, hno, fun h => by cases h⟩
  · simp only [if_neg h2]
    by_cases h3 : (y.f0.length : Int) > 8
    · simp only [decide_eq_true h3]
      exact ⟨false, hno, fun h => by cases h⟩
    · simp only [decide_eq_false h3]
      obtain ⟨t, ht, q⟩ := hj
      exact ⟨t, ht, fun h => ⟨by omega, by omega, (q h).1, (q h).2⟩⟩
theorem mright_l1 (n : Int) (h1 : 1 ≤ n) (h8 : n ≤ 8) (l : List S61) (i : Nat) (hi : i < 5) (e : List S63) (he : e.length ≤ 9) (hf : ∀ y ∈ e, FewX y) (R : Prop) (hr : ∃ b : Bool, Ev (fun k => switchboardref15_Right.l0 k l (l.length : Int) ((i + 1 : Nat) : Int) n l) b ∧ (b = true → R)) : ∀ (d j : Nat), j + d = e.length →
    ∃ b : Bool, Ev (fun k => switchboardref15_Right.l1 k l (l.length : Int) (i : Int) e (e.length : Int) (j : Int) n l) b ∧ (b = true → R ∧ ∀ y ∈ e.drop j, GoodX n y) := by
  have hw1 : wrap64 ((i : Int) + 1) = ((i + 1 : Nat) : Int) := by rw [wrap_small (by omega) (by omega)]; omega
  intro d
  induction d with
  | zero =>
    intro j hj
    obtain ⟨b, hb, hq⟩ := hr
    refine ⟨b, ?_, fun h => ⟨hq h, fun y hy => ?_⟩⟩
    · refine ev_shift ?_
      simp only [switchboardref15_Right.l1, if_neg (show ¬ (j : Int) < (e.length : Int) by omega), hw1]
      exact hb
    · rw [List.drop_eq_nil_of_le (by omega)] at hy
      cases hy
  | succ d ih =>
    intro j hj
    have hw : wrap64 ((j : Int) + 1) = ((j + 1 : Nat) : Int) := by rw [wrap_small (by omega) (by omega)]; omega
    obtain ⟨b0, hb0, hq0⟩ := ref11_right (rd_T63 e (j : Int)) n (hf _ (rdE_mem (by omega))) h1 h8
    obtain ⟨b, hb, hq⟩ := ih (j + 1) (by omega)
    cases b0
    · refine ⟨false, ?_, fun h => by cases h⟩
      refine ev_shift ?_
      simp only [switchboardref15_Right.l1, if_pos (show (j : Int) < (e.length : Int) by omega), if_pos (show (0 : Int) ≤ (j : Int) by omega)]
      refine Ev.bind hb0 ?_
      simp only [if_neg (show ¬ (false = true) by decide)]
      exact Ev.now _
    · refine ⟨b, ?_, fun h => ⟨(hq h).1, fun y hy => ?_⟩⟩
      · refine ev_shift ?_
        simp only [switchboardref15_Right.l1, if_pos (show (j : Int) < (e.length : Int) by omega), if_pos (show (0 : Int) ≤ (j : Int) by omega)]
        refine Ev.bind hb0 ?_
        simp only [if_true, hw]
        exact hb
      · rw [List.drop_eq_getElem_cons (by omega), List.mem_cons] at hy
        rcases hy with rfl | hy
        · rw [rdE_get (by omega)] at hq0
          exact hq0 rfl
        · exact (hq h).2 y hy
theorem mright_l0 (n : Int) (h1 : 1 ≤ n) (h8 : n ≤ 8) (l : List S61) (hl : l.length ≤ 5) (hf : ∀ x ∈ l, FewY x) : ∀ (d i : Nat), i + d = l.length →
    ∃ b : Bool, Ev (fun k => switchboardref15_Right.l0 k l (l.length : Int) (i : Int) n l) b ∧ (b = true → ∀ x ∈ l.drop i, GoodY n x) := by
  intro d
  induction d with
  | zero =>
    intro i hi
    refine ⟨true, ?_, fun _ x hx => ?_⟩
    · refine ev_shift ?_
      simp only [switchboardref15_Right.l0, if_neg (show ¬ (i : Int) < (l.length : Int) by omega)]
      exact Ev.now _
    · rw [List.drop_eq_nil_of_le (by omega)] at hx
      cases hx
  | succ d ih =>
    intro i hi
    have hfi := hf _ (rdY_mem (l := l) (t := i) (by omega))
    have hj : Ev (fun k => switchboardref15_Right.j2 k l (l.length : Int) (i : Int) true n l (rd_T61 l (i : Int)).f0 (rd_T61 l (i : Int)).f1 (rd_T61 l (i : Int)).f2) false := by
      refine ev_shift ?_
      simp only [switchboardref15_Right.j2, if_true]
      exact Ev.now _
    have hs : ∀ {r : Bool}, Ev (fun k => if ((rd_T61 l (i : Int)).f1.length : Int) < 1 then switchboardref15_Right.j2 k l (l.length : Int) (i : Int) true n l (rd_T61 l (i : Int)).f0 (rd_T61 l (i : Int)).f1 (rd_T61 l (i : Int)).f2 else if ((rd_T61 l (i : Int)).f1.length : Int) > 8 then switchboardref15_Right.j2 k l (l.length : Int) (i : Int) true n l (rd_T61 l (i : Int)).f0 (rd_T61 l (i : Int)).f1 (rd_T61 l (i : Int)).f2 else (switchboardref03_Right.f k (rd_T61 l (i : Int)).f0 ((rd_T61 l (i : Int)).f1.length : Int) n).bind fun t245 => if t245 = true then (if (rd_T61 l (i : Int)).f2 < 1 then switchboardref15_Right.j2 k l (l.length : Int) (i : Int) true n l (rd_T61 l (i : Int)).f0 (rd_T61 l (i : Int)).f1 (rd_T61 l (i : Int)).f2 else switchboardref15_Right.j2 k l (l.length : Int) (i : Int) (decide ((rd_T61 l (i : Int)).f2 > 32)) n l (rd_T61 l (i : Int)).f0 (rd_T61 l (i : Int)).f1 (rd_T61 l (i : Int)).f2) else switchboardref15_Right.j2 k l (l.length : Int) (i : Int) true n l (rd_T61 l (i : Int)).f0 (rd_T61 l (i : Int)).f1 (rd_T61 l (i : Int)).f2) r →
        Ev (fun k => switchboardref15_Right.l0 k l (l.length : Int) (i : Int) n l) r := fun h => by
      refine ev_shift ?_
      simp only [switchboardref15_Right.l0, if_pos (show (i : Int) < (l.length : Int) by omega), if_pos (show (0 : Int) ≤ (i : Int) by omega)]
      exact h
    by_cases h2 : ((rd_T61 l (i : Int)).f1.length : Int) < 1
    · exact ⟨false, hs (by simp only [if_pos h2]; exact hj), fun h => by cases h⟩
    · by_cases h3 : ((rd_T61 l (i : Int)).f1.length : Int) > 8
      · exact ⟨false, hs (by simp only [if_neg h2, if_pos h3]; exact hj), fun h => by cases h⟩
      · obtain ⟨t, ht, q⟩ := ref_right_few (rd_T61 l (i : Int)).f0 ((rd_T61 l (i : Int)).f1.length : Int) n hfi.2.1
        cases t
        · refine ⟨false, hs ?_, fun h => by cases h⟩
          simp only [if_neg h2, if_neg h3]
          refine Ev.bind ht ?_
          simp only [if_neg (show ¬ (false = true) by decide)]
          exact hj
        · by_cases h4 : (rd_T61 l (i : Int)).f2 < 1
          · refine ⟨false, hs ?_, fun h => by cases h⟩
            simp only [if_neg h2, if_neg h3]
            refine Ev.bind ht ?_
            simp only [if_true, if_pos h4]
            exact hj
          · by_cases h5 : (rd_T61 l (i : Int)).f2 > 32
            · refine ⟨false, hs ?_, fun h => by cases h⟩
              simp only [if_neg h2, if_neg h3]
              refine Ev.bind ht ?_
              simp only [if_true, if_neg h4, decide_eq_true h5]
              exact hj
            · obtain ⟨b, hb, hq⟩ := mright_l1 n h1 h8 l i (by omega) (rd_T61 l (i : Int)).f1 hfi.1 hfi.2.2 _ (ih (i + 1) (by omega)) (rd_T61 l (i : Int)).f1.length 0 (by omega)
              refine ⟨b, hs ?_, fun h x hx => ?_⟩
              · simp only [if_neg h2, if_neg h3]
                refine Ev.bind ht ?_
                simp only [if_true, if_neg h4, decide_eq_false h5]
                refine ev_shift ?_
                simp only [switchboardref15_Right.j2, if_neg (show ¬ (false = true) by decide)]
                exact hb
              · rw [List.drop_eq_getElem_cons (by omega), List.mem_cons] at hx
                rcases hx with rfl | hx
                · rw [rdY_get (by omega)] at hq q h2 h3 h4 h5
                  exact ⟨by omega, by omega, q rfl, by omega, by omega, by simpa using (hq h).2⟩
                · exact (hq h).1 x hx
theorem mright_ev (n : Int) (l : List S61) (hf : FewM l) : ∃ b : Bool, Ev (fun k => switchboardref15_Right.f k n l) b ∧ (b = true → GoodM n l) := by
  have hno : Ev (fun k => switchboardref15_Right.j0 k true n l) false := by
    refine ev_shift ?_
    simp only [switchboardref15_Right.j0, if_true]
    exact Ev.now _
  have hl := hf.1
  unfold switchboardref15_Right.f
  by_cases h1 : n < 1
  · simp only [if_pos h1]; exact ⟨false, hno, fun h => by cases h⟩
  · by_cases h2 : n > 8
    · simp only [if_neg h1, if_pos h2]; exact ⟨false, hno, fun h => by cases h⟩
    · by_cases h3 : (l.length : Int) < 1
      · simp only [if_neg h1, if_neg h2, if_pos h3]; exact ⟨false, hno, fun h => by cases h⟩
      · by_cases h4 : (l.length : Int) > 4
        · simp only [if_neg h1, if_neg h2, if_neg h3, decide_eq_true h4]; exact ⟨false, hno, fun h => by cases h⟩
        · simp only [if_neg h1, if_neg h2, if_neg h3, decide_eq_false h4]
          obtain ⟨b, hb, hq⟩ := mright_l0 n (by omega) (by omega) l hl hf.2 l.length 0 (by omega)
          refine ⟨b, ?_, fun h => ⟨by omega, by omega, by omega, by omega, by simpa using hq h⟩⟩
          refine ev_shift ?_
          simp only [switchboardref15_Right.j0, if_neg (show ¬ (false = true) by decide)]
          exact hb
theorem rowsOk_matR {m : List (List Int)} {a b : Int} (h : RowsOk m a b) : matR m a b = true := by
  unfold matR
  rw [decide_eq_true h.1, h.2]
  rfl
theorem goodX_er {n : Int} {y : S63} (hn : 1 ≤ n ∧ n ≤ 8) (h : GoodX n y) : erB y.f0 y.f1 n = true := by
  unfold erB
  rw [rowsOk_matR h.2.2.1, rowsOk_matR h.2.2.2, decide_eq_true hn.1, decide_eq_true hn.2, decide_eq_true h.1, decide_eq_true h.2.1]
  rfl
theorem expOk_good {n : Int} {y : S63} (hn : 1 ≤ n ∧ n ≤ 8) (h : GoodX n y) : expBad n y = false := by
  unfold expBad expOk
  rw [right_f, goodX_er hn h]
  rfl
theorem modelOk_good {n : Int} {l : List S61} (h : GoodM n l) : modelOk n l = true := by
  obtain ⟨h1, h2, h3, h4, h5⟩ := h
  unfold modelOk
  rw [if_pos h1, if_pos h2, if_pos (by omega), if_pos (by omega)]
  have : l.any (layBad n) = false := by
    rw [List.any_eq_false]
    intro x hx
    obtain ⟨a1, a2, a3, a4, a5, a6⟩ := h5 x hx
    have hb : x.f1.any (expBad n) = false := by
      rw [List.any_eq_false]
      intro y hy
      rw [expOk_good ⟨h1, h2⟩ (a6 y hy)]
      decide
    unfold layBad layerOk
    rw [if_pos (by omega), if_pos (by omega), if_pos (rowsOk_mat a3), if_pos (by omega), if_pos (by omega), hb]
    decide
  rw [this]
  rfl
def inR (x : Int) : Bool := decide (0 ≤ x) && decide (x ≤ 2147483647)
def inV (x : Int) : Bool := decide (-2147483648 ≤ x) && decide (x ≤ 2147483647)
theorem inR_iff {x : Int} : inR x = true ↔ 0 ≤ x ∧ x ≤ 2147483647 := by
  unfold inR
  rw [Bool.and_eq_true, decide_eq_true_eq, decide_eq_true_eq]
theorem inV_iff {x : Int} : inV x = true ↔ -2147483648 ≤ x ∧ x ≤ 2147483647 := by
  unfold inV
  rw [Bool.and_eq_true, decide_eq_true_eq, decide_eq_true_eq]
theorem rd_at {v : List Int} {i : Nat} (h : i < v.length) : rd v (i : Int) = v[i] := by
  obtain ⟨_, e⟩ := rd_get (v := v) (i := (i : Int)) (by omega) (by omega)
  rw [e]
  simp
/-- Is a message's end right? -/
def tailB (a0 : Int) (v : List Int) : Bool := decide (1 ≤ a0) && (decide (a0 ≤ 4) && decide ((v.length : Int) ≤ 8))
def wireB (a0 a1 a2 a3 a4 a5 a6 a7 a8 a9 : Int) (v : List Int) : Bool := [a0, a1, a2, a3, a4, a5, a6, a7, a8, a9].all inR && (v.all inV && tailB a0 v)
theorem wire_l1 (v : List Int) (hv : v.length ≤ 1000) (a0 a1 a2 a3 a4 a5 a6 a7 a8 a9 : Int) : ∀ (d i : Nat), i + d = v.length →
    Ev (fun k => wire_Right.l1 k v (v.length : Int) (i : Int) a0 a1 a2 a3 a4 a5 a6 a7 a8 a9 v) ((v.drop i).all inV && tailB a0 v) := by
  intro d
  induction d with
  | zero =>
    intro i hi
    rw [List.drop_eq_nil_of_le (by omega), List.all_nil, Bool.true_and]
    refine ev_shift ?_
    simp only [wire_Right.l1, if_neg (show ¬ (i : Int) < (v.length : Int) by omega)]
    unfold tailB
    by_cases h1 : a0 ≥ 1
    · by_cases h2 : a0 ≤ 4
      · simp only [if_pos h1, if_pos h2, decide_eq_true (show 1 ≤ a0 by omega), decide_eq_true h2, Bool.true_and]
        exact Ev.now _
      · simp only [if_pos h1, if_neg h2, decide_eq_false h2, Bool.false_and, Bool.and_false]
        exact Ev.now _
    · simp only [if_neg h1, decide_eq_false (show ¬ 1 ≤ a0 by omega), Bool.false_and]
      exact Ev.now _
  | succ d ih =>
    intro i hi
    have hlt : i < v.length := by omega
    have hw : wrap64 ((i : Int) + 1) = ((i + 1 : Nat) : Int) := by rw [wrap_small (by omega) (by omega)]; omega
    rw [List.drop_eq_getElem_cons hlt, List.all_cons, ← rd_at hlt]
    refine ev_shift ?_
    simp only [wire_Right.l1, if_pos (show (i : Int) < (v.length : Int) by omega), if_pos (show (0 : Int) ≤ (i : Int) by omega), hw]
    by_cases h1 : rd v (i : Int) < -2147483648
    · have : inV (rd v (i : Int)) = false := Bool.eq_false_iff.mpr (fun hc => by have := inV_iff.1 hc; omega)
      simp only [if_pos h1, this, Bool.false_and]
      exact Ev.now _
    · by_cases h2 : rd v (i : Int) > 2147483647
      · have : inV (rd v (i : Int)) = false := Bool.eq_false_iff.mpr (fun hc => by have := inV_iff.1 hc; omega)
        simp only [if_neg h1, if_pos h2, this, Bool.false_and]
        exact Ev.now _
      · have : inV (rd v (i : Int)) = true := inV_iff.2 ⟨by omega, by omega⟩
        simp only [if_neg h1, if_neg h2, this, Bool.true_and]
        exact ih (i + 1) (by omega)
theorem wire_l0 (u v : List Int) (hu : u.length ≤ 1000) (hv : v.length ≤ 1000) (a0 a1 a2 a3 a4 a5 a6 a7 a8 a9 : Int) : ∀ (d i : Nat), i + d = u.length →
    Ev (fun k => wire_Right.l0 k u (u.length : Int) (i : Int) a0 a1 a2 a3 a4 a5 a6 a7 a8 a9 v) ((u.drop i).all inR && (v.all inV && tailB a0 v)) := by
  intro d
  induction d with
  | zero =>
    intro i hi
    rw [List.drop_eq_nil_of_le (by omega), List.all_nil, Bool.true_and]
    refine ev_shift ?_
    simp only [wire_Right.l0, if_neg (show ¬ (i : Int) < (u.length : Int) by omega)]
    exact wire_l1 v hv a0 a1 a2 a3 a4 a5 a6 a7 a8 a9 v.length 0 (by omega)
  | succ d ih =>
    intro i hi
    have hlt : i < u.length := by omega
    have hw : wrap64 ((i : Int) + 1) = ((i + 1 : Nat) : Int) := by rw [wrap_small (by omega) (by omega)]; omega
    rw [List.drop_eq_getElem_cons hlt, List.all_cons, ← rd_at hlt]
    refine ev_shift ?_
    simp only [wire_Right.l0, if_pos (show (i : Int) < (u.length : Int) by omega), if_pos (show (0 : Int) ≤ (i : Int) by omega), hw]
    by_cases h1 : rd u (i : Int) < 0
    · have : inR (rd u (i : Int)) = false := Bool.eq_false_iff.mpr (fun hc => by have := inR_iff.1 hc; omega)
      simp only [if_pos h1, this, Bool.false_and]
      exact Ev.now _
    · by_cases h2 : rd u (i : Int) > 2147483647
      · have : inR (rd u (i : Int)) = false := Bool.eq_false_iff.mpr (fun hc => by have := inR_iff.1 hc; omega)
        simp only [if_neg h1, if_pos h2, this, Bool.false_and]
        exact Ev.now _
      · have : inR (rd u (i : Int)) = true := inR_iff.2 ⟨by omega, by omega⟩
        simp only [if_neg h1, if_neg h2, this, Bool.true_and]
        exact ih (i + 1) (by omega)
theorem wire_ev (a0 a1 a2 a3 a4 a5 a6 a7 a8 a9 : Int) (v : List Int) (hv : v.length ≤ 1000) : Ev (fun k => wire_Right.f k a0 a1 a2 a3 a4 a5 a6 a7 a8 a9 v) (wireB a0 a1 a2 a3 a4 a5 a6 a7 a8 a9 v) := by
  unfold wire_Right.f wire_numbers.f
  simp only [Option.bind_some]
  exact wire_l0 [a0, a1, a2, a3, a4, a5, a6, a7, a8, a9] v (by simp) hv a0 a1 a2 a3 a4 a5 a6 a7 a8 a9 10 0 rfl
theorem wireB_true {a0 a1 a2 a3 a4 a5 a6 a7 a8 a9 : Int} {v : List Int} (h : wireB a0 a1 a2 a3 a4 a5 a6 a7 a8 a9 v = true) : 0 ≤ a5 ∧ 0 ≤ a8 := by
  unfold wireB at h
  rw [Bool.and_eq_true, List.all_eq_true] at h
  exact ⟨(inR_iff.1 (h.1 a5 (by simp))).1, (inR_iff.1 (h.1 a8 (by simp))).1⟩
/-- May a message be worked on? -/
def fitsB (pb : Bool) (n : Int) (l : List S61) (me a0 a1 a2 a3 a4 a5 a6 a7 a8 a9 : Int) (v : List Int) : Bool :=
  modelOk n l && (pb && (wireB a0 a1 a2 a3 a4 a5 a6 a7 a8 a9 v && (decide (a0 = 1) && (decide (a2 = me) && (decide (a5 < (l.length : Int)) && (decide (a8 < ((rd_T61 l a5).f1.length : Int)) && tokOk n [v]))))))
theorem fits_ev {pb : Bool} {e : Int} {H : List (List Int)} (hp : Ev (fun k => place_Right.f k e H) pb) (n : Int) (l : List S61) (me a0 a1 a2 a3 a4 a5 a6 a7 a8 a9 : Int) (v : List Int) (hv : v.length ≤ 1000) :
    Ev (fun k => node_fits.f k n l e H me a0 a1 a2 a3 a4 a5 a6 a7 a8 a9 v) (fitsB pb n l me a0 a1 a2 a3 a4 a5 a6 a7 a8 a9 v) := by
  have hw := wire_ev a0 a1 a2 a3 a4 a5 a6 a7 a8 a9 v hv
  have hwt := @wireB_true a0 a1 a2 a3 a4 a5 a6 a7 a8 a9 v
  unfold node_fits.f fitsB model_Right.f model_Tokens.f
  simp only [Option.bind_some]
  cases hm : modelOk n l
  · simp only [if_neg (show ¬ (false = true) by decide), Bool.false_and]
    exact Ev.now _
  · simp only [if_true, Bool.true_and]
    refine Ev.bind hp ?_
    cases pb
    · simp only [if_neg (show ¬ (false = true) by decide), Bool.false_and]
      exact Ev.now _
    · simp only [if_true, Bool.true_and]
      refine Ev.bind hw ?_
      cases hwb : wireB a0 a1 a2 a3 a4 a5 a6 a7 a8 a9 v
      · simp only [if_neg (show ¬ (false = true) by decide), Bool.false_and]
        exact Ev.now _
      · simp only [if_true, Bool.true_and]
        by_cases h1 : a0 = 1
        · by_cases h2 : a2 = me
          · by_cases h3 : a5 < (l.length : Int)
            · by_cases h4 : a8 < ((rd_T61 l a5).f1.length : Int)
              · simp only [if_pos h1, if_pos h2, if_pos h3, if_pos (hwt hwb).1, if_pos h4, decide_eq_true h1, decide_eq_true h2, decide_eq_true h3, decide_eq_true h4, Bool.true_and]
                exact Ev.now _
              · simp only [if_pos h1, if_pos h2, if_pos h3, if_pos (hwt hwb).1, if_neg h4, decide_eq_false h4, Bool.false_and, Bool.and_false]
                exact Ev.now _
            · simp only [if_pos h1, if_pos h2, if_neg h3, decide_eq_false h3, Bool.false_and, Bool.and_false]
              exact Ev.now _
          · simp only [if_pos h1, if_neg h2, decide_eq_false h2, Bool.false_and, Bool.and_false]
            exact Ev.now _
        · simp only [if_neg h1, decide_eq_false h1, Bool.false_and]
          exact Ev.now _
theorem fitsB_true {pb : Bool} {n : Int} {l : List S61} {me a0 a1 a2 a3 a4 a5 a6 a7 a8 a9 : Int} {v : List Int} (h : fitsB pb n l me a0 a1 a2 a3 a4 a5 a6 a7 a8 a9 v = true) :
    modelOk n l = true ∧ pb = true ∧ wireB a0 a1 a2 a3 a4 a5 a6 a7 a8 a9 v = true ∧ a0 = 1 ∧ a2 = me ∧ a5 < (l.length : Int) ∧ a8 < ((rd_T61 l a5).f1.length : Int) ∧ tokOk n [v] = true ∧ 0 ≤ a5 ∧ 0 ≤ a8 := by
  unfold fitsB at h
  simp only [Bool.and_eq_true, decide_eq_true_eq] at h
  obtain ⟨h1, h2, h3, h4, h5, h6, h7, h8⟩ := h
  exact ⟨h1, h2, h3, h4, h5, h6, h7, h8, wireB_true h3⟩
/-- What an expert of a node answers. -/
def answer (l : List S61) (a5 a8 : Int) (v : List Int) : List Int := if erB (rd_T63 (rd_T61 l a5).f1 a8).f0 (rd_T63 (rd_T61 l a5).f1 a8).f1 (v.length : Int) = true then runE (rd_T63 (rd_T61 l a5).f1 a8).f0 (rd_T63 (rd_T61 l a5).f1 a8).f1 v else []
section
variable {pb hb : Bool} {e : Int} {H : List (List Int)} {n : Int} {l : List S61} {me a0 a1 a2 a3 a4 a5 a6 a7 a8 a9 : Int} {v : List Int} {es : List S39}
theorem work_no (hf : Ev (fun k => node_fits.f k n l e H me a0 a1 a2 a3 a4 a5 a6 a7 a8 a9 v) false) :
    Ev (fun k => node_Work.f k n l e H me es a0 a1 a2 a3 a4 a5 a6 a7 a8 a9 v) (es, 0, 0, 0, 0, 0, 0, 0, 0, 0, 0, [], false) := by
  unfold node_Work.f
  refine Ev.bind hf ?_
  simp only [if_neg (show ¬ (false = true) by decide)]
  exact Ev.now _
theorem work_stale (hf : Ev (fun k => node_fits.f k n l e H me a0 a1 a2 a3 a4 a5 a6 a7 a8 a9 v) true) (hh : Ev (fun k => place_Holds.f k e H a8 me) hb) (hs : a9 ≠ e ∨ hb = false) :
    Ev (fun k => node_Work.f k n l e H me es a0 a1 a2 a3 a4 a5 a6 a7 a8 a9 v) (es, 3, me, a1, a3, a4, a5, a6, a7, a8, e, [], true) := by
  unfold node_Work.f
  refine Ev.bind hf ?_
  simp only [if_true]
  have hj : Ev (fun k => node_Work.j0 k es true n l a0 a1 a2 a3 a4 a5 a6 a7 a8 a9 v 3 me a1 a3 a4 a5 a6 a7 a8 e) (es, 3, me, a1, a3, a4, a5, a6, a7, a8, e, [], true) := by
    refine ev_shift ?_
    simp only [node_Work.j0, if_true]
    exact Ev.now _
  by_cases h9 : a9 = e
  · simp only [if_pos h9]
    refine Ev.bind hh ?_
    obtain rfl : hb = false := hs.resolve_left (fun hc => hc h9)
    exact hj
  · simp only [if_neg h9]
    exact hj
theorem work_found {x : List Int} (hf : Ev (fun k => node_fits.f k n l e H me a0 a1 a2 a3 a4 a5 a6 a7 a8 a9 v) true) (hh : Ev (fun k => place_Holds.f k e H a8 me) true) (h9 : a9 = e) (hx : ledger_Find.f es a4 a5 a6 a7 = some (x, true)) :
    Ev (fun k => node_Work.f k n l e H me es a0 a1 a2 a3 a4 a5 a6 a7 a8 a9 v) (es, 2, me, a1, a3, a4, a5, a6, a7, a8, e, x, true) := by
  unfold node_Work.f
  refine Ev.bind hf ?_
  simp only [if_true, if_pos h9]
  refine Ev.bind hh ?_
  refine ev_shift ?_
  simp only [node_Work.j0, Bool.not_true, if_neg (show ¬ (false = true) by decide), hx, Option.bind_some, if_true]
  exact Ev.now _
theorem work_new {es' : List S39} {b : Bool} (hf : Ev (fun k => node_fits.f k n l e H me a0 a1 a2 a3 a4 a5 a6 a7 a8 a9 v) true) (hh : Ev (fun k => place_Holds.f k e H a8 me) true) (h9 : a9 = e) (h5 : 0 ≤ a5) (h5' : a5 < (l.length : Int)) (h8 : 0 ≤ a8) (h8' : a8 < ((rd_T61 l a5).f1.length : Int))
    (hx : ledger_Find.f es a4 a5 a6 a7 = some ([], false)) (hen : ledger_Enter.f es a4 a5 a6 a7 (answer l a5 a8 v) = some (es', b)) :
    Ev (fun k => node_Work.f k n l e H me es a0 a1 a2 a3 a4 a5 a6 a7 a8 a9 v) (es', 2, me, a1, a3, a4, a5, a6, a7, a8, e, answer l a5 a8 v, true) := by
  have hr := run_ev (rd_T63 (rd_T61 l a5).f1 a8).f0 (rd_T63 (rd_T61 l a5).f1 a8).f1 v
  unfold node_Work.f
  refine Ev.bind hf ?_
  simp only [if_true, if_pos h9]
  refine Ev.bind hh ?_
  refine ev_shift ?_
  simp only [node_Work.j0, Bool.not_true, if_neg (show ¬ (false = true) by decide), hx, Option.bind_some, if_pos h5, if_pos h5', if_pos h8, if_pos h8']
  refine Ev.bind hr ?_
  have ea : (if erB (rd_T63 (rd_T61 l a5).f1 a8).f0 (rd_T63 (rd_T61 l a5).f1 a8).f1 (v.length : Int) = true then (runE (rd_T63 (rd_T61 l a5).f1 a8).f0 (rd_T63 (rd_T61 l a5).f1 a8).f1 v, true) else ([], false)).1 = answer l a5 a8 v := by
    unfold answer
    split <;> rfl
  rw [ea]
  simp only [hen, Option.bind_some]
  exact Ev.now _
end

theorem answer_len {l : List S61} {a5 a8 : Int} {v : List Int} : (answer l a5 a8 v).length ≤ 8 := by
  unfold answer
  split
  · rename_i h
    obtain ⟨_, h2, _, _, _, h6, _⟩ := erB_true h
    rw [runE_length]
    omega
  · simp
theorem same07_l0 (x : List Int) (hx : x.length ≤ 2000) : ∀ (d i : Nat), i + d = x.length → Ev (fun k => switchboardref07_Same.l0 k x x (i : Int)) true := by
  intro d
  induction d with
  | zero =>
    intro i hi
    refine ev_shift ?_
    simp only [switchboardref07_Same.l0, if_neg (show ¬ (i : Int) < (x.length : Int) by omega)]
    exact Ev.now _
  | succ d ih =>
    intro i hi
    have hw : wrap64 ((i : Int) + 1) = ((i + 1 : Nat) : Int) := by rw [wrap_small (by omega) (by omega)]; omega
    refine ev_shift ?_
    simp only [switchboardref07_Same.l0, if_pos (show (i : Int) < (x.length : Int) by omega), if_pos (show (0 : Int) ≤ (i : Int) by omega), if_true, hw]
    exact ih (i + 1) (by omega)
theorem same07 (a0 a1 a2 a3 a4 a5 a6 a7 a8 a9 : Int) {x : List Int} (hx : x.length ≤ 1000) : Ev (fun k => switchboardref07_Same.f k a0 a1 a2 a3 a4 a5 a6 a7 a8 a9 x a0 a1 a2 a3 a4 a5 a6 a7 a8 a9 x) true := by
  unfold switchboardref07_Same.f switchboardref07_List.f
  simp only [Option.bind_some, List.length_cons, List.length_nil, if_pos (show 0 + 1 + 1 + 1 + 1 + 1 + 1 + 1 + 1 + 1 + 1 + 1 + x.length < 17592186044416 by omega), if_true]
  exact same07_l0 _ (by simp; omega) _ 0 (Nat.zero_add _)

theorem idx_none {α : Type} (p : α → Bool) : ∀ (l : List α) (i : Nat), idxFrom34 p l i = -1 → ∀ x ∈ l, p x = false := by
  intro l
  induction l with
  | nil => intro _ _ x hx; cases hx
  | cons y r ih =>
    intro i h x hx
    by_cases hy : p y = true
    · simp only [idxFrom34, if_pos hy] at h
      omega
    · have hs : idxFrom34 p (y :: r) i = idxFrom34 p r (i + 1) := by simp only [idxFrom34]; rw [if_neg hy]
      rw [hs] at h
      rcases List.mem_cons.1 hx with rfl | hx
      · exact Bool.eq_false_iff.mpr hy
      · exact ih (i + 1) h x hx
theorem cloneI_fk {l : List Int} (h : l.length < 17592186044416) : slices_Clone_int_int.f l = some l := by
  unfold slices_Clone_int_int.f
  simp only [Option.bind_some, List.length_nil, Nat.zero_add, List.nil_append, if_pos h]
theorem rdEn_get {l : List S39} {i : Nat} (h : i < l.length) : rd_T39 l i = l[i] := by
  unfold rd_T39
  rw [Int.toNat_natCast, List.getD_eq_getElem?_getD, List.getElem?_eq_getElem h]
  rfl
theorem cloneE_f {l : List S39} (h : l.length < 2513169434916) : ledger_Entry_40.f l = some l := by
  unfold ledger_Entry_40.f
  simp only [Option.bind_some, List.length_nil, Nat.zero_add, List.nil_append, if_pos h]
/-- Is there an entry of a key? -/
def There (l : List S39) (a b c d : Int) : Prop := ∃ x ∈ l, keyB x a b c d = true
theorem find_not {l : List S39} {a b c d : Int} (h : ¬ There l a b c d) : ledger_Find.f l a b c d = some ([], false) := by
  have e : idxFrom34 (fun y => keyB y a b c d) l 0 = -1 := by
    rcases idxSpec18 (fun y => keyB y a b c d) l 0 with e | ⟨k, hk, e⟩
    · exact e
    · exfalso
      refine h ?_
      have gen : ∀ (l : List S39) (i k : Nat), idxFrom34 (fun y => keyB y a b c d) l i = (k : Int) → There l a b c d := by
        intro l
        induction l with
        | nil => intro i k e; simp only [idxFrom34] at e; omega
        | cons y r ih =>
          intro i k e
          by_cases hy : keyB y a b c d = true
          · exact ⟨y, List.mem_cons_self .., hy⟩
          · simp only [idxFrom34, if_neg hy] at e
            obtain ⟨x, hx, hp⟩ := ih (i + 1) k e
            exact ⟨x, List.mem_cons_of_mem _ hx, hp⟩
      exact gen l 0 _ e
  unfold ledger_Find.f
  rw [e, if_pos (by omega)]
theorem enter_not {l : List S39} {a b c d : Int} (h : ¬ There l a b c d) (hl : l.length ≤ 1000) {v : List Int} (hv : v.length ≤ 1000) : ledger_Enter.f l a b c d v = some (l ++ [(⟨(⟨a, b, c, d⟩ : S37), v⟩ : S39)], true) := by
  unfold ledger_Enter.f
  simp only [find_not h, Option.bind_some, if_neg (show ¬ (false = true) by decide), cloneE_f (show l.length < 2513169434916 by omega), cloneI_fk (show v.length < 17592186044416 by omega), if_pos (show l.length < 2513169434916 by omega)]

theorem tok_true {n : Int} {v : List Int} (h : tokOk n [v] = true) : (v.length : Int) = n := by
  unfold tokOk at h
  split at h
  · split at h
    · have h1 : rowWrong n v = false := by simpa using h
      unfold rowWrong at h1
      rw [Bool.or_eq_false_iff] at h1
      simpa using h1.1
    · cases h
  · cases h
theorem goodX_of {n : Int} {y : S63} (h : expBad n y = false) : GoodX n y := by
  have e : erB y.f0 y.f1 n = true := by
    unfold expBad expOk at h
    rw [right_f] at h
    simpa using h
  unfold erB matR at e
  simp only [Bool.and_eq_true, decide_eq_true_eq, Bool.not_eq_true'] at e
  obtain ⟨_, _, h3, h4, h5, h6⟩ := e
  exact ⟨h3, h4, ⟨rfl, h5.2⟩, h6⟩
theorem goodY_of {n : Int} {x : S61} (h : layBad n x = false) : GoodY n x := by
  have e : layerOk x.f0 x.f1 x.f2 n = true := by unfold layBad at h; simpa using h
  unfold layerOk at e
  by_cases h1 : (x.f1.length : Int) ≥ 1
  · rw [if_pos h1] at e
    by_cases h2 : (x.f1.length : Int) ≤ 8
    · rw [if_pos h2] at e
      by_cases h3 : matOk x.f0 (x.f1.length : Int) n = true
      · rw [if_pos h3] at e
        by_cases h4 : x.f2 ≥ 1
        · rw [if_pos h4] at e
          by_cases h5 : x.f2 ≤ 32
          · rw [if_pos h5] at e
            unfold matOk at h3
            rw [Bool.and_eq_true, decide_eq_true_eq, Bool.not_eq_true'] at h3
            rw [Bool.not_eq_true', List.any_eq_false] at e
            exact ⟨h1, h2, h3, h4, h5, fun y hy => goodX_of (by simpa using e y hy)⟩
          · rw [if_neg h5] at e; cases e
        · rw [if_neg h4] at e; cases e
      · rw [if_neg h3] at e; cases e
    · rw [if_neg h2] at e; cases e
  · rw [if_neg h1] at e; cases e
theorem goodM_of {n : Int} {l : List S61} (e : modelOk n l = true) : GoodM n l := by
  unfold modelOk at e
  by_cases h1 : n ≥ 1
  · rw [if_pos h1] at e
    by_cases h2 : n ≤ 8
    · rw [if_pos h2] at e
      by_cases h3 : (l.length : Int) ≥ 1
      · rw [if_pos h3] at e
        by_cases h4 : (l.length : Int) ≤ 4
        · rw [if_pos h4] at e
          rw [Bool.not_eq_true', List.any_eq_false] at e
          exact ⟨h1, h2, h3, h4, fun y hy => goodY_of (by simpa using e y hy)⟩
        · rw [if_neg h4] at e; cases e
      · rw [if_neg h3] at e; cases e
    · rw [if_neg h2] at e; cases e
  · rw [if_neg h1] at e; cases e
theorem ref_right_yes {m : List (List Int)} {a b : Int} (hm : Few m) (h : RowsOk m a b) : Ev (fun k => switchboardref03_Right.f k m a b) true := by
  have := ref_right m a b (by have := hm.1; omega) (fun r hr => by have := hm.2 r hr; omega)
  rw [decide_eq_true h.1, h.2] at this
  exact this
theorem ref11_yes {y : S63} {n : Int} (hy : FewX y) (hn : 1 ≤ n ∧ n ≤ 8) (h : GoodX n y) : Ev (fun k => switchboardref11_Right.f k y.f0 y.f1 n) true := by
  obtain ⟨h1, h2, h3, h4⟩ := h
  unfold switchboardref11_Right.f
  simp only [if_neg (show ¬ n < 1 by omega), if_neg (show ¬ n > 8 by omega), if_neg (show ¬ (y.f0.length : Int) < 1 by omega), decide_eq_false (show ¬ (y.f0.length : Int) > 8 by omega)]
  refine ev_shift ?_
  simp only [switchboardref11_Right.j0, if_neg (show ¬ (false = true) by decide)]
  refine Ev.bind (ref_right_yes hy.1 h3) ?_
  simp only [if_true]
  exact Ev.bind (ref_right_yes hy.2 h4) (Ev.now _)
theorem mright_yes_l1 {n : Int} (hn : 1 ≤ n ∧ n ≤ 8) (l : List S61) (i : Nat) (hi : i < 5) (e : List S63) (he : e.length ≤ 9) (hf : ∀ y ∈ e, FewX y) (hg : ∀ y ∈ e, GoodX n y) (hr : Ev (fun k => switchboardref15_Right.l0 k l (l.length : Int) ((i + 1 : Nat) : Int) n l) true) : ∀ (d j : Nat), j + d = e.length →
    Ev (fun k => switchboardref15_Right.l1 k l (l.length : Int) (i : Int) e (e.length : Int) (j : Int) n l) true := by
  have hw1 : wrap64 ((i : Int) + 1) = ((i + 1 : Nat) : Int) := by rw [wrap_small (by omega) (by omega)]; omega
  intro d
  induction d with
  | zero =>
    intro j hj
    refine ev_shift ?_
    simp only [switchboardref15_Right.l1, if_neg (show ¬ (j : Int) < (e.length : Int) by omega), hw1]
    exact hr
  | succ d ih =>
    intro j hj
    have hw : wrap64 ((j : Int) + 1) = ((j + 1 : Nat) : Int) := by rw [wrap_small (by omega) (by omega)]; omega
    refine ev_shift ?_
    simp only [switchboardref15_Right.l1, if_pos (show (j : Int) < (e.length : Int) by omega), if_pos (show (0 : Int) ≤ (j : Int) by omega)]
    refine Ev.bind (ref11_yes (hf _ (rdE_mem (by omega))) hn (hg _ (rdE_mem (by omega)))) ?_
    simp only [if_true, hw]
    exact ih (j + 1) (by omega)
theorem mright_yes_l0 {n : Int} (hn : 1 ≤ n ∧ n ≤ 8) (l : List S61) (hl : l.length ≤ 5) (hf : ∀ x ∈ l, FewY x) (hg : ∀ x ∈ l, GoodY n x) : ∀ (d i : Nat), i + d = l.length → Ev (fun k => switchboardref15_Right.l0 k l (l.length : Int) (i : Int) n l) true := by
  intro d
  induction d with
  | zero =>
    intro i hi
    refine ev_shift ?_
    simp only [switchboardref15_Right.l0, if_neg (show ¬ (i : Int) < (l.length : Int) by omega)]
    exact Ev.now _
  | succ d ih =>
    intro i hi
    obtain ⟨f1, f2, f3⟩ := hf _ (rdY_mem (l := l) (t := i) (by omega))
    obtain ⟨g1, g2, g3, g4, g5, g6⟩ := hg _ (rdY_mem (l := l) (t := i) (by omega))
    refine ev_shift ?_
    simp only [switchboardref15_Right.l0, if_pos (show (i : Int) < (l.length : Int) by omega), if_pos (show (0 : Int) ≤ (i : Int) by omega), if_neg (show ¬ ((rd_T61 l (i : Int)).f1.length : Int) < 1 by omega), if_neg (show ¬ ((rd_T61 l (i : Int)).f1.length : Int) > 8 by omega)]
    refine Ev.bind (ref_right_yes f2 g3) ?_
    simp only [if_true, if_neg (show ¬ (rd_T61 l (i : Int)).f2 < 1 by omega), decide_eq_false (show ¬ (rd_T61 l (i : Int)).f2 > 32 by omega)]
    refine ev_shift ?_
    simp only [switchboardref15_Right.j2, if_neg (show ¬ (false = true) by decide)]
    exact mright_yes_l1 hn l i (by omega) _ f1 f3 g6 (ih (i + 1) (by omega)) (rd_T61 l (i : Int)).f1.length 0 (Nat.zero_add _)
theorem mright_is (n : Int) (l : List S61) (hf : FewM l) : Ev (fun k => switchboardref15_Right.f k n l) (modelOk n l) := by
  obtain ⟨b, hb, hq⟩ := mright_ev n l hf
  cases b with
  | true => rw [modelOk_good (hq rfl)]; exact hb
  | false =>
    cases e : modelOk n l with
    | false => exact hb
    | true =>
      obtain ⟨h1, h2, h3, h4, h5⟩ := goodM_of e
      unfold switchboardref15_Right.f
      simp only [if_neg (show ¬ n < 1 by omega), if_neg (show ¬ n > 8 by omega), if_neg (show ¬ (l.length : Int) < 1 by omega), decide_eq_false (show ¬ (l.length : Int) > 4 by omega)]
      refine ev_shift ?_
      simp only [switchboardref15_Right.j0, if_neg (show ¬ (false = true) by decide)]
      exact mright_yes_l0 ⟨h1, h2⟩ l (by omega) hf.2 h5 l.length 0 (by omega)
theorem mtokens_is (n : Int) (l : List S61) (v : List (List Int)) (hf : Few v) : Ev (fun k => switchboardref15_Tokens.f k n l v) (tokOk n v) := by
  unfold switchboardref15_Tokens.f tokOk
  by_cases h1 : (v.length : Int) > 0
  · rw [if_pos (show (v.length : Int) ≥ 1 by omega)]
    by_cases h2 : (v.length : Int) < 17
    · rw [if_pos (show (v.length : Int) ≤ 16 by omega)]
      simp only [if_pos h1, if_pos h2]
      refine Ev.bind (ref_right v (v.length : Int) n (by have := hf.1; omega) (fun r hr => by have := hf.2 r hr; omega)) ?_
      rw [decide_eq_true rfl, Bool.true_and]
      exact Ev.now _
    · rw [if_neg (show ¬ (v.length : Int) ≤ 16 by omega)]
      simp only [if_pos h1, if_neg h2]
      exact Ev.now _
  · rw [if_neg (show ¬ (v.length : Int) ≥ 1 by omega)]
    simp only [if_neg h1]
    exact Ev.now _


end Go.Proofs.Ytabklpdjjoaocaa.Qy
