/- Own text, by hand: what the node's parts answer, as plain functions. -/
import Derived.Test.YtabklpdjjoaocaaQz0
import Derived.Test.YtabklpdjjoaocaaQz1
import Derived.Test.YtabklpdjjoaocaaQz2
import Derived.Test.YtabklpdjjoaocaaQz3
import Derived.Test.YtabklpdjjoaocaaQz4
import Derived.Test.YtabklpdjjoaocaaQz5
import Derived.Test.YtabklpdjjoaocaaQz6
import Derived.Test.YtabklpdjjoaocaaQz7
import Derived.Test.YtabklpdjjoaocaaQz8
namespace Go.Proofs.Ytabklpdjjoaocaa.Qz
open Go.RowKit Go.Proofs.YtabklpdjjoaocaaW.PrintWords Go.Proofs.YtabklpdjjoaocaaW.PrintLast Go.Proofs.YtabklpdjjoaocaaW.PrintMore
attribute [local go_sem] max2_int min2_int max_two min_two max_three min_three max_four min_four   -- for this text's walks alone
set_option linter.unusedVariables false
set_option linter.unusedSimpArgs false

theorem wrap_small {i : Int} (h0 : -9223372036854775808 ≤ i) (h1 : i < 9223372036854775808) : wrap64 i = i := by
  unfold wrap64
  omega

theorem ev_rounds {g : Nat → Option Bool} (h : Ev g true) : ∃ k, g k = some true := h.rounds
theorem ev_shift {α : Type} {g : Nat → Option α} {r : α} (h : Ev (fun k => g (k + 1)) r) : Ev g r := Ev.step (fun _ => rfl) h

theorem rd_get {v : List Int} {i : Int} (h0 : 0 ≤ i) (h1 : i < v.length) : ∃ h : i.toNat < v.length, rd v i = v[i.toNat]'h := by
  refine ⟨by omega, ?_⟩
  unfold rd
  rw [List.getD_eq_getElem?_getD, List.getElem?_eq_getElem (by omega)]
  rfl

theorem take_rd {v : List Int} {i : Nat} (h : i < v.length) : v.take i ++ [rd v i] = v.take (i + 1) := by
  obtain ⟨h', e⟩ := rd_get (v := v) (i := (i : Int)) (by omega) (by omega)
  rw [e]
  simp only [Int.toNat_natCast]
  rw [List.take_succ_eq_append_getElem h]

theorem rd_append_left {a b : List Int} {i : Int} (h0 : 0 ≤ i) (h1 : i < a.length) : rd (a ++ b) i = rd a i := by
  unfold rd
  rw [List.getD_eq_getElem?_getD, List.getD_eq_getElem?_getD, List.getElem?_append_left (by omega)]

theorem rd_append_right {a b : List Int} {i : Int} (h0 : 0 ≤ i) : rd (a ++ b) ((a.length : Int) + i) = rd b i := by
  unfold rd
  rw [List.getD_eq_getElem?_getD, List.getD_eq_getElem?_getD, List.getElem?_append_right (by omega)]
  congr 2
  omega

theorem rd_map {v : List Int} (f : Int → Int) {i : Int} (h0 : 0 ≤ i) (h1 : i < v.length) : rd (v.map f) i = f (rd v i) := by
  obtain ⟨h, e⟩ := rd_get h0 h1
  obtain ⟨h', e'⟩ := rd_get (v := v.map f) h0 (by simpa using h1)
  rw [e, e']
  simp

theorem rd_mem {v : List Int} {i : Int} (h0 : 0 ≤ i) (h1 : i < v.length) : rd v i ∈ v := by
  obtain ⟨h, e⟩ := rd_get h0 h1
  rw [e]
  exact List.getElem_mem h

theorem hold_range (x : Int) : -2147483647 ≤ hold x ∧ hold x ≤ 2147483647 := by
  unfold hold mx mn
  split <;> split <;> omega
theorem hold_id {x : Int} (h0 : -2147483647 ≤ x) (h1 : x ≤ 2147483647) : hold x = x := by
  unfold hold mx mn
  split <;> split <;> omega
theorem hold_hold (x : Int) : hold (hold x) = hold x := hold_id (hold_range x).1 (hold_range x).2
theorem hold_cases (x : Int) : hold x = if x > 2147483647 then 2147483647 else if x < -2147483647 then -2147483647 else x := by
  unfold hold mx mn
  split <;> split <;> split <;> first | omega | (split <;> omega)
theorem hold_zero : hold 0 = 0 := by decide

theorem prod_range {x y : Int} (hx : -2147483647 ≤ x ∧ x ≤ 2147483647) (hy : -2147483647 ≤ y ∧ y ≤ 2147483647) : -4611686014132420609 ≤ x * y ∧ x * y ≤ 4611686014132420609 := by
  have h1 : x.natAbs ≤ 2147483647 := by omega
  have h2 : y.natAbs ≤ 2147483647 := by omega
  have h3 : (x * y).natAbs ≤ 2147483647 * 2147483647 := by rw [Int.natAbs_mul]; exact Nat.mul_le_mul h1 h2
  omega
theorem mul_wrap (a b : Int) : wrap64 (hold a * hold b) = hold a * hold b := by
  have := prod_range (hold_range a) (hold_range b)
  exact wrap_small (by omega) (by omega)
theorem tdiv_range {p : Int} (h0 : -4611686014132420609 ≤ p) (h1 : p ≤ 4611686014132420609) : -70368744144896 ≤ p.tdiv 65536 ∧ p.tdiv 65536 ≤ 70368744144896 := by
  rcases Int.le_total 0 p with h | h
  · rw [Int.tdiv_eq_ediv_of_nonneg h]; omega
  · have e : p.tdiv 65536 = -((-p).tdiv 65536) := by rw [Int.neg_tdiv]; omega
    rw [e, Int.tdiv_eq_ediv_of_nonneg (by omega)]; omega
theorem mulI_eq (a b : Int) : mulI a b = hold ((hold a * hold b).tdiv 65536) := by
  unfold mulI
  have := prod_range (hold_range a) (hold_range b)
  have h2 := tdiv_range this.1 this.2
  rw [mul_wrap, wrap_small (by omega) (by omega)]
theorem addI_eq (a b : Int) : addI a b = hold (hold a + hold b) := by
  unfold addI
  have h1 := hold_range a
  have h2 := hold_range b
  rw [wrap_small (by omega) (by omega)]
theorem mulI_comm (a b : Int) : mulI a b = mulI b a := by rw [mulI_eq, mulI_eq, Int.mul_comm]
theorem addI_comm (a b : Int) : addI a b = addI b a := by rw [addI_eq, addI_eq, Int.add_comm]
theorem mulI_range (a b : Int) : -2147483647 ≤ mulI a b ∧ mulI a b ≤ 2147483647 := by rw [mulI_eq]; exact hold_range _
theorem addI_range (a b : Int) : -2147483647 ≤ addI a b ∧ addI a b ≤ 2147483647 := by rw [addI_eq]; exact hold_range _
theorem hold_mulI (a b : Int) : hold (mulI a b) = mulI a b := hold_id (mulI_range a b).1 (mulI_range a b).2
theorem hold_addI (a b : Int) : hold (addI a b) = addI a b := hold_id (addI_range a b).1 (addI_range a b).2
theorem mulI_zero (a : Int) : mulI a 0 = 0 := by rw [mulI_eq, hold_zero, Int.mul_zero]; rfl
theorem mulI_zero_left (a : Int) : mulI 0 a = 0 := by rw [mulI_comm, mulI_zero]
theorem addI_zero (a : Int) : addI a 0 = hold a := by rw [addI_eq, hold_zero, Int.add_zero, hold_hold]
theorem addI_zero_left (a : Int) : addI 0 a = hold a := by rw [addI_comm, addI_zero]
theorem mulI_one (a : Int) : mulI a 65536 = hold a := by
  rw [mulI_eq, hold_id (x := 65536) (by omega) (by omega), Int.mul_tdiv_cancel _ (by omega), hold_hold]
theorem mulI_hold_left (a b : Int) : mulI (hold a) b = mulI a b := by rw [mulI_eq, mulI_eq, hold_hold]
theorem mulI_hold_right (a b : Int) : mulI a (hold b) = mulI a b := by rw [mulI_eq, mulI_eq, hold_hold]
theorem mulI_self (a : Int) : 0 ≤ mulI a a := by
  rw [mulI_eq]
  have h : 0 ≤ hold a * hold a := by
    rcases Int.le_total 0 (hold a) with h | h
    · exact Int.mul_nonneg h h
    · rw [← Int.neg_mul_neg]; exact Int.mul_nonneg (by omega) (by omega)
  rw [Int.tdiv_eq_ediv_of_nonneg h, hold_cases]
  split
  · omega
  · split
    · omega
    · omega
theorem addF (a b : Int) : fix_Add.f a b = some (addI a b) := rfl
theorem mulF (a b : Int) : fix_Mul.f a b = some (mulI a b) := rfl
theorem holdF (a : Int) : fix_Hold.f a = some (hold a) := rfl

/-- The products of the first numbers, added. -/
def dotN (a b : List Int) : Nat → Int
  | 0 => 0
  | n + 1 => addI (dotN a b n) (mulI (rd a n) (rd b n))
theorem dotN_range (a b : List Int) (n : Nat) : -2147483647 ≤ dotN a b n ∧ dotN a b n ≤ 2147483647 := by
  cases n with
  | zero => simp [dotN]
  | succ n => exact addI_range _ _
theorem dotN_comm (a b : List Int) : ∀ n, dotN a b n = dotN b a n := by
  intro n
  induction n with
  | zero => rfl
  | succ n ih => simp only [dotN]; rw [ih, mulI_comm]
theorem dotN_congr {a b a' b' : List Int} : ∀ n : Nat, (∀ i : Nat, i < n → rd a i = rd a' i ∧ rd b i = rd b' i) → dotN a b n = dotN a' b' n := by
  intro n
  induction n with
  | zero => intro _; rfl
  | succ n ih =>
    intro h
    simp only [dotN]
    rw [ih (fun i hi => h i (by omega)), (h n (by omega)).1, (h n (by omega)).2]
theorem dot_l0 (a b : List Int) (hl : a.length = b.length) (hn : a.length ≤ 9223372036854775806) : ∀ (d i : Nat), i + d = a.length →
    Ev (fun k => vec_Dot.l0 k b (dotN a b i) a (a.length : Int) i) (dotN a b a.length, true) := by
  intro d
  induction d with
  | zero =>
    intro i hi
    have e : i = a.length := by omega
    subst e
    refine Ev.step (f := fun _ => some _) (fun k => ?_) (Ev.now _)
    simp only [vec_Dot.l0]
    rw [if_neg (by omega)]
  | succ d ih =>
    intro i hi
    have hw : wrap64 ((i : Int) + 1) = ((i + 1 : Nat) : Int) := by rw [wrap_small (by omega) (by omega)]; omega
    refine Ev.step (fun k => ?_) (ih (i + 1) (by omega))
    simp only [vec_Dot.l0, mulF, addF, Option.bind_some]
    rw [if_pos (by omega), if_pos (by omega), if_pos (by omega), if_pos (by omega), hw]
    rfl
theorem dot_ev (a b : List Int) (hl : a.length = b.length) (hn : a.length ≤ 9223372036854775806) : Ev (fun k => vec_Dot.f k a b) (dotN a b a.length, true) := by
  unfold vec_Dot.f
  simp only [if_pos (show (a.length : Int) = (b.length : Int) by omega)]
  exact dot_l0 a b hl hn a.length 0 (by omega)
theorem dot_no (a b : List Int) (hl : a.length ≠ b.length) : Ev (fun k => vec_Dot.f k a b) (0, false) := by
  unfold vec_Dot.f
  simp only [if_neg (show ¬ (a.length : Int) = (b.length : Int) by omega)]
  exact Ev.now _

theorem rd_ext {a b : List Int} (hl : a.length = b.length) (h : ∀ i : Nat, i < a.length → rd a i = rd b i) : a = b := by
  refine List.ext_getElem hl fun i h1 h2 => ?_
  obtain ⟨_, e⟩ := rd_get (v := a) (i := (i : Int)) (by omega) (by omega)
  obtain ⟨_, e'⟩ := rd_get (v := b) (i := (i : Int)) (by omega) (by omega)
  have := h i h1
  rw [e, e'] at this
  simpa using this

theorem rd_mapTo (F : Int → Int → Int) (l : List Int) {n i : Nat} (h : i < n) : rd (mapTo F l n) i = F (i : Int) (rd l (i : Int)) := by
  unfold rd mapTo
  rw [List.getD_eq_getElem?_getD, Int.toNat_natCast, List.getElem?_map, List.getElem?_range h]
  rfl
theorem mapTo_congr {F G : Int → Int → Int} {l m : List Int} {n : Nat} (h : ∀ i : Nat, i < n → F i (rd l i) = G i (rd m i)) : mapTo F l n = mapTo G m n := by
  unfold mapTo
  refine List.map_congr_left fun i hi => ?_
  exact h i (List.mem_range.1 hi)
theorem mapTo_eq {F : Int → Int → Int} {l m : List Int} (hl : l.length = m.length) (h : ∀ i : Nat, i < m.length → F i (rd l i) = rd m i) : mapTo F l l.length = m := by
  refine rd_ext (by rw [mapTo_length, hl]) fun i hi => ?_
  rw [mapTo_length] at hi
  rw [rd_mapTo F l hi]
  exact h i (by omega)

theorem relu_f {a : List Int} (hn : a.length < 17592186044416) : vec_Relu.f a = some (mapTo (fun _ x => mx (hold x) 0) a a.length) := by
  unfold vec_Relu.f
  rw [if_pos hn]
theorem relu_range (x : Int) : 0 ≤ mx (hold x) 0 ∧ mx (hold x) 0 ≤ 2147483647 := by
  have := hold_range x
  unfold mx
  split <;> omega

theorem rdL_get {m : List (List Int)} {i : Nat} (h : i < m.length) : rd_L1 m (i : Int) = m[i] := by
  unfold rd_L1
  rw [Int.toNat_natCast, List.getD_eq_getElem?_getD, List.getElem?_eq_getElem h]
  rfl
theorem rdL_mem {m : List (List Int)} {i : Nat} (h : i < m.length) : rd_L1 m (i : Int) ∈ m := by
  rw [rdL_get h]
  exact List.getElem_mem h
/-- Rows by a row, those in order from place i on; 'none': one is not as long. -/
def applyTo (m : List (List Int)) (v : List Int) : Nat → List Int
  | 0 => []
  | n + 1 => applyTo m v n ++ [dotN (rd_L1 m (n : Int)) v v.length]
theorem applyTo_length (m : List (List Int)) (v : List Int) : ∀ n, (applyTo m v n).length = n := by
  intro n
  induction n with
  | zero => rfl
  | succ n ih => simp only [applyTo, List.length_append, ih]; rfl
theorem rd_applyTo (m : List (List Int)) (v : List Int) {n i : Nat} (h : i < n) : rd (applyTo m v n) i = dotN (rd_L1 m (i : Int)) v v.length := by
  induction n with
  | zero => omega
  | succ n ih =>
    simp only [applyTo]
    by_cases e : i < n
    · rw [rd_append_left (by omega) (by rw [applyTo_length]; omega)]
      exact ih e
    · have e' : i = n := by omega
      subst e'
      have := rd_append_right (a := applyTo m v i) (b := [dotN (rd_L1 m (i : Int)) v v.length]) (i := 0) (by omega)
      rw [applyTo_length, Int.add_zero] at this
      rw [this]
      rfl
/-- Is each row as long as v? -/
def Fit (m : List (List Int)) (v : List Int) : Prop := ∀ r ∈ m, r.length = v.length
instance (m : List (List Int)) (v : List Int) : Decidable (Fit m v) := by unfold Fit; infer_instance
theorem apply_l0 (m : List (List Int)) (v : List Int) (hm : m.length < 17592186044416) (hv : v.length ≤ 9223372036854775806) (hf : Fit m v) : ∀ (d i : Nat), i + d = m.length →
    Ev (fun k => mat_Apply.l0 k v (applyTo m v i) m (m.length : Int) i) (applyTo m v m.length, true) := by
  intro d
  induction d with
  | zero =>
    intro i hi
    have e : i = m.length := by omega
    subst e
    refine ev_shift ?_
    simp only [mat_Apply.l0, if_neg (show ¬ (m.length : Int) < (m.length : Int) by omega)]
    exact Ev.now _
  | succ d ih =>
    intro i hi
    have hw : wrap64 ((i : Int) + 1) = ((i + 1 : Nat) : Int) := by rw [wrap_small (by omega) (by omega)]; omega
    have hr := hf _ (rdL_mem (m := m) (i := i) (by omega))
    refine ev_shift ?_
    simp only [mat_Apply.l0, if_pos (show (i : Int) < (m.length : Int) by omega), if_pos (show (0 : Int) ≤ (i : Int) by omega), hw]
    refine Ev.bind (dot_ev _ v hr (by omega)) ?_
    simp only [if_true, applyTo_length, if_pos (show i < 17592186044416 by omega), hr]
    exact ih (i + 1) (by omega)
theorem apply_yes (m : List (List Int)) (v : List Int) (hm : m.length < 17592186044416) (hv : v.length ≤ 9223372036854775806) (hf : Fit m v) : Ev (fun k => mat_Apply.f k m v) (applyTo m v m.length, true) :=
  apply_l0 m v hm hv hf m.length 0 (by omega)
theorem apply_l0_no (m : List (List Int)) (v : List Int) (hm : m.length < 17592186044416) (hv : v.length ≤ 9223372036854775806) (hl : ∀ r ∈ m, r.length ≤ 9223372036854775806) : ∀ (d i : Nat), i + d = m.length → (∃ j : Nat, i ≤ j ∧ j < m.length ∧ (rd_L1 m (j : Int)).length ≠ v.length) → ∀ o : List Int, o.length = i →
    Ev (fun k => mat_Apply.l0 k v o m (m.length : Int) i) ([], false) := by
  intro d
  induction d with
  | zero =>
    intro i hi ⟨j, h1, h2, _⟩
    omega
  | succ d ih =>
    intro i hi ⟨j, h1, h2, h3⟩ o ho
    have hw : wrap64 ((i : Int) + 1) = ((i + 1 : Nat) : Int) := by rw [wrap_small (by omega) (by omega)]; omega
    have hrl := hl _ (rdL_mem (m := m) (i := i) (by omega))
    refine ev_shift ?_
    simp only [mat_Apply.l0, if_pos (show (i : Int) < (m.length : Int) by omega), if_pos (show (0 : Int) ≤ (i : Int) by omega), hw]
    by_cases hr : (rd_L1 m (i : Int)).length = v.length
    · refine Ev.bind (dot_ev _ v hr (by omega)) ?_
      simp only [if_true, ho, if_pos (show i < 17592186044416 by omega)]
      refine ih (i + 1) (by omega) ⟨j, ?_, h2, h3⟩ _ (by rw [List.length_append, ho]; rfl)
      have : i ≠ j := by intro e; subst e; exact h3 hr
      omega
    · refine Ev.bind (dot_no _ v hr) ?_
      simp only [if_neg (show ¬ (false = true) by decide)]
      exact Ev.now _
theorem not_fit {m : List (List Int)} {v : List Int} (h : ¬ Fit m v) : ∃ j : Nat, j < m.length ∧ (rd_L1 m (j : Int)).length ≠ v.length := by
  refine Classical.byContradiction fun hc => h fun r hr => ?_
  obtain ⟨j, hj, rfl⟩ := List.getElem_of_mem hr
  refine Classical.byContradiction fun hne => hc ⟨j, hj, ?_⟩
  rw [rdL_get hj]
  exact hne
theorem apply_no (m : List (List Int)) (v : List Int) (hm : m.length < 17592186044416) (hv : v.length ≤ 9223372036854775806) (hl : ∀ r ∈ m, r.length ≤ 9223372036854775806) (hf : ¬ Fit m v) : Ev (fun k => mat_Apply.f k m v) ([], false) := by
  obtain ⟨j, h1, h2⟩ := not_fit hf
  exact apply_l0_no m v hm hv hl m.length 0 (by omega) ⟨j, by omega, h1, h2⟩ [] rfl
theorem apply_ev (m : List (List Int)) (v : List Int) (hm : m.length < 17592186044416) (hv : v.length ≤ 9223372036854775806) (hl : ∀ r ∈ m, r.length ≤ 9223372036854775806) :
    Ev (fun k => mat_Apply.f k m v) (if Fit m v then (applyTo m v m.length, true) else ([], false)) := by
  by_cases h : Fit m v
  · rw [if_pos h]; exact apply_yes m v hm hv h
  · rw [if_neg h]; exact apply_no m v hm hv hl h

theorem small_j1_false (m : List (List Int)) (i : Int) : Ev (fun k => switchboardref03_Small.j1 k m i false) (decide ((m.length : Int) ≤ 30)) := by
  refine ev_shift ?_
  simp only [switchboardref03_Small.j1, if_neg (show ¬ (false = true) by decide)]
  exact Ev.now _
/-- Rows are few, and short. -/
def Few (m : List (List Int)) : Prop := m.length ≤ 30 ∧ ∀ r ∈ m, r.length ≤ 30
theorem small_l0 (m : List (List Int)) : ∀ (d i : Nat), i + d = 30 → (∀ j : Nat, j < i → j < m.length → (rd_L1 m (j : Int)).length ≤ 30) →
    ∃ b : Bool, Ev (fun k => switchboardref03_Small.l0 k m i) b ∧ (b = true → Few m) := by
  intro d
  induction d with
  | zero =>
    intro i hi hq
    by_cases h : (i : Int) < (m.length : Int)
    · refine ⟨decide ((m.length : Int) ≤ 30), ?_, ?_⟩
      · refine ev_shift ?_
        simp only [switchboardref03_Small.l0, if_pos h, decide_eq_false (show ¬ (i : Int) < 30 by omega)]
        exact small_j1_false m i
      · intro hb
        have := of_decide_eq_true hb
        omega
    · refine ⟨decide ((m.length : Int) ≤ 30), ?_, ?_⟩
      · refine ev_shift ?_
        simp only [switchboardref03_Small.l0, if_neg h]
        exact small_j1_false m i
      · intro hb
        refine ⟨by omega, fun r hr => ?_⟩
        obtain ⟨j, hj, rfl⟩ := List.getElem_of_mem hr
        have := hq j (by omega) hj
        rwa [rdL_get hj] at this
  | succ d ih =>
    intro i hi hq
    have hw : wrap64 ((i : Int) + 1) = ((i + 1 : Nat) : Int) := by rw [wrap_small (by omega) (by omega)]; omega
    by_cases h : (i : Int) < (m.length : Int)
    · by_cases h2 : ((rd_L1 m (i : Int)).length : Int) > 30
      · refine ⟨false, ?_, fun hb => by cases hb⟩
        refine ev_shift ?_
        simp only [switchboardref03_Small.l0, if_pos h, decide_eq_true (show (i : Int) < 30 by omega)]
        refine ev_shift ?_
        simp only [switchboardref03_Small.j1, if_true, if_pos (show (0 : Int) ≤ (i : Int) by omega), if_pos h, if_pos h2]
        exact Ev.now _
      · obtain ⟨b, hb, hq2⟩ := ih (i + 1) (by omega) (fun j hj hl => by
          by_cases e : j < i
          · exact hq j e hl
          · have : j = i := by omega
            subst this
            omega)
        refine ⟨b, ?_, hq2⟩
        refine ev_shift ?_
        simp only [switchboardref03_Small.l0, if_pos h, decide_eq_true (show (i : Int) < 30 by omega)]
        refine ev_shift ?_
        simp only [switchboardref03_Small.j1, if_true, if_pos (show (0 : Int) ≤ (i : Int) by omega), if_pos h, if_neg h2, hw]
        exact hb
    · refine ⟨decide ((m.length : Int) ≤ 30), ?_, ?_⟩
      · refine ev_shift ?_
        simp only [switchboardref03_Small.l0, if_neg h]
        exact small_j1_false m i
      · intro hb
        refine ⟨of_decide_eq_true hb |> fun z => by omega, fun r hr => ?_⟩
        obtain ⟨j, hj, rfl⟩ := List.getElem_of_mem hr
        have := hq j (by omega) hj
        rwa [rdL_get hj] at this
theorem small_ev (m : List (List Int)) : ∃ b : Bool, Ev (fun k => switchboardref03_Small.f k m) b ∧ (b = true → Few m) :=
  small_l0 m 30 0 (by omega) (fun j hj => by omega)

theorem notHeld_eq (x : Int) : notHeld x = (decide (x > 2147483647) || decide (x < -2147483647)) := by
  unfold notHeld holdR mx mn
  rw [Bool.eq_iff_iff]
  simp only [decide_eq_true_eq, Bool.or_eq_true]
  split <;> split <;> omega

def matR (m : List (List Int)) (r c : Int) : Bool := decide ((m.length : Int) = r) && !(m.any (rowWrong c))
theorem matR_f (m : List (List Int)) (r c : Int) : mat_Right.f m r c = some (matR m r c) := rfl
theorem matR_true {m : List (List Int)} {r c : Int} (h : matR m r c = true) : (m.length : Int) = r ∧ ∀ x ∈ m, (x.length : Int) = c ∧ ∀ y ∈ x, -2147483647 ≤ y ∧ y ≤ 2147483647 := by
  unfold matR at h
  rw [Bool.and_eq_true, decide_eq_true_eq, Bool.not_eq_true', List.any_eq_false] at h
  refine ⟨h.1, fun x hx => ?_⟩
  have := h.2 x hx
  unfold rowWrong at this
  rw [Bool.or_eq_true, decide_eq_true_eq, List.any_eq_true] at this
  refine ⟨Classical.byContradiction fun hc => this (.inl hc), fun y hy => ?_⟩
  refine Classical.byContradiction fun hc => this (.inr ⟨y, hy, ?_⟩)
  rw [notHeld_eq, Bool.or_eq_true, decide_eq_true_eq, decide_eq_true_eq]
  omega
theorem matR_mk {m : List (List Int)} {r c : Int} (h1 : (m.length : Int) = r) (h2 : ∀ x ∈ m, (x.length : Int) = c ∧ ∀ y ∈ x, -2147483647 ≤ y ∧ y ≤ 2147483647) : matR m r c = true := by
  unfold matR
  rw [Bool.and_eq_true, decide_eq_true_eq, Bool.not_eq_true', List.any_eq_false]
  refine ⟨h1, fun x hx => ?_⟩
  obtain ⟨h3, h4⟩ := h2 x hx
  unfold rowWrong
  rw [Bool.or_eq_true, decide_eq_true_eq, List.any_eq_true]
  intro hc
  rcases hc with hc | ⟨y, hy, hc⟩
  · exact hc h3
  · have := h4 y hy
    rw [notHeld_eq, Bool.or_eq_true, decide_eq_true_eq, decide_eq_true_eq] at hc
    omega
/-- Is an expert right, for tokens of d numbers? -/
def erB (a b : List (List Int)) (d : Int) : Bool := decide (1 ≤ d) && (decide (d ≤ 8) && (decide (1 ≤ (a.length : Int)) && (decide ((a.length : Int) ≤ 8) && (matR a a.length d && matR b d a.length))))
theorem right_f (a b : List (List Int)) (d : Int) : expert_Right.f a b d = some (erB a b d) := by
  unfold expert_Right.f erB
  by_cases h1 : 1 ≤ d
  · rw [if_pos h1, decide_eq_true h1, Bool.true_and]
    by_cases h2 : d ≤ 8
    · rw [if_pos h2, decide_eq_true h2, Bool.true_and]
      by_cases h3 : 1 ≤ (a.length : Int)
      · rw [if_pos h3, decide_eq_true h3, Bool.true_and]
        by_cases h4 : (a.length : Int) ≤ 8
        · rw [if_pos h4, decide_eq_true h4, Bool.true_and, matR_f, matR_f]
          simp only [Option.bind_some]
          cases matR a a.length d
          · rfl
          · rfl
        · rw [if_neg h4, decide_eq_false h4, Bool.false_and]
      · rw [if_neg h3, decide_eq_false h3, Bool.false_and]
    · rw [if_neg h2, decide_eq_false h2, Bool.false_and]
  · rw [if_neg h1, decide_eq_false h1, Bool.false_and]
theorem erB_true {a b : List (List Int)} {d : Int} (h : erB a b d = true) : 1 ≤ d ∧ d ≤ 8 ∧ 1 ≤ a.length ∧ a.length ≤ 8 ∧ (∀ x ∈ a, (x.length : Int) = d ∧ ∀ y ∈ x, -2147483647 ≤ y ∧ y ≤ 2147483647) ∧ (b.length : Int) = d ∧ (∀ x ∈ b, x.length = a.length ∧ ∀ y ∈ x, -2147483647 ≤ y ∧ y ≤ 2147483647) := by
  unfold erB at h
  simp only [Bool.and_eq_true, decide_eq_true_eq] at h
  obtain ⟨h1, h2, h3, h4, h5, h6⟩ := h
  have h5 := matR_true h5
  have h6 := matR_true h6
  exact ⟨h1, h2, by omega, by omega, h5.2, h6.1, fun x hx => ⟨by have := (h6.2 x hx).1; omega, (h6.2 x hx).2⟩⟩
def reluL (l : List Int) : List Int := mapTo (fun _ x => mx (hold x) 0) l l.length
theorem reluL_length (l : List Int) : (reluL l).length = l.length := mapTo_length _ _ _
theorem reluL_f {l : List Int} (h : l.length < 17592186044416) : vec_Relu.f l = some (reluL l) := relu_f h
theorem rd_reluL (l : List Int) {i : Nat} (h : i < l.length) : rd (reluL l) i = mx (hold (rd l i)) 0 := rd_mapTo _ _ h
/-- What a right expert makes. -/
def runE (a b : List (List Int)) (v : List Int) : List Int := applyTo b (reluL (applyTo a v a.length)) b.length
theorem runE_length (a b : List (List Int)) (v : List Int) : (runE a b v).length = b.length := applyTo_length _ _ _
theorem run_fits {a b : List (List Int)} {v : List Int} (h : erB a b v.length = true) : Fit a v ∧ Fit b (reluL (applyTo a v a.length)) := by
  obtain ⟨_, _, _, _, h5, _, h7⟩ := erB_true h
  refine ⟨fun x hx => by have := (h5 x hx).1; omega, fun x hx => ?_⟩
  rw [reluL_length, applyTo_length]
  exact (h7 x hx).1
theorem run_yes {a b : List (List Int)} {v : List Int} (h : erB a b v.length = true) : Ev (fun k => expert_Run.f k a b v) (runE a b v, true) := by
  obtain ⟨h1, h2, h3, h4, h5, h6, h7⟩ := erB_true h
  obtain ⟨f1, f2⟩ := run_fits h
  unfold expert_Run.f
  simp only [right_f, h, Option.bind_some, if_true]
  refine Ev.bind (apply_yes a v (by omega) (by omega) f1) ?_
  simp only [reluL_f (show (applyTo a v a.length).length < 17592186044416 by rw [applyTo_length]; omega), Option.bind_some]
  exact Ev.bind (apply_yes b _ (by omega) (by rw [reluL_length, applyTo_length]; omega) f2) (Ev.now _)
theorem run_no {a b : List (List Int)} {v : List Int} (h : erB a b v.length = false) : Ev (fun k => expert_Run.f k a b v) ([], false) := by
  unfold expert_Run.f
  simp only [right_f, h, Option.bind_some, if_neg (show ¬ (false = true) by decide)]
  exact Ev.now _
theorem run_ev (a b : List (List Int)) (v : List Int) : Ev (fun k => expert_Run.f k a b v) (if erB a b v.length = true then (runE a b v, true) else ([], false)) := by
  by_cases h : erB a b v.length = true
  · rw [if_pos h]; exact run_yes h
  · rw [if_neg h]; exact run_no (Bool.eq_false_iff.mpr h)

theorem rdE_get {l : List S63} {t : Nat} (h : t < l.length) : rd_T63 l (t : Int) = l[t] := by
  unfold rd_T63
  rw [Int.toNat_natCast, List.getD_eq_getElem?_getD, List.getElem?_eq_getElem h]
  rfl
theorem rdY_get {l : List S61} {t : Nat} (h : t < l.length) : rd_T61 l (t : Int) = l[t] := by
  unfold rd_T61
  rw [Int.toNat_natCast, List.getD_eq_getElem?_getD, List.getElem?_eq_getElem h]
  rfl
theorem rdE_mem {l : List S63} {t : Nat} (h : t < l.length) : rd_T63 l (t : Int) ∈ l := by rw [rdE_get h]; exact List.getElem_mem h
theorem rdY_mem {l : List S61} {t : Nat} (h : t < l.length) : rd_T61 l (t : Int) ∈ l := by rw [rdY_get h]; exact List.getElem_mem h
/-- A model is short enough to be gone through. -/
def FewX (y : S63) : Prop := Few y.f0 ∧ Few y.f1
def FewY (x : S61) : Prop := x.f1.length ≤ 9 ∧ Few x.f0 ∧ ∀ y ∈ x.f1, FewX y
def FewM (l : List S61) : Prop := l.length ≤ 5 ∧ ∀ x ∈ l, FewY x
theorem msmall_l1 (l : List S61) (i : Nat) (hi : i < 5) (e : List S63) (he : e.length ≤ 9) (R : Prop) (hr : ∃ b : Bool, Ev (fun k => switchboardref15_Small.l0 k l (l.length : Int) ((i + 1 : Nat) : Int)) b ∧ (b = true → R)) : ∀ (d j : Nat), j + d = e.length →
    ∃ b : Bool, Ev (fun k => switchboardref15_Small.l1 k l (l.length : Int) (i : Int) e (e.length : Int) (j : Int)) b ∧ (b = true → R ∧ ∀ y ∈ e.drop j, FewX y) := by
  have hw1 : wrap64 ((i : Int) + 1) = ((i + 1 : Nat) : Int) := by rw [wrap_small (by omega) (by omega)]; omega
  intro d
  induction d with
  | zero =>
    intro j hj
    obtain ⟨b, hb, hq⟩ := hr
    refine ⟨b, ?_, fun h => ⟨hq h, fun y hy => ?_⟩⟩
    · refine ev_shift ?_
      simp only [switchboardref15_Small.l1, if_neg (show ¬ (j : Int) < (e.length : Int) by omega), hw1]
      exact hb
    · rw [List.drop_eq_nil_of_le (by omega)] at hy
      cases hy
  | succ d ih =>
    intro j hj
    have hw : wrap64 ((j : Int) + 1) = ((j + 1 : Nat) : Int) := by rw [wrap_small (by omega) (by omega)]; omega
    obtain ⟨b0, hb0, hq0⟩ := small_ev (rd_T63 e (j : Int)).f0
    obtain ⟨b1, hb1, hq1⟩ := small_ev (rd_T63 e (j : Int)).f1
    obtain ⟨b, hb, hq⟩ := ih (j + 1) (by omega)
    cases b0
    · refine ⟨false, ?_, fun h => by cases h⟩
      refine ev_shift ?_
      simp only [switchboardref15_Small.l1, if_pos (show (j : Int) < (e.length : Int) by omega), if_pos (show (0 : Int) ≤ (j : Int) by omega)]
      refine Ev.bind hb0 ?_
      simp only [if_neg (show ¬ (false = true) by decide)]
      exact Ev.now _
    · cases b1
      · refine ⟨false, ?_, fun h => by cases h⟩
        refine ev_shift ?_
        simp only [switchboardref15_Small.l1, if_pos (show (j : Int) < (e.length : Int) by omega), if_pos (show (0 : Int) ≤ (j : Int) by omega)]
        refine Ev.bind hb0 ?_
        simp only [if_true]
        refine Ev.bind hb1 ?_
        simp only [if_neg (show ¬ (false = true) by decide)]
        exact Ev.now _
      · refine ⟨b, ?_, fun h => ⟨(hq h).1, fun y hy => ?_⟩⟩
        · refine ev_shift ?_
          simp only [switchboardref15_Small.l1, if_pos (show (j : Int) < (e.length : Int) by omega), if_pos (show (0 : Int) ≤ (j : Int) by omega)]
          refine Ev.bind hb0 ?_
          simp only [if_true]
          refine Ev.bind hb1 ?_
          simp only [if_true, hw]
          exact hb
        · rw [List.drop_eq_getElem_cons (by omega), List.mem_cons] at hy
          rcases hy with rfl | hy
          · rw [rdE_get (by omega)] at hq0 hq1
            exact ⟨hq0 rfl, hq1 rfl⟩
          · exact (hq h).2 y hy
theorem msmall_l0 (l : List S61) (hl : l.length ≤ 5) : ∀ (d i : Nat), i + d = l.length →
    ∃ b : Bool, Ev (fun k => switchboardref15_Small.l0 k l (l.length : Int) (i : Int)) b ∧ (b = true → ∀ x ∈ l.drop i, FewY x) := by
  intro d
  induction d with
  | zero =>
    intro i hi
    refine ⟨true, ?_, fun _ x hx => ?_⟩
    · refine ev_shift ?_
      simp only [switchboardref15_Small.l0, if_neg (show ¬ (i : Int) < (l.length : Int) by omega)]
      exact Ev.now _
    · rw [List.drop_eq_nil_of_le (by omega)] at hx
      cases hx
  | succ d ih =>
    intro i hi
    have hj1 : Ev (fun k => switchboardref15_Small.j1 k l (l.length : Int) (i : Int) true (rd_T61 l (i : Int)).f0 (rd_T61 l (i : Int)).f1 (rd_T61 l (i : Int)).f2) false := by
      refine ev_shift ?_
      simp only [switchboardref15_Small.j1, if_true]
      exact Ev.now _
    by_cases h9 : ((rd_T61 l (i : Int)).f1.length : Int) > 9
    · refine ⟨false, ?_, fun h => by cases h⟩
      refine ev_shift ?_
      simp only [switchboardref15_Small.l0, if_pos (show (i : Int) < (l.length : Int) by omega), if_pos (show (0 : Int) ≤ (i : Int) by omega), if_pos h9]
      exact hj1
    · obtain ⟨b0, hb0, hq0⟩ := small_ev (rd_T61 l (i : Int)).f0
      cases b0
      · refine ⟨false, ?_, fun h => by cases h⟩
        refine ev_shift ?_
        simp only [switchboardref15_Small.l0, if_pos (show (i : Int) < (l.length : Int) by omega), if_pos (show (0 : Int) ≤ (i : Int) by omega), if_neg h9]
        refine Ev.bind hb0 ?_
        simp only [Bool.not_false]
        exact hj1
      · obtain ⟨b, hb, hq⟩ := msmall_l1 l i (by omega) (rd_T61 l (i : Int)).f1 (by omega) _ (ih (i + 1) (by omega)) (rd_T61 l (i : Int)).f1.length 0 (by omega)
        refine ⟨b, ?_, fun h x hx => ?_⟩
        · refine ev_shift ?_
          simp only [switchboardref15_Small.l0, if_pos (show (i : Int) < (l.length : Int) by omega), if_pos (show (0 : Int) ≤ (i : Int) by omega), if_neg h9]
          refine Ev.bind hb0 ?_
          simp only [Bool.not_true]
          refine ev_shift ?_
          simp only [switchboardref15_Small.j1, if_neg (show ¬ (false = true) by decide)]
          exact hb
        · rw [List.drop_eq_getElem_cons (by omega), List.mem_cons] at hx
          rcases hx with rfl | hx
          · rw [rdY_get (by omega)] at hq hq0 h9
            exact ⟨by omega, hq0 rfl, by simpa using (hq h).2⟩
          · exact (hq h).1 x hx
theorem msmall_ev (n : Int) (l : List S61) : ∃ b : Bool, Ev (fun k => switchboardref15_Small.f k n l) b ∧ (b = true → FewM l) := by
  by_cases h : (l.length : Int) > 5
  · refine ⟨false, ?_, fun h => by cases h⟩
    unfold switchboardref15_Small.f
    simp only [if_pos h]
    exact Ev.now _
  · obtain ⟨b, hb, hq⟩ := msmall_l0 l (by omega) l.length 0 (by omega)
    refine ⟨b, ?_, fun h2 => ⟨by omega, by simpa using hq h2⟩⟩
    unfold switchboardref15_Small.f
    simp only [if_neg h]
    exact hb

def inR (x : Int) : Bool := decide (0 ≤ x) && decide (x ≤ 2147483647)
def inV (x : Int) : Bool := decide (-2147483648 ≤ x) && decide (x ≤ 2147483647)
theorem inR_iff {x : Int} : inR x = true ↔ 0 ≤ x ∧ x ≤ 2147483647 := by
  unfold inR
  rw [Bool.and_eq_true, decide_eq_true_eq, decide_eq_true_eq]
theorem inV_iff {x : Int} : inV x = true ↔ -2147483648 ≤ x ∧ x ≤ 2147483647 := by
  unfold inV
  rw [Bool.and_eq_true, decide_eq_true_eq, decide_eq_true_eq]
theorem rd_at {v : List Int} {i : Nat} (h : i < v.length) : rd v (i : Int) = v[i] := by
  obtain ⟨_, e⟩ := rd_get (v := v) (i := (i : Int)) (by omega) (by omega)
  rw [e]
  simp
/-- Is a message's end right? -/
def tailB (a0 : Int) (v : List Int) : Bool := decide (1 ≤ a0) && (decide (a0 ≤ 4) && decide ((v.length : Int) ≤ 8))
def wireB (a0 a1 a2 a3 a4 a5 a6 a7 a8 a9 : Int) (v : List Int) : Bool := [a0, a1, a2, a3, a4, a5, a6, a7, a8, a9].all inR && (v.all inV && tailB a0 v)
theorem wire_l1 (v : List Int) (hv : v.length ≤ 1000) (a0 a1 a2 a3 a4 a5 a6 a7 a8 a9 : Int) : ∀ (d i : Nat), i + d = v.length →
    Ev (fun k => wire_Right.l1 k v (v.length : Int) (i : Int) a0 a1 a2 a3 a4 a5 a6 a7 a8 a9 v) ((v.drop i).all inV && tailB a0 v) := by
  intro d
  induction d with
  | zero =>
    intro i hi
    rw [List.drop_eq_nil_of_le (by omega), List.all_nil, Bool.true_and]
    refine ev_shift ?_
    simp only [wire_Right.l1, if_neg (show ¬ (i : Int) < (v.length : Int) by omega)]
    unfold tailB
    by_cases h1 : a0 ≥ 1
    · by_cases h2 : a0 ≤ 4
      · simp only [if_pos h1, if_pos h2, decide_eq_true (show 1 ≤ a0 by omega), decide_eq_true h2, Bool.true_and]
        exact Ev.now _
      · simp only [if_pos h1, if_neg h2, decide_eq_false h2, Bool.false_and, Bool.and_false]
        exact Ev.now _
    · simp only [if_neg h1, decide_eq_false (show ¬ 1 ≤ a0 by omega), Bool.false_and]
      exact Ev.now _
  | succ d ih =>
    intro i hi
    have hlt : i < v.length := by omega
    have hw : wrap64 ((i : Int) + 1) = ((i + 1 : Nat) : Int) := by rw [wrap_small (by omega) (by omega)]; omega
    rw [List.drop_eq_getElem_cons hlt, List.all_cons, ← rd_at hlt]
    refine ev_shift ?_
    simp only [wire_Right.l1, if_pos (show (i : Int) < (v.length : Int) by omega), if_pos (show (0 : Int) ≤ (i : Int) by omega), hw]
    by_cases h1 : rd v (i : Int) < -2147483648
    · have : inV (rd v (i : Int)) = false := Bool.eq_false_iff.mpr (fun hc => by have := inV_iff.1 hc; omega)
      simp only [if_pos h1, this, Bool.false_and]
      exact Ev.now _
    · by_cases h2 : rd v (i : Int) > 2147483647
      · have : inV (rd v (i : Int)) = false := Bool.eq_false_iff.mpr (fun hc => by have := inV_iff.1 hc; omega)
        simp only [if_neg h1, if_pos h2, this, Bool.false_and]
        exact Ev.now _
      · have : inV (rd v (i : Int)) = true := inV_iff.2 ⟨by omega, by omega⟩
        simp only [if_neg h1, if_neg h2, this, Bool.true_and]
        exact ih (i + 1) (by omega)
theorem wire_l0 (u v : List Int) (hu : u.length ≤ 1000) (hv : v.length ≤ 1000) (a0 a1 a2 a3 a4 a5 a6 a7 a8 a9 : Int) : ∀ (d i : Nat), i + d = u.length →
    Ev (fun k => wire_Right.l0 k u (u.length : Int) (i : Int) a0 a1 a2 a3 a4 a5 a6 a7 a8 a9 v) ((u.drop i).all inR && (v.all inV && tailB a0 v)) := by
  intro d
  induction d with
  | zero =>
    intro i hi
    rw [List.drop_eq_nil_of_le (by omega), List.all_nil, Bool.true_and]
    refine ev_shift ?_
    simp only [wire_Right.l0, if_neg (show ¬ (i : Int) < (u.length : Int) by omega)]
    exact wire_l1 v hv a0 a1 a2 a3 a4 a5 a6 a7 a8 a9 v.length 0 (by omega)
  | succ d ih =>
    intro i hi
    have hlt : i < u.length := by omega
    have hw : wrap64 ((i : Int) + 1) = ((i + 1 : Nat) : Int) := by rw [wrap_small (by omega) (by omega)]; omega
    rw [List.drop_eq_getElem_cons hlt, List.all_cons, ← rd_at hlt]
    refine ev_shift ?_
    simp only [wire_Right.l0, if_pos (show (i : Int) < (u.length : Int) by omega), if_pos (show (0 : Int) ≤ (i : Int) by omega), hw]
    by_cases h1 : rd u (i : Int) < 0
    · have : inR (rd u (i : Int)) = false := Bool.eq_false_iff.mpr (fun hc => by have := inR_iff.1 hc; omega)
      simp only [if_pos h1, this, Bool.false_and]
      exact Ev.now _
    · by_cases h2 : rd u (i : Int) > 2147483647
      · have : inR (rd u (i : Int)) = false := Bool.eq_false_iff.mpr (fun hc => by have := inR_iff.1 hc; omega)
        simp only [if_neg h1, if_pos h2, this, Bool.false_and]
        exact Ev.now _
      · have : inR (rd u (i : Int)) = true := inR_iff.2 ⟨by omega, by omega⟩
        simp only [if_neg h1, if_neg h2, this, Bool.true_and]
        exact ih (i + 1) (by omega)
theorem wire_ev (a0 a1 a2 a3 a4 a5 a6 a7 a8 a9 : Int) (v : List Int) (hv : v.length ≤ 1000) : Ev (fun k => wire_Right.f k a0 a1 a2 a3 a4 a5 a6 a7 a8 a9 v) (wireB a0 a1 a2 a3 a4 a5 a6 a7 a8 a9 v) := by
  unfold wire_Right.f wire_numbers.f
  simp only [Option.bind_some]
  exact wire_l0 [a0, a1, a2, a3, a4, a5, a6, a7, a8, a9] v (by simp) hv a0 a1 a2 a3 a4 a5 a6 a7 a8 a9 10 0 rfl
theorem wireB_true {a0 a1 a2 a3 a4 a5 a6 a7 a8 a9 : Int} {v : List Int} (h : wireB a0 a1 a2 a3 a4 a5 a6 a7 a8 a9 v = true) : 0 ≤ a5 ∧ 0 ≤ a8 := by
  unfold wireB at h
  rw [Bool.and_eq_true, List.all_eq_true] at h
  exact ⟨(inR_iff.1 (h.1 a5 (by simp))).1, (inR_iff.1 (h.1 a8 (by simp))).1⟩
theorem place_l1 (H : List (List Int)) (e : Int) (i : Nat) (hi : i < H.length) (hH : H.length ≤ 1000) (x : List Int) (hx : x.length ≤ 1000) (hr : ∃ b, Ev (fun k => place_Right.l0 k H (H.length : Int) ((i + 1 : Nat) : Int) e H) b) : ∀ (d j : Nat) (last : Int), j + d = x.length →
    ∃ b, Ev (fun k => place_Right.l1 k x last H (H.length : Int) (i : Int) x (x.length : Int) (j : Int) e H) b := by
  have hwi : wrap64 ((i : Int) + 1) = ((i + 1 : Nat) : Int) := by rw [wrap_small (by omega) (by omega)]; omega
  intro d
  induction d with
  | zero =>
    intro j last hj
    by_cases h0 : (x.length : Int) = 0
    · refine ⟨false, ?_⟩
      refine ev_shift ?_
      simp only [place_Right.l1, if_neg (show ¬ (j : Int) < (x.length : Int) by omega), if_pos h0]
      exact Ev.now _
    · obtain ⟨b, hb⟩ := hr
      refine ⟨b, ?_⟩
      refine ev_shift ?_
      simp only [place_Right.l1, if_neg (show ¬ (j : Int) < (x.length : Int) by omega), if_neg h0, hwi]
      exact hb
  | succ d ih =>
    intro j last hj
    have hw : wrap64 ((j : Int) + 1) = ((j + 1 : Nat) : Int) := by rw [wrap_small (by omega) (by omega)]; omega
    by_cases h1 : rd x (j : Int) ≤ last
    · refine ⟨false, ?_⟩
      refine ev_shift ?_
      simp only [place_Right.l1, if_pos (show (j : Int) < (x.length : Int) by omega), if_pos (show (0 : Int) ≤ (j : Int) by omega), if_pos h1]
      exact Ev.now _
    · by_cases h2 : rd x (j : Int) > 4
      · refine ⟨false, ?_⟩
        refine ev_shift ?_
        simp only [place_Right.l1, if_pos (show (j : Int) < (x.length : Int) by omega), if_pos (show (0 : Int) ≤ (j : Int) by omega), if_neg h1, if_pos h2]
        exact Ev.now _
      · obtain ⟨b, hb⟩ := ih (j + 1) (rd x (j : Int)) (by omega)
        refine ⟨b, ?_⟩
        refine ev_shift ?_
        simp only [place_Right.l1, if_pos (show (j : Int) < (x.length : Int) by omega), if_pos (show (0 : Int) ≤ (j : Int) by omega), if_neg h1, if_neg h2, hw]
        exact hb
theorem place_l0 (H : List (List Int)) (e : Int) (hH : H.length ≤ 1000) (hx : ∀ x ∈ H, x.length ≤ 1000) : ∀ (d i : Nat), i + d = H.length → ∃ b, Ev (fun k => place_Right.l0 k H (H.length : Int) (i : Int) e H) b := by
  intro d
  induction d with
  | zero =>
    intro i hi
    by_cases h1 : e ≥ 0
    · by_cases h2 : e ≤ 2147483647
      · refine ⟨decide ((H.length : Int) ≤ 8), ev_shift ?_⟩
        simp only [place_Right.l0, if_neg (show ¬ (i : Int) < (H.length : Int) by omega), if_pos h1, if_pos h2]
        exact Ev.now _
      · refine ⟨false, ev_shift ?_⟩
        simp only [place_Right.l0, if_neg (show ¬ (i : Int) < (H.length : Int) by omega), if_pos h1, if_neg h2]
        exact Ev.now _
    · refine ⟨false, ev_shift ?_⟩
      simp only [place_Right.l0, if_neg (show ¬ (i : Int) < (H.length : Int) by omega), if_neg h1]
      exact Ev.now _
  | succ d ih =>
    intro i hi
    have hlt : i < H.length := by omega
    obtain ⟨b, hb⟩ := place_l1 H e i hlt hH (rd_L1 H (i : Int)) (hx _ (rdL_mem hlt)) (ih (i + 1) (by omega)) (rd_L1 H (i : Int)).length 0 0 (by omega)
    refine ⟨b, ev_shift ?_⟩
    simp only [place_Right.l0, if_pos (show (i : Int) < (H.length : Int) by omega), if_pos (show (0 : Int) ≤ (i : Int) by omega)]
    exact hb
theorem place_ev (e : Int) {H : List (List Int)} (hF : Few H) : ∃ b, Ev (fun k => place_Right.f k e H) b :=
  place_l0 H e (by have := hF.1; omega) (fun x hx => by have := hF.2 x hx; omega) H.length 0 (by omega)
theorem index_l0 (x : List Int) (y : Int) (hx : x.length ≤ 1000) : ∀ (d i : Nat), i + d = x.length → ∃ r, Ev (fun k => slices_Index_int_int.l0 k x y (x.length : Int) (i : Int)) r := by
  intro d
  induction d with
  | zero =>
    intro i hi
    refine ⟨-1, ev_shift ?_⟩
    simp only [slices_Index_int_int.l0, if_neg (show ¬ (i : Int) < (x.length : Int) by omega)]
    exact Ev.now _
  | succ d ih =>
    intro i hi
    have hw : wrap64 ((i : Int) + 1) = ((i + 1 : Nat) : Int) := by rw [wrap_small (by omega) (by omega)]; omega
    by_cases h : y = rd x (i : Int)
    · refine ⟨(i : Int), ev_shift ?_⟩
      simp only [slices_Index_int_int.l0, if_pos (show (i : Int) < (x.length : Int) by omega), if_pos (show (0 : Int) ≤ (i : Int) by omega), if_pos h]
      exact Ev.now _
    · obtain ⟨r, hr⟩ := ih (i + 1) (by omega)
      refine ⟨r, ev_shift ?_⟩
      simp only [slices_Index_int_int.l0, if_pos (show (i : Int) < (x.length : Int) by omega), if_pos (show (0 : Int) ≤ (i : Int) by omega), if_neg h, hw]
      exact hr
theorem holds_ev (e : Int) {H : List (List Int)} (hF : Few H) (x me : Int) : ∃ b, Ev (fun k => place_Holds.f k e H x me) b := by
  unfold place_Holds.f
  by_cases h1 : x ≥ 0
  · by_cases h2 : x < (H.length : Int)
    · obtain ⟨i, rfl⟩ : ∃ i : Nat, x = (i : Int) := ⟨x.toNat, by omega⟩
      have := hF.2 _ (rdL_mem (m := H) (i := i) (by omega))
      obtain ⟨r, hr⟩ := index_l0 (rd_L1 H (i : Int)) me (by omega) (rd_L1 H (i : Int)).length 0 (by omega)
      refine ⟨decide (r ≥ 0), ?_⟩
      simp only [if_pos h1, if_pos h2]
      unfold slices_Contains_int_int.f slices_Index_int_int.f
      exact Ev.bind (Ev.bind hr (Ev.now _)) (Ev.now _)
    · exact ⟨false, by simp only [if_pos h1, if_neg h2]; exact Ev.now _⟩
  · exact ⟨false, by simp only [if_neg h1]; exact Ev.now _⟩
/-- May a message be worked on? -/
def fitsB (pb : Bool) (n : Int) (l : List S61) (me a0 a1 a2 a3 a4 a5 a6 a7 a8 a9 : Int) (v : List Int) : Bool :=
  modelOk n l && (pb && (wireB a0 a1 a2 a3 a4 a5 a6 a7 a8 a9 v && (decide (a0 = 1) && (decide (a2 = me) && (decide (a5 < (l.length : Int)) && (decide (a8 < ((rd_T61 l a5).f1.length : Int)) && tokOk n [v]))))))
theorem fits_ev {pb : Bool} {e : Int} {H : List (List Int)} (hp : Ev (fun k => place_Right.f k e H) pb) (n : Int) (l : List S61) (me a0 a1 a2 a3 a4 a5 a6 a7 a8 a9 : Int) (v : List Int) (hv : v.length ≤ 1000) :
    Ev (fun k => node_fits.f k n l e H me a0 a1 a2 a3 a4 a5 a6 a7 a8 a9 v) (fitsB pb n l me a0 a1 a2 a3 a4 a5 a6 a7 a8 a9 v) := by
  have hw := wire_ev a0 a1 a2 a3 a4 a5 a6 a7 a8 a9 v hv
  have hwt := @wireB_true a0 a1 a2 a3 a4 a5 a6 a7 a8 a9 v
  unfold node_fits.f fitsB model_Right.f model_Tokens.f
  simp only [Option.bind_some]
  cases hm : modelOk n l
  · simp only [if_neg (show ¬ (false = true) by decide), Bool.false_and]
    exact Ev.now _
  · simp only [if_true, Bool.true_and]
    refine Ev.bind hp ?_
    cases pb
    · simp only [if_neg (show ¬ (false = true) by decide), Bool.false_and]
      exact Ev.now _
    · simp only [if_true, Bool.true_and]
      refine Ev.bind hw ?_
      cases hwb : wireB a0 a1 a2 a3 a4 a5 a6 a7 a8 a9 v
      · simp only [if_neg (show ¬ (false = true) by decide), Bool.false_and]
        exact Ev.now _
      · simp only [if_true, Bool.true_and]
        by_cases h1 : a0 = 1
        · by_cases h2 : a2 = me
          · by_cases h3 : a5 < (l.length : Int)
            · by_cases h4 : a8 < ((rd_T61 l a5).f1.length : Int)
              · simp only [if_pos h1, if_pos h2, if_pos h3, if_pos (hwt hwb).1, if_pos h4, decide_eq_true h1, decide_eq_true h2, decide_eq_true h3, decide_eq_true h4, Bool.true_and]
                exact Ev.now _
              · simp only [if_pos h1, if_pos h2, if_pos h3, if_pos (hwt hwb).1, if_neg h4, decide_eq_false h4, Bool.false_and, Bool.and_false]
                exact Ev.now _
            · simp only [if_pos h1, if_pos h2, if_neg h3, decide_eq_false h3, Bool.false_and, Bool.and_false]
              exact Ev.now _
          · simp only [if_pos h1, if_neg h2, decide_eq_false h2, Bool.false_and, Bool.and_false]
            exact Ev.now _
        · simp only [if_neg h1, decide_eq_false h1, Bool.false_and]
          exact Ev.now _
theorem fitsB_true {pb : Bool} {n : Int} {l : List S61} {me a0 a1 a2 a3 a4 a5 a6 a7 a8 a9 : Int} {v : List Int} (h : fitsB pb n l me a0 a1 a2 a3 a4 a5 a6 a7 a8 a9 v = true) :
    modelOk n l = true ∧ pb = true ∧ wireB a0 a1 a2 a3 a4 a5 a6 a7 a8 a9 v = true ∧ a0 = 1 ∧ a2 = me ∧ a5 < (l.length : Int) ∧ a8 < ((rd_T61 l a5).f1.length : Int) ∧ tokOk n [v] = true ∧ 0 ≤ a5 ∧ 0 ≤ a8 := by
  unfold fitsB at h
  simp only [Bool.and_eq_true, decide_eq_true_eq] at h
  obtain ⟨h1, h2, h3, h4, h5, h6, h7, h8⟩ := h
  exact ⟨h1, h2, h3, h4, h5, h6, h7, h8, wireB_true h3⟩
/-- What an expert of a node answers. -/
def answer (l : List S61) (a5 a8 : Int) (v : List Int) : List Int := if erB (rd_T63 (rd_T61 l a5).f1 a8).f0 (rd_T63 (rd_T61 l a5).f1 a8).f1 (v.length : Int) = true then runE (rd_T63 (rd_T61 l a5).f1 a8).f0 (rd_T63 (rd_T61 l a5).f1 a8).f1 v else []
section
variable {pb hb : Bool} {e : Int} {H : List (List Int)} {n : Int} {l : List S61} {me a0 a1 a2 a3 a4 a5 a6 a7 a8 a9 : Int} {v : List Int} {es : List S39}
theorem work_no (hf : Ev (fun k => node_fits.f k n l e H me a0 a1 a2 a3 a4 a5 a6 a7 a8 a9 v) false) :
    Ev (fun k => node_Work.f k n l e H me es a0 a1 a2 a3 a4 a5 a6 a7 a8 a9 v) (es, 0, 0, 0, 0, 0, 0, 0, 0, 0, 0, [], false) := by
  unfold node_Work.f
  refine Ev.bind hf ?_
  simp only [if_neg (show ¬ (false = true) by decide)]
  exact Ev.now _
theorem work_stale (hf : Ev (fun k => node_fits.f k n l e H me a0 a1 a2 a3 a4 a5 a6 a7 a8 a9 v) true) (hh : Ev (fun k => place_Holds.f k e H a8 me) hb) (hs : a9 ≠ e ∨ hb = false) :
    Ev (fun k => node_Work.f k n l e H me es a0 a1 a2 a3 a4 a5 a6 a7 a8 a9 v) (es, 3, me, a1, a3, a4, a5, a6, a7, a8, e, [], true) := by
  unfold node_Work.f
  refine Ev.bind hf ?_
  simp only [if_true]
  have hj : Ev (fun k => node_Work.j0 k es true n l a0 a1 a2 a3 a4 a5 a6 a7 a8 a9 v 3 me a1 a3 a4 a5 a6 a7 a8 e) (es, 3, me, a1, a3, a4, a5, a6, a7, a8, e, [], true) := by
    refine ev_shift ?_
    simp only [node_Work.j0, if_true]
    exact Ev.now _
  by_cases h9 : a9 = e
  · simp only [if_pos h9]
    refine Ev.bind hh ?_
    obtain rfl : hb = false := hs.resolve_left (fun hc => hc h9)
    exact hj
  · simp only [if_neg h9]
    exact hj
theorem work_found {x : List Int} (hf : Ev (fun k => node_fits.f k n l e H me a0 a1 a2 a3 a4 a5 a6 a7 a8 a9 v) true) (hh : Ev (fun k => place_Holds.f k e H a8 me) true) (h9 : a9 = e) (hx : ledger_Find.f es a4 a5 a6 a7 = some (x, true)) :
    Ev (fun k => node_Work.f k n l e H me es a0 a1 a2 a3 a4 a5 a6 a7 a8 a9 v) (es, 2, me, a1, a3, a4, a5, a6, a7, a8, e, x, true) := by
  unfold node_Work.f
  refine Ev.bind hf ?_
  simp only [if_true, if_pos h9]
  refine Ev.bind hh ?_
  refine ev_shift ?_
  simp only [node_Work.j0, Bool.not_true, if_neg (show ¬ (false = true) by decide), hx, Option.bind_some, if_true]
  exact Ev.now _
theorem work_new {es' : List S39} {b : Bool} (hf : Ev (fun k => node_fits.f k n l e H me a0 a1 a2 a3 a4 a5 a6 a7 a8 a9 v) true) (hh : Ev (fun k => place_Holds.f k e H a8 me) true) (h9 : a9 = e) (h5 : 0 ≤ a5) (h5' : a5 < (l.length : Int)) (h8 : 0 ≤ a8) (h8' : a8 < ((rd_T61 l a5).f1.length : Int))
    (hx : ledger_Find.f es a4 a5 a6 a7 = some ([], false)) (hen : ledger_Enter.f es a4 a5 a6 a7 (answer l a5 a8 v) = some (es', b)) :
    Ev (fun k => node_Work.f k n l e H me es a0 a1 a2 a3 a4 a5 a6 a7 a8 a9 v) (es', 2, me, a1, a3, a4, a5, a6, a7, a8, e, answer l a5 a8 v, true) := by
  have hr := run_ev (rd_T63 (rd_T61 l a5).f1 a8).f0 (rd_T63 (rd_T61 l a5).f1 a8).f1 v
  unfold node_Work.f
  refine Ev.bind hf ?_
  simp only [if_true, if_pos h9]
  refine Ev.bind hh ?_
  refine ev_shift ?_
  simp only [node_Work.j0, Bool.not_true, if_neg (show ¬ (false = true) by decide), hx, Option.bind_some, if_pos h5, if_pos h5', if_pos h8, if_pos h8']
  refine Ev.bind hr ?_
  have ea : (if erB (rd_T63 (rd_T61 l a5).f1 a8).f0 (rd_T63 (rd_T61 l a5).f1 a8).f1 (v.length : Int) = true then (runE (rd_T63 (rd_T61 l a5).f1 a8).f0 (rd_T63 (rd_T61 l a5).f1 a8).f1 v, true) else ([], false)).1 = answer l a5 a8 v := by
    unfold answer
    split <;> rfl
  rw [ea]
  simp only [hen, Option.bind_some]
  exact Ev.now _
end

structure LW (w W : World) (cm cp ca : Array Value) : Prop where
  hb : Below w.heap.size w W
  m : W.heap[w.heap.size]? = some (.cells cm 24 (0, 0))
  p : W.heap[w.heap.size + 1]? = some (.cells cp 27 (0, 0))
  a : W.heap[w.heap.size + 1 + 1]? = some (.cells ca 31 (0, 0))
theorem LW.below {w W W' : World} {cm cp ca : Array Value} (h : LW w W cm cp ca) (hb : Below W.heap.size W W') : LW w W' cm cp ca := ⟨below_step h.hb hb, blk_below h.m hb, blk_below h.p hb, blk_below h.a hb⟩


end Go.Proofs.Ytabklpdjjoaocaa.Qz
