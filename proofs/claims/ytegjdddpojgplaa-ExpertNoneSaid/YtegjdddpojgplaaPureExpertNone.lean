/- Proved here: of noughts a right expert makes noughts, and a row of Out that is noughts tells 0 (all experts and tokens; past 30 rows of 30 numbers the fixed answer alone). No condition. -/
import Derived.Test.YtegjdddpojgplaaPr6
namespace Go.Proofs.Ytegjdddpojgplaa.Pure
open Go.RowKit Go.Proofs.Ytegjdddpojgplaa.Pr Go.Proofs.YtegjdddpojgplaaW.PrintWords Go.Proofs.YtegjdddpojgplaaW.PrintLast Go.Proofs.YtegjdddpojgplaaW.PrintMore
set_option linter.unusedVariables false
set_option linter.unusedSimpArgs false

def ExpertNonePure : Prop := ∀ (l0_0 : List (List Int)) (l0_1 : List (List Int)) (l1 : List Int), (l0_0.length ≤ maxLen ∧ ∀ y2 ∈ l0_0, y2.length ≤ maxLen ∧ ∀ y1 ∈ y2, (Lit.int .i64 y1).wf = true) → (l0_1.length ≤ maxLen ∧ ∀ y2 ∈ l0_1, y2.length ≤ maxLen ∧ ∀ y1 ∈ y2, (Lit.int .i64 y1).wf = true) → l1.length ≤ maxLen → (∀ y ∈ l1, (Lit.int .i64 y).wf = true) → ∃ k, switchboardlaw11_ExpertNone.f k l0_0 l0_1 l1 = some true

theorem wrap_small {i : Int} (h0 : -9223372036854775808 ≤ i) (h1 : i < 9223372036854775808) : wrap64 i = i := by
  unfold wrap64
  omega

theorem ev_rounds {g : Nat → Option Bool} (h : Ev g true) : ∃ k, g k = some true := h.rounds
theorem ev_shift {α : Type} {g : Nat → Option α} {r : α} (h : Ev (fun k => g (k + 1)) r) : Ev g r := Ev.step (fun _ => rfl) h

theorem rd_get {v : List Int} {i : Int} (h0 : 0 ≤ i) (h1 : i < v.length) : ∃ h : i.toNat < v.length, rd v i = v[i.toNat]'h := by
  refine ⟨by omega, ?_⟩
  unfold rd
  rw [List.getD_eq_getElem?_getD, List.getElem?_eq_getElem (by omega)]
  rfl

theorem take_rd {v : List Int} {i : Nat} (h : i < v.length) : v.take i ++ [rd v i] = v.take (i + 1) := by
  obtain ⟨h', e⟩ := rd_get (v := v) (i := (i : Int)) (by omega) (by omega)
  rw [e]
  simp only [Int.toNat_natCast]
  rw [List.take_succ_eq_append_getElem h]

theorem rd_append_left {a b : List Int} {i : Int} (h0 : 0 ≤ i) (h1 : i < a.length) : rd (a ++ b) i = rd a i := by
  unfold rd
  rw [List.getD_eq_getElem?_getD, List.getD_eq_getElem?_getD, List.getElem?_append_left (by omega)]

theorem rd_append_right {a b : List Int} {i : Int} (h0 : 0 ≤ i) : rd (a ++ b) ((a.length : Int) + i) = rd b i := by
  unfold rd
  rw [List.getD_eq_getElem?_getD, List.getD_eq_getElem?_getD, List.getElem?_append_right (by omega)]
  congr 2
  omega

theorem rd_map {v : List Int} (f : Int → Int) {i : Int} (h0 : 0 ≤ i) (h1 : i < v.length) : rd (v.map f) i = f (rd v i) := by
  obtain ⟨h, e⟩ := rd_get h0 h1
  obtain ⟨h', e'⟩ := rd_get (v := v.map f) h0 (by simpa using h1)
  rw [e, e']
  simp

theorem rd_mem {v : List Int} {i : Int} (h0 : 0 ≤ i) (h1 : i < v.length) : rd v i ∈ v := by
  obtain ⟨h, e⟩ := rd_get h0 h1
  rw [e]
  exact List.getElem_mem h

theorem hold_range (x : Int) : -2147483647 ≤ hold x ∧ hold x ≤ 2147483647 := by
  unfold hold mx mn
  split <;> split <;> omega
theorem hold_id {x : Int} (h0 : -2147483647 ≤ x) (h1 : x ≤ 2147483647) : hold x = x := by
  unfold hold mx mn
  split <;> split <;> omega
theorem hold_hold (x : Int) : hold (hold x) = hold x := hold_id (hold_range x).1 (hold_range x).2
theorem hold_cases (x : Int) : hold x = if x > 2147483647 then 2147483647 else if x < -2147483647 then -2147483647 else x := by
  unfold hold mx mn
  split <;> split <;> split <;> first | omega | (split <;> omega)
theorem hold_zero : hold 0 = 0 := by decide

theorem prod_range {x y : Int} (hx : -2147483647 ≤ x ∧ x ≤ 2147483647) (hy : -2147483647 ≤ y ∧ y ≤ 2147483647) : -4611686014132420609 ≤ x * y ∧ x * y ≤ 4611686014132420609 := by
  have h1 : x.natAbs ≤ 2147483647 := by omega
  have h2 : y.natAbs ≤ 2147483647 := by omega
  have h3 : (x * y).natAbs ≤ 2147483647 * 2147483647 := by rw [Int.natAbs_mul]; exact Nat.mul_le_mul h1 h2
  omega
theorem mul_wrap (a b : Int) : wrap64 (hold a * hold b) = hold a * hold b := by
  have := prod_range (hold_range a) (hold_range b)
  exact wrap_small (by omega) (by omega)
theorem tdiv_range {p : Int} (h0 : -4611686014132420609 ≤ p) (h1 : p ≤ 4611686014132420609) : -70368744144896 ≤ p.tdiv 65536 ∧ p.tdiv 65536 ≤ 70368744144896 := by
  rcases Int.le_total 0 p with h | h
  · rw [Int.tdiv_eq_ediv_of_nonneg h]; omega
  · have e : p.tdiv 65536 = -((-p).tdiv 65536) := by rw [Int.neg_tdiv]; omega
    rw [e, Int.tdiv_eq_ediv_of_nonneg (by omega)]; omega
theorem mulI_eq (a b : Int) : mulI a b = hold ((hold a * hold b).tdiv 65536) := by
  unfold mulI
  have := prod_range (hold_range a) (hold_range b)
  have h2 := tdiv_range this.1 this.2
  rw [mul_wrap, wrap_small (by omega) (by omega)]
theorem addI_eq (a b : Int) : addI a b = hold (hold a + hold b) := by
  unfold addI
  have h1 := hold_range a
  have h2 := hold_range b
  rw [wrap_small (by omega) (by omega)]
theorem mulI_comm (a b : Int) : mulI a b = mulI b a := by rw [mulI_eq, mulI_eq, Int.mul_comm]
theorem addI_comm (a b : Int) : addI a b = addI b a := by rw [addI_eq, addI_eq, Int.add_comm]
theorem mulI_range (a b : Int) : -2147483647 ≤ mulI a b ∧ mulI a b ≤ 2147483647 := by rw [mulI_eq]; exact hold_range _
theorem addI_range (a b : Int) : -2147483647 ≤ addI a b ∧ addI a b ≤ 2147483647 := by rw [addI_eq]; exact hold_range _
theorem hold_mulI (a b : Int) : hold (mulI a b) = mulI a b := hold_id (mulI_range a b).1 (mulI_range a b).2
theorem hold_addI (a b : Int) : hold (addI a b) = addI a b := hold_id (addI_range a b).1 (addI_range a b).2
theorem mulI_zero (a : Int) : mulI a 0 = 0 := by rw [mulI_eq, hold_zero, Int.mul_zero]; rfl
theorem mulI_zero_left (a : Int) : mulI 0 a = 0 := by rw [mulI_comm, mulI_zero]
theorem addI_zero (a : Int) : addI a 0 = hold a := by rw [addI_eq, hold_zero, Int.add_zero, hold_hold]
theorem addI_zero_left (a : Int) : addI 0 a = hold a := by rw [addI_comm, addI_zero]
theorem mulI_one (a : Int) : mulI a 65536 = hold a := by
  rw [mulI_eq, hold_id (x := 65536) (by omega) (by omega), Int.mul_tdiv_cancel _ (by omega), hold_hold]
theorem mulI_hold_left (a b : Int) : mulI (hold a) b = mulI a b := by rw [mulI_eq, mulI_eq, hold_hold]
theorem mulI_hold_right (a b : Int) : mulI a (hold b) = mulI a b := by rw [mulI_eq, mulI_eq, hold_hold]
theorem mulI_self (a : Int) : 0 ≤ mulI a a := by
  rw [mulI_eq]
  have h : 0 ≤ hold a * hold a := by
    rcases Int.le_total 0 (hold a) with h | h
    · exact Int.mul_nonneg h h
    · rw [← Int.neg_mul_neg]; exact Int.mul_nonneg (by omega) (by omega)
  rw [Int.tdiv_eq_ediv_of_nonneg h, hold_cases]
  split
  · omega
  · split
    · omega
    · omega
theorem addF (a b : Int) : fix_Add.f a b = some (addI a b) := rfl
theorem mulF (a b : Int) : fix_Mul.f a b = some (mulI a b) := rfl
theorem holdF (a : Int) : fix_Hold.f a = some (hold a) := rfl

/-- The products of the first numbers, added. -/
def dotN (a b : List Int) : Nat → Int
  | 0 => 0
  | n + 1 => addI (dotN a b n) (mulI (rd a n) (rd b n))
theorem dotN_range (a b : List Int) (n : Nat) : -2147483647 ≤ dotN a b n ∧ dotN a b n ≤ 2147483647 := by
  cases n with
  | zero => simp [dotN]
  | succ n => exact addI_range _ _
theorem dotN_comm (a b : List Int) : ∀ n, dotN a b n = dotN b a n := by
  intro n
  induction n with
  | zero => rfl
  | succ n ih => simp only [dotN]; rw [ih, mulI_comm]
theorem dotN_congr {a b a' b' : List Int} : ∀ n : Nat, (∀ i : Nat, i < n → rd a i = rd a' i ∧ rd b i = rd b' i) → dotN a b n = dotN a' b' n := by
  intro n
  induction n with
  | zero => intro _; rfl
  | succ n ih =>
    intro h
    simp only [dotN]
    rw [ih (fun i hi => h i (by omega)), (h n (by omega)).1, (h n (by omega)).2]
theorem dot_l0 (a b : List Int) (hl : a.length = b.length) (hn : a.length ≤ 9223372036854775806) : ∀ (d i : Nat), i + d = a.length →
    Ev (fun k => vec_Dot.l0 k b (dotN a b i) a (a.length : Int) i) (dotN a b a.length, true) := by
  intro d
  induction d with
  | zero =>
    intro i hi
    have e : i = a.length := by omega
    subst e
    refine Ev.step (f := fun _ => some _) (fun k => ?_) (Ev.now _)
    simp only [vec_Dot.l0]
    rw [if_neg (by omega)]
  | succ d ih =>
    intro i hi
    have hw : wrap64 ((i : Int) + 1) = ((i + 1 : Nat) : Int) := by rw [wrap_small (by omega) (by omega)]; omega
    refine Ev.step (fun k => ?_) (ih (i + 1) (by omega))
    simp only [vec_Dot.l0, mulF, addF, Option.bind_some]
    rw [if_pos (by omega), if_pos (by omega), if_pos (by omega), if_pos (by omega), hw]
    rfl
theorem dot_ev (a b : List Int) (hl : a.length = b.length) (hn : a.length ≤ 9223372036854775806) : Ev (fun k => vec_Dot.f k a b) (dotN a b a.length, true) := by
  unfold vec_Dot.f
  simp only [if_pos (show (a.length : Int) = (b.length : Int) by omega)]
  exact dot_l0 a b hl hn a.length 0 (by omega)
theorem dot_no (a b : List Int) (hl : a.length ≠ b.length) : Ev (fun k => vec_Dot.f k a b) (0, false) := by
  unfold vec_Dot.f
  simp only [if_neg (show ¬ (a.length : Int) = (b.length : Int) by omega)]
  exact Ev.now _

theorem rd_ext {a b : List Int} (hl : a.length = b.length) (h : ∀ i : Nat, i < a.length → rd a i = rd b i) : a = b := by
  refine List.ext_getElem hl fun i h1 h2 => ?_
  obtain ⟨_, e⟩ := rd_get (v := a) (i := (i : Int)) (by omega) (by omega)
  obtain ⟨_, e'⟩ := rd_get (v := b) (i := (i : Int)) (by omega) (by omega)
  have := h i h1
  rw [e, e'] at this
  simpa using this
theorem same_l0 (a : List Int) (hn : a.length ≤ 9223372036854775806) : ∀ (d i : Nat), i + d = a.length →
    Ev (fun k => switchboardref02_Same.l0 k a a i) true := by
  intro d
  induction d with
  | zero =>
    intro i hi
    refine Ev.step (f := fun _ => some _) (fun k => ?_) (Ev.now _)
    simp only [switchboardref02_Same.l0]
    rw [if_neg (by omega)]
  | succ d ih =>
    intro i hi
    have hw : wrap64 ((i : Int) + 1) = ((i + 1 : Nat) : Int) := by rw [wrap_small (by omega) (by omega)]; omega
    refine Ev.step (fun k => ?_) (ih (i + 1) (by omega))
    simp only [switchboardref02_Same.l0, if_true]
    rw [if_pos (by omega), if_pos (by omega), if_pos (by omega), hw]
theorem same_refl (a : List Int) (hn : a.length ≤ 9223372036854775806) : Ev (fun k => switchboardref02_Same.f k a a) true := by
  unfold switchboardref02_Same.f
  simp only [if_true]
  exact same_l0 a hn a.length 0 (by omega)
theorem same_ev {a b : List Int} (h : a = b) (hn : a.length ≤ 9223372036854775806) : Ev (fun k => switchboardref02_Same.f k a b) true := by
  subst h
  exact same_refl a hn

theorem rd_mapTo (F : Int → Int → Int) (l : List Int) {n i : Nat} (h : i < n) : rd (mapTo F l n) i = F (i : Int) (rd l (i : Int)) := by
  unfold rd mapTo
  rw [List.getD_eq_getElem?_getD, Int.toNat_natCast, List.getElem?_map, List.getElem?_range h]
  rfl
theorem mapTo_congr {F G : Int → Int → Int} {l m : List Int} {n : Nat} (h : ∀ i : Nat, i < n → F i (rd l i) = G i (rd m i)) : mapTo F l n = mapTo G m n := by
  unfold mapTo
  refine List.map_congr_left fun i hi => ?_
  exact h i (List.mem_range.1 hi)
theorem mapTo_eq {F : Int → Int → Int} {l m : List Int} (hl : l.length = m.length) (h : ∀ i : Nat, i < m.length → F i (rd l i) = rd m i) : mapTo F l l.length = m := by
  refine rd_ext (by rw [mapTo_length, hl]) fun i hi => ?_
  rw [mapTo_length] at hi
  rw [rd_mapTo F l hi]
  exact h i (by omega)

theorem relu_f {a : List Int} (hn : a.length < 17592186044416) : vec_Relu.f a = some (mapTo (fun _ x => mx (hold x) 0) a a.length) := by
  unfold vec_Relu.f
  rw [if_pos hn]
theorem relu_range (x : Int) : 0 ≤ mx (hold x) 0 ∧ mx (hold x) 0 ≤ 2147483647 := by
  have := hold_range x
  unfold mx
  split <;> omega

theorem rd_replicate (n : Nat) {i : Nat} (h : i < n) : rd (List.replicate n 0) i = 0 := by
  unfold rd
  rw [List.getD_eq_getElem?_getD, Int.toNat_natCast, List.getElem?_replicate, if_pos h]
  rfl
theorem dotN_zero_right (a b : List Int) : ∀ n : Nat, (∀ i : Nat, i < n → rd b i = 0) → dotN a b n = 0 := by
  intro n
  induction n with
  | zero => intro _; rfl
  | succ n ih =>
    intro h
    simp only [dotN]
    rw [ih (fun i hi => h i (by omega)), h n (by omega), mulI_zero, addI_zero]
    rfl

theorem rdL_get {m : List (List Int)} {i : Nat} (h : i < m.length) : rd_L1 m (i : Int) = m[i] := by
  unfold rd_L1
  rw [Int.toNat_natCast, List.getD_eq_getElem?_getD, List.getElem?_eq_getElem h]
  rfl
theorem rdL_mem {m : List (List Int)} {i : Nat} (h : i < m.length) : rd_L1 m (i : Int) ∈ m := by
  rw [rdL_get h]
  exact List.getElem_mem h
/-- Rows by a row, those in order from place i on; 'none': one is not as long. -/
def applyTo (m : List (List Int)) (v : List Int) : Nat → List Int
  | 0 => []
  | n + 1 => applyTo m v n ++ [dotN (rd_L1 m (n : Int)) v v.length]
theorem applyTo_length (m : List (List Int)) (v : List Int) : ∀ n, (applyTo m v n).length = n := by
  intro n
  induction n with
  | zero => rfl
  | succ n ih => simp only [applyTo, List.length_append, ih]; rfl
theorem rd_applyTo (m : List (List Int)) (v : List Int) {n i : Nat} (h : i < n) : rd (applyTo m v n) i = dotN (rd_L1 m (i : Int)) v v.length := by
  induction n with
  | zero => omega
  | succ n ih =>
    simp only [applyTo]
    by_cases e : i < n
    · rw [rd_append_left (by omega) (by rw [applyTo_length]; omega)]
      exact ih e
    · have e' : i = n := by omega
      subst e'
      have := rd_append_right (a := applyTo m v i) (b := [dotN (rd_L1 m (i : Int)) v v.length]) (i := 0) (by omega)
      rw [applyTo_length, Int.add_zero] at this
      rw [this]
      rfl
/-- Is each row as long as v? -/
def Fit (m : List (List Int)) (v : List Int) : Prop := ∀ r ∈ m, r.length = v.length
instance (m : List (List Int)) (v : List Int) : Decidable (Fit m v) := by unfold Fit; infer_instance
theorem apply_l0 (m : List (List Int)) (v : List Int) (hm : m.length < 17592186044416) (hv : v.length ≤ 9223372036854775806) (hf : Fit m v) : ∀ (d i : Nat), i + d = m.length →
    Ev (fun k => mat_Apply.l0 k v (applyTo m v i) m (m.length : Int) i) (applyTo m v m.length, true) := by
  intro d
  induction d with
  | zero =>
    intro i hi
    have e : i = m.length := by omega
    subst e
    refine ev_shift ?_
    simp only [mat_Apply.l0, if_neg (show ¬ (m.length : Int) < (m.length : Int) by omega)]
    exact Ev.now _
  | succ d ih =>
    intro i hi
    have hw : wrap64 ((i : Int) + 1) = ((i + 1 : Nat) : Int) := by rw [wrap_small (by omega) (by omega)]; omega
    have hr := hf _ (rdL_mem (m := m) (i := i) (by omega))
    refine ev_shift ?_
    simp only [mat_Apply.l0, if_pos (show (i : Int) < (m.length : Int) by omega), if_pos (show (0 : Int) ≤ (i : Int) by omega), hw]
    refine Ev.bind (dot_ev _ v hr (by omega)) ?_
    simp only [if_true, applyTo_length, if_pos (show i < 17592186044416 by omega), hr]
    exact ih (i + 1) (by omega)
theorem apply_yes (m : List (List Int)) (v : List Int) (hm : m.length < 17592186044416) (hv : v.length ≤ 9223372036854775806) (hf : Fit m v) : Ev (fun k => mat_Apply.f k m v) (applyTo m v m.length, true) :=
  apply_l0 m v hm hv hf m.length 0 (by omega)
theorem apply_l0_no (m : List (List Int)) (v : List Int) (hm : m.length < 17592186044416) (hv : v.length ≤ 9223372036854775806) (hl : ∀ r ∈ m, r.length ≤ 9223372036854775806) : ∀ (d i : Nat), i + d = m.length → (∃ j : Nat, i ≤ j ∧ j < m.length ∧ (rd_L1 m (j : Int)).length ≠ v.length) → ∀ o : List Int, o.length = i →
    Ev (fun k => mat_Apply.l0 k v o m (m.length : Int) i) ([], false) := by
  intro d
  induction d with
  | zero =>
    intro i hi ⟨j, h1, h2, _⟩
    omega
  | succ d ih =>
    intro i hi ⟨j, h1, h2, h3⟩ o ho
    have hw : wrap64 ((i : Int) + 1) = ((i + 1 : Nat) : Int) := by rw [wrap_small (by omega) (by omega)]; omega
    have hrl := hl _ (rdL_mem (m := m) (i := i) (by omega))
    refine ev_shift ?_
    simp only [mat_Apply.l0, if_pos (show (i : Int) < (m.length : Int) by omega), if_pos (show (0 : Int) ≤ (i : Int) by omega), hw]
    by_cases hr : (rd_L1 m (i : Int)).length = v.length
    · refine Ev.bind (dot_ev _ v hr (by omega)) ?_
      simp only [if_true, ho, if_pos (show i < 17592186044416 by omega)]
      refine ih (i + 1) (by omega) ⟨j, ?_, h2, h3⟩ _ (by rw [List.length_append, ho]; rfl)
      have : i ≠ j := by intro e; subst e; exact h3 hr
      omega
    · refine Ev.bind (dot_no _ v hr) ?_
      simp only [if_neg (show ¬ (false = true) by decide)]
      exact Ev.now _
theorem not_fit {m : List (List Int)} {v : List Int} (h : ¬ Fit m v) : ∃ j : Nat, j < m.length ∧ (rd_L1 m (j : Int)).length ≠ v.length := by
  refine Classical.byContradiction fun hc => h fun r hr => ?_
  obtain ⟨j, hj, rfl⟩ := List.getElem_of_mem hr
  refine Classical.byContradiction fun hne => hc ⟨j, hj, ?_⟩
  rw [rdL_get hj]
  exact hne
theorem apply_no (m : List (List Int)) (v : List Int) (hm : m.length < 17592186044416) (hv : v.length ≤ 9223372036854775806) (hl : ∀ r ∈ m, r.length ≤ 9223372036854775806) (hf : ¬ Fit m v) : Ev (fun k => mat_Apply.f k m v) ([], false) := by
  obtain ⟨j, h1, h2⟩ := not_fit hf
  exact apply_l0_no m v hm hv hl m.length 0 (by omega) ⟨j, by omega, h1, h2⟩ [] rfl
theorem apply_ev (m : List (List Int)) (v : List Int) (hm : m.length < 17592186044416) (hv : v.length ≤ 9223372036854775806) (hl : ∀ r ∈ m, r.length ≤ 9223372036854775806) :
    Ev (fun k => mat_Apply.f k m v) (if Fit m v then (applyTo m v m.length, true) else ([], false)) := by
  by_cases h : Fit m v
  · rw [if_pos h]; exact apply_yes m v hm hv h
  · rw [if_neg h]; exact apply_no m v hm hv hl h

theorem small_j1_false (m : List (List Int)) (i : Int) : Ev (fun k => switchboardref03_Small.j1 k m i false) (decide ((m.length : Int) ≤ 30)) := by
  refine ev_shift ?_
  simp only [switchboardref03_Small.j1, if_neg (show ¬ (false = true) by decide)]
  exact Ev.now _
/-- Rows are few, and short. -/
def Few (m : List (List Int)) : Prop := m.length ≤ 30 ∧ ∀ r ∈ m, r.length ≤ 30
theorem small_l0 (m : List (List Int)) : ∀ (d i : Nat), i + d = 30 → (∀ j : Nat, j < i → j < m.length → (rd_L1 m (j : Int)).length ≤ 30) →
    ∃ b : Bool, Ev (fun k => switchboardref03_Small.l0 k m i) b ∧ (b = true → Few m) := by
  intro d
  induction d with
  | zero =>
    intro i hi hq
    by_cases h : (i : Int) < (m.length : Int)
    · refine ⟨decide ((m.length : Int) ≤ 30), ?_, ?_⟩
      · refine ev_shift ?_
        simp only [switchboardref03_Small.l0, if_pos h, decide_eq_false (show ¬ (i : Int) < 30 by omega)]
        exact small_j1_false m i
      · intro hb
        have := of_decide_eq_true hb
        omega
    · refine ⟨decide ((m.length : Int) ≤ 30), ?_, ?_⟩
      · refine ev_shift ?_
        simp only [switchboardref03_Small.l0, if_neg h]
        exact small_j1_false m i
      · intro hb
        refine ⟨by omega, fun r hr => ?_⟩
        obtain ⟨j, hj, rfl⟩ := List.getElem_of_mem hr
        have := hq j (by omega) hj
        rwa [rdL_get hj] at this
  | succ d ih =>
    intro i hi hq
    have hw : wrap64 ((i : Int) + 1) = ((i + 1 : Nat) : Int) := by rw [wrap_small (by omega) (by omega)]; omega
    by_cases h : (i : Int) < (m.length : Int)
    · by_cases h2 : ((rd_L1 m (i : Int)).length : Int) > 30
      · refine ⟨false, ?_, fun hb => by cases hb⟩
        refine ev_shift ?_
        simp only [switchboardref03_Small.l0, if_pos h, decide_eq_true (show (i : Int) < 30 by omega)]
        refine ev_shift ?_
        simp only [switchboardref03_Small.j1, if_true, if_pos (show (0 : Int) ≤ (i : Int) by omega), if_pos h, if_pos h2]
        exact Ev.now _
      · obtain ⟨b, hb, hq2⟩ := ih (i + 1) (by omega) (fun j hj hl => by
          by_cases e : j < i
          · exact hq j e hl
          · have : j = i := by omega
            subst this
            omega)
        refine ⟨b, ?_, hq2⟩
        refine ev_shift ?_
        simp only [switchboardref03_Small.l0, if_pos h, decide_eq_true (show (i : Int) < 30 by omega)]
        refine ev_shift ?_
        simp only [switchboardref03_Small.j1, if_true, if_pos (show (0 : Int) ≤ (i : Int) by omega), if_pos h, if_neg h2, hw]
        exact hb
    · refine ⟨decide ((m.length : Int) ≤ 30), ?_, ?_⟩
      · refine ev_shift ?_
        simp only [switchboardref03_Small.l0, if_neg h]
        exact small_j1_false m i
      · intro hb
        refine ⟨of_decide_eq_true hb |> fun z => by omega, fun r hr => ?_⟩
        obtain ⟨j, hj, rfl⟩ := List.getElem_of_mem hr
        have := hq j (by omega) hj
        rwa [rdL_get hj] at this
theorem small_ev (m : List (List Int)) : ∃ b : Bool, Ev (fun k => switchboardref03_Small.f k m) b ∧ (b = true → Few m) :=
  small_l0 m 30 0 (by omega) (fun j hj => by omega)

theorem notHeld_eq (x : Int) : notHeld x = (decide (x > 2147483647) || decide (x < -2147483647)) := by
  unfold notHeld holdR mx mn
  rw [Bool.eq_iff_iff]
  simp only [decide_eq_true_eq, Bool.or_eq_true]
  split <;> split <;> omega

theorem ref_right_l1 (m : List (List Int)) (c : Int) (i : Nat) (hi : i < m.length) (rest : Bool) (hrow : (rd_L1 m (i : Int)).length ≤ 9223372036854775806) (hm : m.length ≤ 9223372036854775806)
    (hr : Ev (fun k => switchboardref03_Right.l0 k m c ((i + 1 : Nat) : Int)) rest) : ∀ (d j : Nat), j + d = (rd_L1 m (i : Int)).length →
    Ev (fun k => switchboardref03_Right.l1 k m c i j) (!(((rd_L1 m (i : Int)).drop j).any notHeld) && rest) := by
  intro d
  have hwi : wrap64 ((i : Int) + 1) = ((i + 1 : Nat) : Int) := by rw [wrap_small (by omega) (by omega)]; omega
  induction d with
  | zero =>
    intro j hj
    refine ev_shift ?_
    simp only [switchboardref03_Right.l1, if_pos (show (0 : Int) ≤ (i : Int) by omega), if_pos (show (i : Int) < (m.length : Int) by omega), if_neg (show ¬ (j : Int) < ((rd_L1 m (i : Int)).length : Int) by omega), hwi]
    rw [List.drop_eq_nil_of_le (by omega)]
    exact hr
  | succ d ih =>
    intro j hj
    have hwj : wrap64 ((j : Int) + 1) = ((j + 1 : Nat) : Int) := by rw [wrap_small (by omega) (by omega)]; omega
    obtain ⟨h', e⟩ := rd_get (v := rd_L1 m (i : Int)) (i := (j : Int)) (by omega) (by omega)
    have hd : (rd_L1 m (i : Int)).drop j = rd (rd_L1 m (i : Int)) (j : Int) :: (rd_L1 m (i : Int)).drop (j + 1) := by
      rw [e]
      simp only [Int.toNat_natCast]
      exact List.drop_eq_getElem_cons _
    rw [hd, List.any_cons, notHeld_eq]
    refine ev_shift ?_
    simp only [switchboardref03_Right.l1, if_pos (show (0 : Int) ≤ (i : Int) by omega), if_pos (show (i : Int) < (m.length : Int) by omega), if_pos (show (j : Int) < ((rd_L1 m (i : Int)).length : Int) by omega), if_pos (show (0 : Int) ≤ (j : Int) by omega), hwj]
    by_cases h1 : rd (rd_L1 m (i : Int)) (j : Int) > 2147483647
    · simp only [if_pos h1, decide_eq_true h1, Bool.true_or, Bool.not_true, Bool.false_and]
      exact Ev.now _
    · by_cases h2 : rd (rd_L1 m (i : Int)) (j : Int) < -2147483647
      · simp only [if_neg h1, if_pos h2, decide_eq_true h2, Bool.or_true, Bool.true_or, Bool.not_true, Bool.false_and]
        exact Ev.now _
      · simp only [if_neg h1, if_neg h2, decide_eq_false h1, decide_eq_false h2, Bool.or_false, Bool.false_or]
        exact ih (j + 1) (by omega)
theorem ref_right_l0 (m : List (List Int)) (c : Int) (hm : m.length ≤ 9223372036854775806) (hl : ∀ r ∈ m, r.length ≤ 9223372036854775806) : ∀ (d i : Nat), i + d = m.length →
    Ev (fun k => switchboardref03_Right.l0 k m c i) (!((m.drop i).any (rowWrong c))) := by
  intro d
  induction d with
  | zero =>
    intro i hi
    refine ev_shift ?_
    simp only [switchboardref03_Right.l0, if_neg (show ¬ (i : Int) < (m.length : Int) by omega)]
    rw [List.drop_eq_nil_of_le (by omega)]
    exact Ev.now _
  | succ d ih =>
    intro i hi
    have hil : i < m.length := by omega
    have hd : m.drop i = rd_L1 m (i : Int) :: m.drop (i + 1) := by rw [rdL_get hil]; exact List.drop_eq_getElem_cons hil
    rw [hd, List.any_cons]
    refine ev_shift ?_
    simp only [switchboardref03_Right.l0, if_pos (show (i : Int) < (m.length : Int) by omega), if_pos (show (0 : Int) ≤ (i : Int) by omega)]
    by_cases h : ((rd_L1 m (i : Int)).length : Int) = c
    · simp only [if_pos h]
      have := ref_right_l1 m c i hil _ (hl _ (rdL_mem hil)) hm (ih (i + 1) (by omega)) _ 0 (by omega : 0 + (rd_L1 m (i : Int)).length = _)
      have e : (!(rowWrong c (rd_L1 m (i : Int)) || (m.drop (i + 1)).any (rowWrong c))) = (!(((rd_L1 m (i : Int)).drop 0).any notHeld) && !((m.drop (i + 1)).any (rowWrong c))) := by
        unfold rowWrong
        rw [decide_eq_false (show ¬ ¬ ((rd_L1 m (i : Int)).length : Int) = c from fun hc => hc h), Bool.false_or, Bool.not_or]
        rfl
      rw [e]
      exact this
    · simp only [if_neg h]
      have e : rowWrong c (rd_L1 m (i : Int)) = true := by
        unfold rowWrong
        rw [decide_eq_true h, Bool.true_or]
      rw [e, Bool.true_or]
      exact Ev.now _
theorem ref_right (m : List (List Int)) (rows c : Int) (hm : m.length ≤ 9223372036854775806) (hl : ∀ r ∈ m, r.length ≤ 9223372036854775806) :
    Ev (fun k => switchboardref03_Right.f k m rows c) (decide ((m.length : Int) = rows) && !(m.any (rowWrong c))) := by
  unfold switchboardref03_Right.f
  by_cases h : (m.length : Int) = rows
  · simp only [if_pos h, decide_eq_true h, Bool.true_and]
    exact ref_right_l0 m c hm hl m.length 0 (by omega)
  · simp only [if_neg h, decide_eq_false h, Bool.false_and]
    exact Ev.now _

def matR (m : List (List Int)) (r c : Int) : Bool := decide ((m.length : Int) = r) && !(m.any (rowWrong c))
theorem matR_f (m : List (List Int)) (r c : Int) : mat_Right.f m r c = some (matR m r c) := rfl
theorem matR_true {m : List (List Int)} {r c : Int} (h : matR m r c = true) : (m.length : Int) = r ∧ ∀ x ∈ m, (x.length : Int) = c ∧ ∀ y ∈ x, -2147483647 ≤ y ∧ y ≤ 2147483647 := by
  unfold matR at h
  rw [Bool.and_eq_true, decide_eq_true_eq, Bool.not_eq_true', List.any_eq_false] at h
  refine ⟨h.1, fun x hx => ?_⟩
  have := h.2 x hx
  unfold rowWrong at this
  rw [Bool.or_eq_true, decide_eq_true_eq, List.any_eq_true] at this
  refine ⟨Classical.byContradiction fun hc => this (.inl hc), fun y hy => ?_⟩
  refine Classical.byContradiction fun hc => this (.inr ⟨y, hy, ?_⟩)
  rw [notHeld_eq, Bool.or_eq_true, decide_eq_true_eq, decide_eq_true_eq]
  omega
theorem matR_mk {m : List (List Int)} {r c : Int} (h1 : (m.length : Int) = r) (h2 : ∀ x ∈ m, (x.length : Int) = c ∧ ∀ y ∈ x, -2147483647 ≤ y ∧ y ≤ 2147483647) : matR m r c = true := by
  unfold matR
  rw [Bool.and_eq_true, decide_eq_true_eq, Bool.not_eq_true', List.any_eq_false]
  refine ⟨h1, fun x hx => ?_⟩
  obtain ⟨h3, h4⟩ := h2 x hx
  unfold rowWrong
  rw [Bool.or_eq_true, decide_eq_true_eq, List.any_eq_true]
  intro hc
  rcases hc with hc | ⟨y, hy, hc⟩
  · exact hc h3
  · have := h4 y hy
    rw [notHeld_eq, Bool.or_eq_true, decide_eq_true_eq, decide_eq_true_eq] at hc
    omega
/-- Is an expert right, for tokens of d numbers? -/
def erB (a b : List (List Int)) (d : Int) : Bool := decide (1 ≤ d) && (decide (d ≤ 8) && (decide (1 ≤ (a.length : Int)) && (decide ((a.length : Int) ≤ 8) && (matR a a.length d && matR b d a.length))))
theorem right_f (a b : List (List Int)) (d : Int) : expert_Right.f a b d = some (erB a b d) := by
  unfold expert_Right.f erB
  by_cases h1 : 1 ≤ d
  · rw [if_pos h1, decide_eq_true h1, Bool.true_and]
    by_cases h2 : d ≤ 8
    · rw [if_pos h2, decide_eq_true h2, Bool.true_and]
      by_cases h3 : 1 ≤ (a.length : Int)
      · rw [if_pos h3, decide_eq_true h3, Bool.true_and]
        by_cases h4 : (a.length : Int) ≤ 8
        · rw [if_pos h4, decide_eq_true h4, Bool.true_and, matR_f, matR_f]
          simp only [Option.bind_some]
          cases matR a a.length d
          · rfl
          · rfl
        · rw [if_neg h4, decide_eq_false h4, Bool.false_and]
      · rw [if_neg h3, decide_eq_false h3, Bool.false_and]
    · rw [if_neg h2, decide_eq_false h2, Bool.false_and]
  · rw [if_neg h1, decide_eq_false h1, Bool.false_and]
theorem erB_true {a b : List (List Int)} {d : Int} (h : erB a b d = true) : 1 ≤ d ∧ d ≤ 8 ∧ 1 ≤ a.length ∧ a.length ≤ 8 ∧ (∀ x ∈ a, (x.length : Int) = d ∧ ∀ y ∈ x, -2147483647 ≤ y ∧ y ≤ 2147483647) ∧ (b.length : Int) = d ∧ (∀ x ∈ b, x.length = a.length ∧ ∀ y ∈ x, -2147483647 ≤ y ∧ y ≤ 2147483647) := by
  unfold erB at h
  simp only [Bool.and_eq_true, decide_eq_true_eq] at h
  obtain ⟨h1, h2, h3, h4, h5, h6⟩ := h
  have h5 := matR_true h5
  have h6 := matR_true h6
  exact ⟨h1, h2, by omega, by omega, h5.2, h6.1, fun x hx => ⟨by have := (h6.2 x hx).1; omega, (h6.2 x hx).2⟩⟩
def reluL (l : List Int) : List Int := mapTo (fun _ x => mx (hold x) 0) l l.length
theorem reluL_length (l : List Int) : (reluL l).length = l.length := mapTo_length _ _ _
theorem reluL_f {l : List Int} (h : l.length < 17592186044416) : vec_Relu.f l = some (reluL l) := relu_f h
theorem rd_reluL (l : List Int) {i : Nat} (h : i < l.length) : rd (reluL l) i = mx (hold (rd l i)) 0 := rd_mapTo _ _ h
/-- What a right expert makes. -/
def runE (a b : List (List Int)) (v : List Int) : List Int := applyTo b (reluL (applyTo a v a.length)) b.length
theorem runE_length (a b : List (List Int)) (v : List Int) : (runE a b v).length = b.length := applyTo_length _ _ _
theorem run_fits {a b : List (List Int)} {v : List Int} (h : erB a b v.length = true) : Fit a v ∧ Fit b (reluL (applyTo a v a.length)) := by
  obtain ⟨_, _, _, _, h5, _, h7⟩ := erB_true h
  refine ⟨fun x hx => by have := (h5 x hx).1; omega, fun x hx => ?_⟩
  rw [reluL_length, applyTo_length]
  exact (h7 x hx).1
theorem run_yes {a b : List (List Int)} {v : List Int} (h : erB a b v.length = true) : Ev (fun k => expert_Run.f k a b v) (runE a b v, true) := by
  obtain ⟨h1, h2, h3, h4, h5, h6, h7⟩ := erB_true h
  obtain ⟨f1, f2⟩ := run_fits h
  unfold expert_Run.f
  simp only [right_f, h, Option.bind_some, if_true]
  refine Ev.bind (apply_yes a v (by omega) (by omega) f1) ?_
  simp only [reluL_f (show (applyTo a v a.length).length < 17592186044416 by rw [applyTo_length]; omega), Option.bind_some]
  exact Ev.bind (apply_yes b _ (by omega) (by rw [reluL_length, applyTo_length]; omega) f2) (Ev.now _)
theorem run_no {a b : List (List Int)} {v : List Int} (h : erB a b v.length = false) : Ev (fun k => expert_Run.f k a b v) ([], false) := by
  unfold expert_Run.f
  simp only [right_f, h, Option.bind_some, if_neg (show ¬ (false = true) by decide)]
  exact Ev.now _
theorem run_ev (a b : List (List Int)) (v : List Int) : Ev (fun k => expert_Run.f k a b v) (if erB a b v.length = true then (runE a b v, true) else ([], false)) := by
  by_cases h : erB a b v.length = true
  · rw [if_pos h]; exact run_yes h
  · rw [if_neg h]; exact run_no (Bool.eq_false_iff.mpr h)

theorem ref11_right (a b : List (List Int)) (d : Int) (ha : Few a) (hb : Few b) : Ev (fun k => switchboardref11_Right.f k a b d) (erB a b d) := by
  have la : ∀ x ∈ a, x.length ≤ 9223372036854775806 := fun x hx => by have := ha.2 x hx; omega
  have lb : ∀ x ∈ b, x.length ≤ 9223372036854775806 := fun x hx => by have := hb.2 x hx; omega
  have na := ha.1
  have nb := hb.1
  have hno : Ev (fun k => switchboardref11_Right.j0 k d (a.length : Int) true a b) false := by
    refine ev_shift ?_
    simp only [switchboardref11_Right.j0, if_true]
    exact Ev.now _
  unfold switchboardref11_Right.f
  by_cases h1 : d < 1
  · simp only [if_pos h1]
    have e : erB a b d = false := by unfold erB; rw [decide_eq_false (by omega), Bool.false_and]
    rw [e]; exact hno
  · by_cases h2 : d > 8
    · simp only [if_neg h1, if_pos h2]
      have e : erB a b d = false := by unfold erB; rw [decide_eq_true (by omega), decide_eq_false (show ¬ d ≤ 8 by omega)]; rfl
      rw [e]; exact hno
    · by_cases h3 : (a.length : Int) < 1
      · simp only [if_neg h1, if_neg h2, if_pos h3]
        have e : erB a b d = false := by unfold erB; rw [decide_eq_true (by omega), decide_eq_true (show d ≤ 8 by omega), decide_eq_false (show ¬ 1 ≤ (a.length : Int) by omega)]; rfl
        rw [e]; exact hno
      · simp only [if_neg h1, if_neg h2, if_neg h3]
        by_cases h4 : (a.length : Int) > 8
        · have e : erB a b d = false := by unfold erB; rw [decide_eq_true (by omega), decide_eq_true (show d ≤ 8 by omega), decide_eq_true (show 1 ≤ (a.length : Int) by omega), decide_eq_false (show ¬ (a.length : Int) ≤ 8 by omega)]; rfl
          simp only [decide_eq_true h4]
          rw [e]; exact hno
        · have e : erB a b d = (matR a a.length d && matR b d a.length) := by unfold erB; rw [decide_eq_true (by omega), decide_eq_true (show d ≤ 8 by omega), decide_eq_true (show 1 ≤ (a.length : Int) by omega), decide_eq_true (show (a.length : Int) ≤ 8 by omega)]; rfl
          simp only [decide_eq_false h4]
          rw [e]
          refine ev_shift ?_
          simp only [switchboardref11_Right.j0, if_neg (show ¬ (false = true) by decide)]
          refine Ev.bind (ref_right a a.length d (by omega) la) ?_
          have e2 : (decide ((a.length : Int) = (a.length : Int)) && !(a.any (rowWrong d))) = matR a a.length d := rfl
          rw [e2]
          cases matR a a.length d
          · simp only [if_neg (show ¬ (false = true) by decide), Bool.false_and]
            exact Ev.now _
          · simp only [if_true, Bool.true_and]
            exact Ev.bind (ref_right b d a.length (by omega) lb) (Ev.now _)

theorem awake_ev : Ev (fun k => switchboardlaw11_awake.f k) true :=
  Ev.of switchboardlaw11_awake.mono (k := 20) (by decide +kernel)
theorem awake2 : Ev (fun k => (switchboardlaw11_awake.f k).bind fun t => some t) true := Ev.bind awake_ev (Ev.now true)

theorem none_true (a b : List (List Int)) (v : List Int) : Ev (fun k => switchboardlaw11_ExpertNone.j0 k v true a b) true := by
  refine ev_shift ?_
  simp only [switchboardlaw11_ExpertNone.j0, if_true]
  exact awake2
theorem zeros_length (n : Nat) : (List.replicate n (0 : Int)).length = n := List.length_replicate
theorem apply_zeros (a : List (List Int)) (n : Nat) (i : Nat) (hi : i < a.length) : rd (applyTo a (List.replicate n (0 : Int)) a.length) i = 0 := by
  rw [rd_applyTo _ _ hi, zeros_length]
  exact dotN_zero_right _ _ _ (fun j hj => rd_replicate _ hj)
theorem apply_noughts {a : List (List Int)} {z : List Int} (hz : ∀ i : Nat, i < z.length → rd z i = 0) (i : Nat) (hi : i < a.length) : rd (applyTo a z a.length) i = 0 := by
  rw [rd_applyTo _ _ hi]
  exact dotN_zero_right _ _ _ hz
theorem run_zeros (a b : List (List Int)) (n : Nat) (i : Nat) (hi : i < b.length) : rd (runE a b (List.replicate n (0 : Int))) i = 0 := by
  unfold runE
  refine apply_noughts (fun j hj => ?_) i hi
  rw [reluL_length, applyTo_length] at hj
  rw [rd_reluL _ (by rw [applyTo_length]; exact hj), apply_zeros a n j hj]
  decide
theorem none_l0 (v l m : List Int) (hl : l.length = v.length) (hm : m.length = v.length) (hv : v.length ≠ 0) (hn : v.length ≤ 8) (h0 : ∀ i : Nat, i < l.length → rd l i = 0) (h1 : rd m 0 = 0) : ∀ (d i : Nat), i + d = l.length →
    Ev (fun k => switchboardlaw11_ExpertNone.l0 k v l true m true l (l.length : Int) i) true := by
  intro d
  induction d with
  | zero =>
    intro i hi
    refine ev_shift ?_
    simp only [switchboardlaw11_ExpertNone.l0, if_neg (show ¬ (i : Int) < (l.length : Int) by omega), if_pos (show (l.length : Int) = (v.length : Int) by omega), if_true, if_pos (show (m.length : Int) = (v.length : Int) by omega), if_pos (show (0 : Int) < (m.length : Int) by omega), if_pos h1]
    exact awake2
  | succ d ih =>
    intro i hi
    have hw : wrap64 ((i : Int) + 1) = ((i + 1 : Nat) : Int) := by rw [wrap_small (by omega) (by omega)]; omega
    refine ev_shift ?_
    simp only [switchboardlaw11_ExpertNone.l0, if_pos (show (i : Int) < (l.length : Int) by omega), if_pos (show (0 : Int) ≤ (i : Int) by omega), if_pos (h0 i (by omega)), hw]
    exact ih (i + 1) (by omega)
theorem rdL_set {m : List (List Int)} (x : List Int) (h : 0 < m.length) : rd_L1 (m.set 0 x) (0 : Int) = x := by
  have := rdL_get (m := m.set 0 x) (i := 0) (by rw [List.length_set]; exact h)
  rw [List.getElem_set_self] at this
  exact this
theorem none_false (a b : List (List Int)) (v : List Int) (h : erB a b v.length = true) : Ev (fun k => switchboardlaw11_ExpertNone.j0 k v false a b) true := by
  obtain ⟨h1, h2, h3, h4, h5, h6, h7⟩ := erB_true h
  have hz : erB a b (List.replicate v.length (0 : Int)).length = true := by rw [zeros_length]; exact h
  have hs : erB a (b.set 0 (List.replicate a.length (0 : Int))) v.length = true := by
    unfold erB
    rw [decide_eq_true h1, decide_eq_true h2, decide_eq_true (show 1 ≤ (a.length : Int) by omega), decide_eq_true (show (a.length : Int) ≤ 8 by omega), matR_mk rfl (fun x hx => h5 x hx), matR_mk (by rw [List.length_set]; exact h6) (fun x hx => ?_)]
    · rfl
    · rcases List.mem_or_eq_of_mem_set hx with hx | rfl
      · exact ⟨by have := (h7 x hx).1; omega, (h7 x hx).2⟩
      · refine ⟨by rw [zeros_length], fun y hy => ?_⟩
        obtain rfl := List.eq_of_mem_replicate hy
        omega
  refine ev_shift ?_
  simp only [switchboardlaw11_ExpertNone.j0, if_neg (show ¬ (false = true) by decide), if_pos (show (0 : Int) ≤ (v.length : Int) by omega), Int.toNat_natCast, if_pos (show v.length ≤ 35184372088832 by omega)]
  refine Ev.bind (run_yes hz) ?_
  simp only [Option.bind_some, List.nil_append, List.length_nil, if_pos (show 0 + b.length < 5864062014805 by omega), if_pos (show (0 : Int) ≤ (a.length : Int) by omega), if_pos (show a.length ≤ 35184372088832 by omega), if_pos (show (0 : Int) < (b.length : Int) by omega), Int.toNat_zero]
  refine Ev.bind (run_yes hs) ?_
  have key := none_l0 v (runE a b (List.replicate v.length (0 : Int))) (runE a (b.set 0 (List.replicate a.length (0 : Int))) v) (by rw [runE_length]; omega) (by rw [runE_length, List.length_set]; omega) (by omega) (by omega)
    (fun i hi => run_zeros a b _ i (by rw [runE_length] at hi; exact hi)) (by
      unfold runE
      have e := rd_applyTo (b.set 0 (List.replicate a.length (0 : Int))) (reluL (applyTo a v a.length)) (n := (b.set 0 (List.replicate a.length (0 : Int))).length) (i := 0) (by rw [List.length_set]; omega)
      rw [show ((0 : Nat) : Int) = 0 from rfl] at e
      rw [e, rdL_set _ (by omega), dotN_comm]
      refine dotN_zero_right _ _ _ (fun j hj => rd_replicate _ ?_)
      rw [reluL_length, applyTo_length] at hj
      exact hj) _ 0 (by omega : 0 + (runE a b (List.replicate v.length (0 : Int))).length = _)
  exact key
theorem ExpertNone : ExpertNonePure := by
  intro a b v _ _ _ _
  refine ev_rounds ?_
  unfold switchboardlaw11_ExpertNone.f
  obtain ⟨p, hp, hq⟩ := small_ev a
  obtain ⟨p', hp', hq'⟩ := small_ev b
  refine Ev.bind hp ?_
  cases p
  · simp only [if_neg (show ¬ (false = true) by decide)]
    exact none_true a b v
  · simp only [if_true]
    refine Ev.bind hp' ?_
    cases p'
    · simp only [if_neg (show ¬ (false = true) by decide)]
      exact none_true a b v
    · simp only [if_true]
      by_cases h : (v.length : Int) > 30
      · simp only [if_pos h]
        exact none_true a b v
      · simp only [if_neg h]
        refine Ev.bind (ref11_right a b v.length (hq rfl) (hq' rfl)) ?_
        by_cases he : erB a b v.length = true
        · simp only [he, Bool.not_true]
          exact none_false a b v he
        · simp only [Bool.eq_false_iff.mpr he, Bool.not_false]
          exact none_true a b v

end Go.Proofs.Ytegjdddpojgplaa.Pure
