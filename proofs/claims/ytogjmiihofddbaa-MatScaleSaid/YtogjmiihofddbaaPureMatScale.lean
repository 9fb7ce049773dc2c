/- Proved here: with the first row put behind once more Apply tells what it told and the first number once more, and Right tells the same (all rows; past 29 rows of 30 numbers the fixed answer alone). No condition. -/
import Derived.Test.YtogjmiihofddbaaPq3
namespace Go.Proofs.Ytogjmiihofddbaa.Pure
open Go.RowKit Go.Proofs.Ytogjmiihofddbaa.Pq Go.Proofs.YtogjmiihofddbaaW.PrintWords Go.Proofs.YtogjmiihofddbaaW.PrintLast Go.Proofs.YtogjmiihofddbaaW.PrintMore
set_option linter.unusedVariables false
set_option linter.unusedSimpArgs false

def MatScalePure : Prop := ∀ (l0 : List (List Int)) (l1 : List Int) (a2 : Int), l0.length ≤ maxLen → (∀ y ∈ l0, y.length ≤ maxLen ∧ ∀ y1 ∈ y, (Lit.int .i64 y1).wf = true) → l1.length ≤ maxLen → (∀ y ∈ l1, (Lit.int .i64 y).wf = true) → (Lit.int .i64 a2).wf = true → ∃ k, switchboardlaw03_MatScale.f k l0 l1 a2 = some true

theorem wrap_small {i : Int} (h0 : -9223372036854775808 ≤ i) (h1 : i < 9223372036854775808) : wrap64 i = i := by
  unfold wrap64
  omega

theorem ev_rounds {g : Nat → Option Bool} (h : Ev g true) : ∃ k, g k = some true := h.rounds
theorem ev_shift {α : Type} {g : Nat → Option α} {r : α} (h : Ev (fun k => g (k + 1)) r) : Ev g r := Ev.step (fun _ => rfl) h

theorem wf8 {x : Int} (h : (Lit.int .u8 x).wf = true) : 0 ≤ x ∧ x ≤ 255 := by
  simp [Lit.wf, IntKind.min, IntKind.max, IntKind.signed, IntKind.bits] at h
  omega
theorem wf64 {x : Int} (h : (Lit.int .i64 x).wf = true) : -9223372036854775808 ≤ x ∧ x ≤ 9223372036854775807 := by
  simp [Lit.wf, IntKind.min, IntKind.max, IntKind.signed, IntKind.bits] at h
  omega

theorem rd_get {v : List Int} {i : Int} (h0 : 0 ≤ i) (h1 : i < v.length) : ∃ h : i.toNat < v.length, rd v i = v[i.toNat]'h := by
  refine ⟨by omega, ?_⟩
  unfold rd
  rw [List.getD_eq_getElem?_getD, List.getElem?_eq_getElem (by omega)]
  rfl

theorem take_rd {v : List Int} {i : Nat} (h : i < v.length) : v.take i ++ [rd v i] = v.take (i + 1) := by
  obtain ⟨h', e⟩ := rd_get (v := v) (i := (i : Int)) (by omega) (by omega)
  rw [e]
  simp only [Int.toNat_natCast]
  rw [List.take_succ_eq_append_getElem h]

theorem rd_append_left {a b : List Int} {i : Int} (h0 : 0 ≤ i) (h1 : i < a.length) : rd (a ++ b) i = rd a i := by
  unfold rd
  rw [List.getD_eq_getElem?_getD, List.getD_eq_getElem?_getD, List.getElem?_append_left (by omega)]

theorem rd_append_right {a b : List Int} {i : Int} (h0 : 0 ≤ i) : rd (a ++ b) ((a.length : Int) + i) = rd b i := by
  unfold rd
  rw [List.getD_eq_getElem?_getD, List.getD_eq_getElem?_getD, List.getElem?_append_right (by omega)]
  congr 2
  omega

theorem rd_map {v : List Int} (f : Int → Int) {i : Int} (h0 : 0 ≤ i) (h1 : i < v.length) : rd (v.map f) i = f (rd v i) := by
  obtain ⟨h, e⟩ := rd_get h0 h1
  obtain ⟨h', e'⟩ := rd_get (v := v.map f) h0 (by simpa using h1)
  rw [e, e']
  simp

theorem rd_mem {v : List Int} {i : Int} (h0 : 0 ≤ i) (h1 : i < v.length) : rd v i ∈ v := by
  obtain ⟨h, e⟩ := rd_get h0 h1
  rw [e]
  exact List.getElem_mem h

def hold (x : Int) : Int := mx (-2147483647) (mn 2147483647 x)
def addI (a b : Int) : Int := hold (wrap64 (hold a + hold b))
def mulI (a b : Int) : Int := hold (wrap64 (Int.tdiv (wrap64 (hold a * hold b)) 65536))

theorem hold_range (x : Int) : -2147483647 ≤ hold x ∧ hold x ≤ 2147483647 := by
  unfold hold mx mn
  split <;> split <;> omega
theorem hold_id {x : Int} (h0 : -2147483647 ≤ x) (h1 : x ≤ 2147483647) : hold x = x := by
  unfold hold mx mn
  split <;> split <;> omega
theorem hold_hold (x : Int) : hold (hold x) = hold x := hold_id (hold_range x).1 (hold_range x).2
theorem hold_cases (x : Int) : hold x = if x > 2147483647 then 2147483647 else if x < -2147483647 then -2147483647 else x := by
  unfold hold mx mn
  split <;> split <;> split <;> first | omega | (split <;> omega)
theorem hold_zero : hold 0 = 0 := by decide

theorem prod_range {x y : Int} (hx : -2147483647 ≤ x ∧ x ≤ 2147483647) (hy : -2147483647 ≤ y ∧ y ≤ 2147483647) : -4611686014132420609 ≤ x * y ∧ x * y ≤ 4611686014132420609 := by
  have h1 : x.natAbs ≤ 2147483647 := by omega
  have h2 : y.natAbs ≤ 2147483647 := by omega
  have h3 : (x * y).natAbs ≤ 2147483647 * 2147483647 := by rw [Int.natAbs_mul]; exact Nat.mul_le_mul h1 h2
  omega
theorem mul_wrap (a b : Int) : wrap64 (hold a * hold b) = hold a * hold b := by
  have := prod_range (hold_range a) (hold_range b)
  exact wrap_small (by omega) (by omega)
theorem tdiv_range {p : Int} (h0 : -4611686014132420609 ≤ p) (h1 : p ≤ 4611686014132420609) : -70368744144896 ≤ p.tdiv 65536 ∧ p.tdiv 65536 ≤ 70368744144896 := by
  rcases Int.le_total 0 p with h | h
  · rw [Int.tdiv_eq_ediv_of_nonneg h]; omega
  · have e : p.tdiv 65536 = -((-p).tdiv 65536) := by rw [Int.neg_tdiv]; omega
    rw [e, Int.tdiv_eq_ediv_of_nonneg (by omega)]; omega
theorem mulI_eq (a b : Int) : mulI a b = hold ((hold a * hold b).tdiv 65536) := by
  unfold mulI
  have := prod_range (hold_range a) (hold_range b)
  have h2 := tdiv_range this.1 this.2
  rw [mul_wrap, wrap_small (by omega) (by omega)]
theorem addI_eq (a b : Int) : addI a b = hold (hold a + hold b) := by
  unfold addI
  have h1 := hold_range a
  have h2 := hold_range b
  rw [wrap_small (by omega) (by omega)]
theorem mulI_comm (a b : Int) : mulI a b = mulI b a := by rw [mulI_eq, mulI_eq, Int.mul_comm]
theorem addI_comm (a b : Int) : addI a b = addI b a := by rw [addI_eq, addI_eq, Int.add_comm]
theorem mulI_range (a b : Int) : -2147483647 ≤ mulI a b ∧ mulI a b ≤ 2147483647 := by rw [mulI_eq]; exact hold_range _
theorem addI_range (a b : Int) : -2147483647 ≤ addI a b ∧ addI a b ≤ 2147483647 := by rw [addI_eq]; exact hold_range _
theorem hold_mulI (a b : Int) : hold (mulI a b) = mulI a b := hold_id (mulI_range a b).1 (mulI_range a b).2
theorem hold_addI (a b : Int) : hold (addI a b) = addI a b := hold_id (addI_range a b).1 (addI_range a b).2
theorem mulI_zero (a : Int) : mulI a 0 = 0 := by rw [mulI_eq, hold_zero, Int.mul_zero]; rfl
theorem mulI_zero_left (a : Int) : mulI 0 a = 0 := by rw [mulI_comm, mulI_zero]
theorem addI_zero (a : Int) : addI a 0 = hold a := by rw [addI_eq, hold_zero, Int.add_zero, hold_hold]
theorem addI_zero_left (a : Int) : addI 0 a = hold a := by rw [addI_comm, addI_zero]
theorem mulI_one (a : Int) : mulI a 65536 = hold a := by
  rw [mulI_eq, hold_id (x := 65536) (by omega) (by omega), Int.mul_tdiv_cancel _ (by omega), hold_hold]
theorem mulI_hold_left (a b : Int) : mulI (hold a) b = mulI a b := by rw [mulI_eq, mulI_eq, hold_hold]
theorem mulI_hold_right (a b : Int) : mulI a (hold b) = mulI a b := by rw [mulI_eq, mulI_eq, hold_hold]
theorem mulI_self (a : Int) : 0 ≤ mulI a a := by
  rw [mulI_eq]
  have h : 0 ≤ hold a * hold a := by
    rcases Int.le_total 0 (hold a) with h | h
    · exact Int.mul_nonneg h h
    · rw [← Int.neg_mul_neg]; exact Int.mul_nonneg (by omega) (by omega)
  rw [Int.tdiv_eq_ediv_of_nonneg h, hold_cases]
  split
  · omega
  · split
    · omega
    · omega
theorem addF (a b : Int) : fix_Add.f a b = some (addI a b) := rfl
theorem mulF (a b : Int) : fix_Mul.f a b = some (mulI a b) := rfl
theorem holdF (a : Int) : fix_Hold.f a = some (hold a) := rfl

/-- The products of the first numbers, added. -/
def dotN (a b : List Int) : Nat → Int
  | 0 => 0
  | n + 1 => addI (dotN a b n) (mulI (rd a n) (rd b n))
theorem dotN_range (a b : List Int) (n : Nat) : -2147483647 ≤ dotN a b n ∧ dotN a b n ≤ 2147483647 := by
  cases n with
  | zero => simp [dotN]
  | succ n => exact addI_range _ _
theorem dotN_comm (a b : List Int) : ∀ n, dotN a b n = dotN b a n := by
  intro n
  induction n with
  | zero => rfl
  | succ n ih => simp only [dotN]; rw [ih, mulI_comm]
theorem dotN_congr {a b a' b' : List Int} : ∀ n : Nat, (∀ i : Nat, i < n → rd a i = rd a' i ∧ rd b i = rd b' i) → dotN a b n = dotN a' b' n := by
  intro n
  induction n with
  | zero => intro _; rfl
  | succ n ih =>
    intro h
    simp only [dotN]
    rw [ih (fun i hi => h i (by omega)), (h n (by omega)).1, (h n (by omega)).2]
theorem dot_l0 (a b : List Int) (hl : a.length = b.length) (hn : a.length ≤ 9223372036854775806) : ∀ (d i : Nat), i + d = a.length →
    Ev (fun k => vec_Dot.l0 k b (dotN a b i) a (a.length : Int) i) (dotN a b a.length, true) := by
  intro d
  induction d with
  | zero =>
    intro i hi
    have e : i = a.length := by omega
    subst e
    refine Ev.step (f := fun _ => some _) (fun k => ?_) (Ev.now _)
    simp only [vec_Dot.l0]
    rw [if_neg (by omega)]
  | succ d ih =>
    intro i hi
    have hw : wrap64 ((i : Int) + 1) = ((i + 1 : Nat) : Int) := by rw [wrap_small (by omega) (by omega)]; omega
    refine Ev.step (fun k => ?_) (ih (i + 1) (by omega))
    simp only [vec_Dot.l0, mulF, addF, Option.bind_some]
    rw [if_pos (by omega), if_pos (by omega), if_pos (by omega), if_pos (by omega), hw]
    rfl
theorem dot_ev (a b : List Int) (hl : a.length = b.length) (hn : a.length ≤ 9223372036854775806) : Ev (fun k => vec_Dot.f k a b) (dotN a b a.length, true) := by
  unfold vec_Dot.f
  simp only [if_pos (show (a.length : Int) = (b.length : Int) by omega)]
  exact dot_l0 a b hl hn a.length 0 (by omega)
theorem dot_no (a b : List Int) (hl : a.length ≠ b.length) : Ev (fun k => vec_Dot.f k a b) (0, false) := by
  unfold vec_Dot.f
  simp only [if_neg (show ¬ (a.length : Int) = (b.length : Int) by omega)]
  exact Ev.now _

theorem rdL_get {m : List (List Int)} {i : Nat} (h : i < m.length) : rd_L1 m (i : Int) = m[i] := by
  unfold rd_L1
  rw [Int.toNat_natCast, List.getD_eq_getElem?_getD, List.getElem?_eq_getElem h]
  rfl
theorem rdL_mem {m : List (List Int)} {i : Nat} (h : i < m.length) : rd_L1 m (i : Int) ∈ m := by
  rw [rdL_get h]
  exact List.getElem_mem h
/-- Rows by a row, those in order from place i on; 'none': one is not as long. -/
def applyTo (m : List (List Int)) (v : List Int) : Nat → List Int
  | 0 => []
  | n + 1 => applyTo m v n ++ [dotN (rd_L1 m (n : Int)) v v.length]
theorem applyTo_length (m : List (List Int)) (v : List Int) : ∀ n, (applyTo m v n).length = n := by
  intro n
  induction n with
  | zero => rfl
  | succ n ih => simp only [applyTo, List.length_append, ih]; rfl
theorem rd_applyTo (m : List (List Int)) (v : List Int) {n i : Nat} (h : i < n) : rd (applyTo m v n) i = dotN (rd_L1 m (i : Int)) v v.length := by
  induction n with
  | zero => omega
  | succ n ih =>
    simp only [applyTo]
    by_cases e : i < n
    · rw [rd_append_left (by omega) (by rw [applyTo_length]; omega)]
      exact ih e
    · have e' : i = n := by omega
      subst e'
      have := rd_append_right (a := applyTo m v i) (b := [dotN (rd_L1 m (i : Int)) v v.length]) (i := 0) (by omega)
      rw [applyTo_length, Int.add_zero] at this
      rw [this]
      rfl
/-- Is each row as long as v? -/
def Fit (m : List (List Int)) (v : List Int) : Prop := ∀ r ∈ m, r.length = v.length
instance (m : List (List Int)) (v : List Int) : Decidable (Fit m v) := by unfold Fit; infer_instance
theorem apply_l0 (m : List (List Int)) (v : List Int) (hm : m.length < 17592186044416) (hv : v.length ≤ 9223372036854775806) (hf : Fit m v) : ∀ (d i : Nat), i + d = m.length →
    Ev (fun k => mat_Apply.l0 k v (applyTo m v i) m (m.length : Int) i) (applyTo m v m.length, true) := by
  intro d
  induction d with
  | zero =>
    intro i hi
    have e : i = m.length := by omega
    subst e
    refine ev_shift ?_
    simp only [mat_Apply.l0, if_neg (show ¬ (m.length : Int) < (m.length : Int) by omega)]
    exact Ev.now _
  | succ d ih =>
    intro i hi
    have hw : wrap64 ((i : Int) + 1) = ((i + 1 : Nat) : Int) := by rw [wrap_small (by omega) (by omega)]; omega
    have hr := hf _ (rdL_mem (m := m) (i := i) (by omega))
    refine ev_shift ?_
    simp only [mat_Apply.l0, if_pos (show (i : Int) < (m.length : Int) by omega), if_pos (show (0 : Int) ≤ (i : Int) by omega), hw]
    refine Ev.bind (dot_ev _ v hr (by omega)) ?_
    simp only [if_true, applyTo_length, if_pos (show i < 17592186044416 by omega), hr]
    exact ih (i + 1) (by omega)
theorem apply_yes (m : List (List Int)) (v : List Int) (hm : m.length < 17592186044416) (hv : v.length ≤ 9223372036854775806) (hf : Fit m v) : Ev (fun k => mat_Apply.f k m v) (applyTo m v m.length, true) :=
  apply_l0 m v hm hv hf m.length 0 (by omega)
theorem apply_l0_no (m : List (List Int)) (v : List Int) (hm : m.length < 17592186044416) (hv : v.length ≤ 9223372036854775806) (hl : ∀ r ∈ m, r.length ≤ 9223372036854775806) : ∀ (d i : Nat), i + d = m.length → (∃ j : Nat, i ≤ j ∧ j < m.length ∧ (rd_L1 m (j : Int)).length ≠ v.length) → ∀ o : List Int, o.length = i →
    Ev (fun k => mat_Apply.l0 k v o m (m.length : Int) i) ([], false) := by
  intro d
  induction d with
  | zero =>
    intro i hi ⟨j, h1, h2, _⟩
    omega
  | succ d ih =>
    intro i hi ⟨j, h1, h2, h3⟩ o ho
    have hw : wrap64 ((i : Int) + 1) = ((i + 1 : Nat) : Int) := by rw [wrap_small (by omega) (by omega)]; omega
    have hrl := hl _ (rdL_mem (m := m) (i := i) (by omega))
    refine ev_shift ?_
    simp only [mat_Apply.l0, if_pos (show (i : Int) < (m.length : Int) by omega), if_pos (show (0 : Int) ≤ (i : Int) by omega), hw]
    by_cases hr : (rd_L1 m (i : Int)).length = v.length
    · refine Ev.bind (dot_ev _ v hr (by omega)) ?_
      simp only [if_true, ho, if_pos (show i < 17592186044416 by omega)]
      refine ih (i + 1) (by omega) ⟨j, ?_, h2, h3⟩ _ (by rw [List.length_append, ho]; rfl)
      have : i ≠ j := by intro e; subst e; exact h3 hr
      omega
    · refine Ev.bind (dot_no _ v hr) ?_
      simp only [if_neg (show ¬ (false = true) by decide)]
      exact Ev.now _
theorem not_fit {m : List (List Int)} {v : List Int} (h : ¬ Fit m v) : ∃ j : Nat, j < m.length ∧ (rd_L1 m (j : Int)).length ≠ v.length := by
  refine Classical.byContradiction fun hc => h fun r hr => ?_
  obtain ⟨j, hj, rfl⟩ := List.getElem_of_mem hr
  refine Classical.byContradiction fun hne => hc ⟨j, hj, ?_⟩
  rw [rdL_get hj]
  exact hne
theorem apply_no (m : List (List Int)) (v : List Int) (hm : m.length < 17592186044416) (hv : v.length ≤ 9223372036854775806) (hl : ∀ r ∈ m, r.length ≤ 9223372036854775806) (hf : ¬ Fit m v) : Ev (fun k => mat_Apply.f k m v) ([], false) := by
  obtain ⟨j, h1, h2⟩ := not_fit hf
  exact apply_l0_no m v hm hv hl m.length 0 (by omega) ⟨j, by omega, h1, h2⟩ [] rfl
theorem apply_ev (m : List (List Int)) (v : List Int) (hm : m.length < 17592186044416) (hv : v.length ≤ 9223372036854775806) (hl : ∀ r ∈ m, r.length ≤ 9223372036854775806) :
    Ev (fun k => mat_Apply.f k m v) (if Fit m v then (applyTo m v m.length, true) else ([], false)) := by
  by_cases h : Fit m v
  · rw [if_pos h]; exact apply_yes m v hm hv h
  · rw [if_neg h]; exact apply_no m v hm hv hl h

theorem small_j1_false (m : List (List Int)) (i : Int) : Ev (fun k => switchboardref03_Small.j1 k m i false) (decide ((m.length : Int) ≤ 30)) := by
  refine ev_shift ?_
  simp only [switchboardref03_Small.j1, if_neg (show ¬ (false = true) by decide)]
  exact Ev.now _
/-- Rows are few, and short. -/
def Few (m : List (List Int)) : Prop := m.length ≤ 30 ∧ ∀ r ∈ m, r.length ≤ 30
theorem small_l0 (m : List (List Int)) : ∀ (d i : Nat), i + d = 30 → (∀ j : Nat, j < i → j < m.length → (rd_L1 m (j : Int)).length ≤ 30) →
    ∃ b : Bool, Ev (fun k => switchboardref03_Small.l0 k m i) b ∧ (b = true → Few m) := by
  intro d
  induction d with
  | zero =>
    intro i hi hq
    by_cases h : (i : Int) < (m.length : Int)
    · refine ⟨decide ((m.length : Int) ≤ 30), ?_, ?_⟩
      · refine ev_shift ?_
        simp only [switchboardref03_Small.l0, if_pos h, decide_eq_false (show ¬ (i : Int) < 30 by omega)]
        exact small_j1_false m i
      · intro hb
        have := of_decide_eq_true hb
        omega
    · refine ⟨decide ((m.length : Int) ≤ 30), ?_, ?_⟩
      · refine ev_shift ?_
        simp only [switchboardref03_Small.l0, if_neg h]
        exact small_j1_false m i
      · intro hb
        refine ⟨by omega, fun r hr => ?_⟩
        obtain ⟨j, hj, rfl⟩ := List.getElem_of_mem hr
        have := hq j (by omega) hj
        rwa [rdL_get hj] at this
  | succ d ih =>
    intro i hi hq
    have hw : wrap64 ((i : Int) + 1) = ((i + 1 : Nat) : Int) := by rw [wrap_small (by omega) (by omega)]; omega
    by_cases h : (i : Int) < (m.length : Int)
    · by_cases h2 : ((rd_L1 m (i : Int)).length : Int) > 30
      · refine ⟨false, ?_, fun hb => by cases hb⟩
        refine ev_shift ?_
        simp only [switchboardref03_Small.l0, if_pos h, decide_eq_true (show (i : Int) < 30 by omega)]
        refine ev_shift ?_
        simp only [switchboardref03_Small.j1, if_true, if_pos (show (0 : Int) ≤ (i : Int) by omega), if_pos h, if_pos h2]
        exact Ev.now _
      · obtain ⟨b, hb, hq2⟩ := ih (i + 1) (by omega) (fun j hj hl => by
          by_cases e : j < i
          · exact hq j e hl
          · have : j = i := by omega
            subst this
            omega)
        refine ⟨b, ?_, hq2⟩
        refine ev_shift ?_
        simp only [switchboardref03_Small.l0, if_pos h, decide_eq_true (show (i : Int) < 30 by omega)]
        refine ev_shift ?_
        simp only [switchboardref03_Small.j1, if_true, if_pos (show (0 : Int) ≤ (i : Int) by omega), if_pos h, if_neg h2, hw]
        exact hb
    · refine ⟨decide ((m.length : Int) ≤ 30), ?_, ?_⟩
      · refine ev_shift ?_
        simp only [switchboardref03_Small.l0, if_neg h]
        exact small_j1_false m i
      · intro hb
        refine ⟨of_decide_eq_true hb |> fun z => by omega, fun r hr => ?_⟩
        obtain ⟨j, hj, rfl⟩ := List.getElem_of_mem hr
        have := hq j (by omega) hj
        rwa [rdL_get hj] at this
theorem small_ev (m : List (List Int)) : ∃ b : Bool, Ev (fun k => switchboardref03_Small.f k m) b ∧ (b = true → Few m) :=
  small_l0 m 30 0 (by omega) (fun j hj => by omega)

theorem awake_ev : Ev (fun k => switchboardlaw03_awake.f k) true :=
  Ev.of switchboardlaw03_awake.mono (k := 20) (by decide +kernel)
theorem awake2 : Ev (fun k => (switchboardlaw03_awake.f k).bind fun t => some t) true := Ev.bind awake_ev (Ev.now true)

theorem scale_true (m : List (List Int)) (v : List Int) (c : Int) : Ev (fun k => switchboardlaw03_MatScale.j0 k m v c true) true := by
  refine ev_shift ?_
  simp only [switchboardlaw03_MatScale.j0, if_true]
  exact awake2
theorem scale_false (m : List (List Int)) (v : List Int) (c : Int) (hm : Few m) (h0 : m.length ≠ 0) (h29 : m.length ≤ 29) (hv : v.length ≤ 30) : Ev (fun k => switchboardlaw03_MatScale.j0 k m v c false) true := by
  have hn := hm.1
  have hil : 0 < m.length := by omega
  have hmem : rd_L1 m 0 ∈ m := rdL_mem (i := 0) hil
  have hl : ∀ x ∈ m, x.length ≤ 9223372036854775806 := fun x hx => by have := hm.2 x hx; omega
  have hlm : ∀ x ∈ m ++ [rd_L1 m 0], x.length ≤ 9223372036854775806 := fun x hx => by
    rcases List.mem_append.1 hx with h | h
    · exact hl x h
    · rw [List.mem_singleton.1 h]; exact hl _ hmem
  have hlen : (m ++ [rd_L1 m 0]).length = m.length + 1 := by simp
  have hwm : wrap64 ((m.length : Int) + 1) = (m.length : Int) + 1 := wrap_small (by omega) (by omega)
  have hr : mat_Right.f (m ++ [rd_L1 m 0]) ((m.length : Int) + 1) c = mat_Right.f m (m.length : Int) c := by
    unfold mat_Right.f
    have e1 : (m ++ [rd_L1 m 0]).any (rowWrong c) = m.any (rowWrong c) := by
      rw [List.any_append]
      cases h : m.any (rowWrong c)
      · have := (List.any_eq_false.1 h) _ hmem
        simp [this]
      · simp
    rw [e1, hlen, decide_eq_true (show (((m.length + 1 : Nat)) : Int) = (m.length : Int) + 1 by omega), decide_eq_true (show (m.length : Int) = (m.length : Int) from rfl)]
  have he := apply_yes ([] : List (List Int)) v (by simp) (by omega) (fun r hr => by cases hr)
  have hfit : Fit (m ++ [rd_L1 m 0]) v ↔ Fit m v := ⟨fun h x hx => h x (List.mem_append_left _ hx), fun h x hx => by
    rcases List.mem_append.1 hx with h' | h'
    · exact h x h'
    · rw [List.mem_singleton.1 h']; exact h _ hmem⟩
  refine ev_shift ?_
  simp only [switchboardlaw03_MatScale.j0, if_neg (show ¬ (false = true) by decide), Option.bind_some, List.nil_append, List.length_nil, if_pos (show 0 + m.length < 5864062014805 by omega), if_pos (show (0 : Int) < (m.length : Int) by omega), List.length_cons, if_pos (show m.length + (0 + 1) < 5864062014805 by omega), hwm]
  refine Ev.bind he ?_
  refine Ev.bind (apply_ev m v (by omega) (by omega) hl) (Ev.bind (apply_ev (m ++ [rd_L1 m 0]) v (by rw [hlen]; omega) (by omega) hlm) ?_)
  rw [hr]
  unfold mat_Right.f
  simp only [Option.bind_some, bne_self_eq_false, if_neg (show ¬ (false = true) by decide), if_true, applyTo, List.length_nil, Int.natCast_zero]
  by_cases hf : Fit m v
  · have e1 : rd (applyTo (m ++ [rd_L1 m 0]) v (m ++ [rd_L1 m 0]).length) (m.length : Int) = rd (applyTo m v m.length) 0 := by
      rw [rd_applyTo _ _ (show m.length < (m ++ [rd_L1 m 0]).length by rw [hlen]; omega)]
      have := rd_applyTo m v (show 0 < m.length from hil)
      rw [Int.natCast_zero] at this
      rw [this]
      congr 1
      rw [rdL_get (by rw [hlen]; omega)]
      simp
    simp only [if_pos hf, if_pos (hfit.2 hf), bne_self_eq_false, if_neg (show ¬ (false = true) by decide), if_true, applyTo_length, e1, hwm]
    simp only [List.length_append, List.length_cons, List.length_nil, if_pos (show (((m.length + (0 + 1) : Nat)) : Int) = (m.length : Int) + 1 by omega), if_pos (show (0 : Int) ≤ (m.length : Int) by omega), if_pos (show (m.length : Int) < ((m.length + (0 + 1) : Nat) : Int) by omega), if_pos (show (0 : Int) < (m.length : Int) by omega)]
    exact awake2
  · have hf2 : ¬ Fit (m ++ [rd_L1 m 0]) v := fun h => hf (hfit.1 h)
    simp only [if_neg hf, if_neg hf2, bne_self_eq_false, if_neg (show ¬ (false = true) by decide)]
    exact awake2
theorem MatScale : MatScalePure := by
  intro m v c _ _ _ _ _
  refine ev_rounds ?_
  unfold switchboardlaw03_MatScale.f
  obtain ⟨b, hb, hq⟩ := small_ev m
  refine Ev.bind hb ?_
  cases b
  · simp only [if_neg (show ¬ (false = true) by decide)]
    exact scale_true m v c
  · simp only [if_true]
    by_cases h0 : (m.length : Int) = 0
    · simp only [if_pos h0]
      exact scale_true m v c
    · simp only [if_neg h0]
      by_cases h1 : (m.length : Int) > 29
      · simp only [if_pos h1]
        exact scale_true m v c
      · simp only [if_neg h1]
        by_cases h : (v.length : Int) > 30
        · simp only [decide_eq_true h]
          exact scale_true m v c
        · simp only [decide_eq_false h]
          exact scale_false m v c (hq rfl) (by omega) (by omega) (by omega)

end Go.Proofs.Ytogjmiihofddbaa.Pure
