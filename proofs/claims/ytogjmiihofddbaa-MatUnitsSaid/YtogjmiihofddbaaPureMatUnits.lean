/- Proved here: rows of one One each, at their own places, leave a row as it is, held; of noughts come noughts (every row; past 30 numbers the fixed answer alone). No condition. -/
import Derived.Test.YtogjmiihofddbaaPr5
namespace Go.Proofs.Ytogjmiihofddbaa.Pure
open Go.RowKit Go.Proofs.Ytogjmiihofddbaa.Pr Go.Proofs.YtogjmiihofddbaaW.PrintWords Go.Proofs.YtogjmiihofddbaaW.PrintLast Go.Proofs.YtogjmiihofddbaaW.PrintMore
set_option linter.unusedVariables false
set_option linter.unusedSimpArgs false

def MatUnitsPure : Prop := ∀ (l0 : List Int), l0.length ≤ maxLen → (∀ y ∈ l0, (Lit.int .i64 y).wf = true) → ∃ k, switchboardlaw03_MatUnits.f k l0 = some true

theorem wrap_small {i : Int} (h0 : -9223372036854775808 ≤ i) (h1 : i < 9223372036854775808) : wrap64 i = i := by
  unfold wrap64
  omega

theorem ev_rounds {g : Nat → Option Bool} (h : Ev g true) : ∃ k, g k = some true := h.rounds
theorem ev_shift {α : Type} {g : Nat → Option α} {r : α} (h : Ev (fun k => g (k + 1)) r) : Ev g r := Ev.step (fun _ => rfl) h

theorem rd_get {v : List Int} {i : Int} (h0 : 0 ≤ i) (h1 : i < v.length) : ∃ h : i.toNat < v.length, rd v i = v[i.toNat]'h := by
  refine ⟨by omega, ?_⟩
  unfold rd
  rw [List.getD_eq_getElem?_getD, List.getElem?_eq_getElem (by omega)]
  rfl

theorem take_rd {v : List Int} {i : Nat} (h : i < v.length) : v.take i ++ [rd v i] = v.take (i + 1) := by
  obtain ⟨h', e⟩ := rd_get (v := v) (i := (i : Int)) (by omega) (by omega)
  rw [e]
  simp only [Int.toNat_natCast]
  rw [List.take_succ_eq_append_getElem h]

theorem rd_append_left {a b : List Int} {i : Int} (h0 : 0 ≤ i) (h1 : i < a.length) : rd (a ++ b) i = rd a i := by
  unfold rd
  rw [List.getD_eq_getElem?_getD, List.getD_eq_getElem?_getD, List.getElem?_append_left (by omega)]

theorem rd_append_right {a b : List Int} {i : Int} (h0 : 0 ≤ i) : rd (a ++ b) ((a.length : Int) + i) = rd b i := by
  unfold rd
  rw [List.getD_eq_getElem?_getD, List.getD_eq_getElem?_getD, List.getElem?_append_right (by omega)]
  congr 2
  omega

theorem rd_map {v : List Int} (f : Int → Int) {i : Int} (h0 : 0 ≤ i) (h1 : i < v.length) : rd (v.map f) i = f (rd v i) := by
  obtain ⟨h, e⟩ := rd_get h0 h1
  obtain ⟨h', e'⟩ := rd_get (v := v.map f) h0 (by simpa using h1)
  rw [e, e']
  simp

theorem rd_mem {v : List Int} {i : Int} (h0 : 0 ≤ i) (h1 : i < v.length) : rd v i ∈ v := by
  obtain ⟨h, e⟩ := rd_get h0 h1
  rw [e]
  exact List.getElem_mem h

def hold (x : Int) : Int := mx (-2147483647) (mn 2147483647 x)
def addI (a b : Int) : Int := hold (wrap64 (hold a + hold b))
def mulI (a b : Int) : Int := hold (wrap64 (Int.tdiv (wrap64 (hold a * hold b)) 65536))

theorem hold_range (x : Int) : -2147483647 ≤ hold x ∧ hold x ≤ 2147483647 := by
  unfold hold mx mn
  split <;> split <;> omega
theorem hold_id {x : Int} (h0 : -2147483647 ≤ x) (h1 : x ≤ 2147483647) : hold x = x := by
  unfold hold mx mn
  split <;> split <;> omega
theorem hold_hold (x : Int) : hold (hold x) = hold x := hold_id (hold_range x).1 (hold_range x).2
theorem hold_cases (x : Int) : hold x = if x > 2147483647 then 2147483647 else if x < -2147483647 then -2147483647 else x := by
  unfold hold mx mn
  split <;> split <;> split <;> first | omega | (split <;> omega)
theorem hold_zero : hold 0 = 0 := by decide

theorem prod_range {x y : Int} (hx : -2147483647 ≤ x ∧ x ≤ 2147483647) (hy : -2147483647 ≤ y ∧ y ≤ 2147483647) : -4611686014132420609 ≤ x * y ∧ x * y ≤ 4611686014132420609 := by
  have h1 : x.natAbs ≤ 2147483647 := by omega
  have h2 : y.natAbs ≤ 2147483647 := by omega
  have h3 : (x * y).natAbs ≤ 2147483647 * 2147483647 := by rw [Int.natAbs_mul]; exact Nat.mul_le_mul h1 h2
  omega
theorem mul_wrap (a b : Int) : wrap64 (hold a * hold b) = hold a * hold b := by
  have := prod_range (hold_range a) (hold_range b)
  exact wrap_small (by omega) (by omega)
theorem tdiv_range {p : Int} (h0 : -4611686014132420609 ≤ p) (h1 : p ≤ 4611686014132420609) : -70368744144896 ≤ p.tdiv 65536 ∧ p.tdiv 65536 ≤ 70368744144896 := by
  rcases Int.le_total 0 p with h | h
  · rw [Int.tdiv_eq_ediv_of_nonneg h]; omega
  · have e : p.tdiv 65536 = -((-p).tdiv 65536) := by rw [Int.neg_tdiv]; omega
    rw [e, Int.tdiv_eq_ediv_of_nonneg (by omega)]; omega
theorem mulI_eq (a b : Int) : mulI a b = hold ((hold a * hold b).tdiv 65536) := by
  unfold mulI
  have := prod_range (hold_range a) (hold_range b)
  have h2 := tdiv_range this.1 this.2
  rw [mul_wrap, wrap_small (by omega) (by omega)]
theorem addI_eq (a b : Int) : addI a b = hold (hold a + hold b) := by
  unfold addI
  have h1 := hold_range a
  have h2 := hold_range b
  rw [wrap_small (by omega) (by omega)]
theorem mulI_comm (a b : Int) : mulI a b = mulI b a := by rw [mulI_eq, mulI_eq, Int.mul_comm]
theorem addI_comm (a b : Int) : addI a b = addI b a := by rw [addI_eq, addI_eq, Int.add_comm]
theorem mulI_range (a b : Int) : -2147483647 ≤ mulI a b ∧ mulI a b ≤ 2147483647 := by rw [mulI_eq]; exact hold_range _
theorem addI_range (a b : Int) : -2147483647 ≤ addI a b ∧ addI a b ≤ 2147483647 := by rw [addI_eq]; exact hold_range _
theorem hold_mulI (a b : Int) : hold (mulI a b) = mulI a b := hold_id (mulI_range a b).1 (mulI_range a b).2
theorem hold_addI (a b : Int) : hold (addI a b) = addI a b := hold_id (addI_range a b).1 (addI_range a b).2
theorem mulI_zero (a : Int) : mulI a 0 = 0 := by rw [mulI_eq, hold_zero, Int.mul_zero]; rfl
theorem mulI_zero_left (a : Int) : mulI 0 a = 0 := by rw [mulI_comm, mulI_zero]
theorem addI_zero (a : Int) : addI a 0 = hold a := by rw [addI_eq, hold_zero, Int.add_zero, hold_hold]
theorem addI_zero_left (a : Int) : addI 0 a = hold a := by rw [addI_comm, addI_zero]
theorem mulI_one (a : Int) : mulI a 65536 = hold a := by
  rw [mulI_eq, hold_id (x := 65536) (by omega) (by omega), Int.mul_tdiv_cancel _ (by omega), hold_hold]
theorem mulI_hold_left (a b : Int) : mulI (hold a) b = mulI a b := by rw [mulI_eq, mulI_eq, hold_hold]
theorem mulI_hold_right (a b : Int) : mulI a (hold b) = mulI a b := by rw [mulI_eq, mulI_eq, hold_hold]
theorem mulI_self (a : Int) : 0 ≤ mulI a a := by
  rw [mulI_eq]
  have h : 0 ≤ hold a * hold a := by
    rcases Int.le_total 0 (hold a) with h | h
    · exact Int.mul_nonneg h h
    · rw [← Int.neg_mul_neg]; exact Int.mul_nonneg (by omega) (by omega)
  rw [Int.tdiv_eq_ediv_of_nonneg h, hold_cases]
  split
  · omega
  · split
    · omega
    · omega
theorem addF (a b : Int) : fix_Add.f a b = some (addI a b) := rfl
theorem mulF (a b : Int) : fix_Mul.f a b = some (mulI a b) := rfl
theorem holdF (a : Int) : fix_Hold.f a = some (hold a) := rfl

/-- The products of the first numbers, added. -/
def dotN (a b : List Int) : Nat → Int
  | 0 => 0
  | n + 1 => addI (dotN a b n) (mulI (rd a n) (rd b n))
theorem dotN_range (a b : List Int) (n : Nat) : -2147483647 ≤ dotN a b n ∧ dotN a b n ≤ 2147483647 := by
  cases n with
  | zero => simp [dotN]
  | succ n => exact addI_range _ _
theorem dotN_comm (a b : List Int) : ∀ n, dotN a b n = dotN b a n := by
  intro n
  induction n with
  | zero => rfl
  | succ n ih => simp only [dotN]; rw [ih, mulI_comm]
theorem dotN_congr {a b a' b' : List Int} : ∀ n : Nat, (∀ i : Nat, i < n → rd a i = rd a' i ∧ rd b i = rd b' i) → dotN a b n = dotN a' b' n := by
  intro n
  induction n with
  | zero => intro _; rfl
  | succ n ih =>
    intro h
    simp only [dotN]
    rw [ih (fun i hi => h i (by omega)), (h n (by omega)).1, (h n (by omega)).2]
theorem dot_l0 (a b : List Int) (hl : a.length = b.length) (hn : a.length ≤ 9223372036854775806) : ∀ (d i : Nat), i + d = a.length →
    Ev (fun k => vec_Dot.l0 k b (dotN a b i) a (a.length : Int) i) (dotN a b a.length, true) := by
  intro d
  induction d with
  | zero =>
    intro i hi
    have e : i = a.length := by omega
    subst e
    refine Ev.step (f := fun _ => some _) (fun k => ?_) (Ev.now _)
    simp only [vec_Dot.l0]
    rw [if_neg (by omega)]
  | succ d ih =>
    intro i hi
    have hw : wrap64 ((i : Int) + 1) = ((i + 1 : Nat) : Int) := by rw [wrap_small (by omega) (by omega)]; omega
    refine Ev.step (fun k => ?_) (ih (i + 1) (by omega))
    simp only [vec_Dot.l0, mulF, addF, Option.bind_some]
    rw [if_pos (by omega), if_pos (by omega), if_pos (by omega), if_pos (by omega), hw]
    rfl
theorem dot_ev (a b : List Int) (hl : a.length = b.length) (hn : a.length ≤ 9223372036854775806) : Ev (fun k => vec_Dot.f k a b) (dotN a b a.length, true) := by
  unfold vec_Dot.f
  simp only [if_pos (show (a.length : Int) = (b.length : Int) by omega)]
  exact dot_l0 a b hl hn a.length 0 (by omega)
theorem dot_no (a b : List Int) (hl : a.length ≠ b.length) : Ev (fun k => vec_Dot.f k a b) (0, false) := by
  unfold vec_Dot.f
  simp only [if_neg (show ¬ (a.length : Int) = (b.length : Int) by omega)]
  exact Ev.now _

theorem rd_ext {a b : List Int} (hl : a.length = b.length) (h : ∀ i : Nat, i < a.length → rd a i = rd b i) : a = b := by
  refine List.ext_getElem hl fun i h1 h2 => ?_
  obtain ⟨_, e⟩ := rd_get (v := a) (i := (i : Int)) (by omega) (by omega)
  obtain ⟨_, e'⟩ := rd_get (v := b) (i := (i : Int)) (by omega) (by omega)
  have := h i h1
  rw [e, e'] at this
  simpa using this
theorem same_l0 (a : List Int) (hn : a.length ≤ 9223372036854775806) : ∀ (d i : Nat), i + d = a.length →
    Ev (fun k => switchboardref02_Same.l0 k a a i) true := by
  intro d
  induction d with
  | zero =>
    intro i hi
    refine Ev.step (f := fun _ => some _) (fun k => ?_) (Ev.now _)
    simp only [switchboardref02_Same.l0]
    rw [if_neg (by omega)]
  | succ d ih =>
    intro i hi
    have hw : wrap64 ((i : Int) + 1) = ((i + 1 : Nat) : Int) := by rw [wrap_small (by omega) (by omega)]; omega
    refine Ev.step (fun k => ?_) (ih (i + 1) (by omega))
    simp only [switchboardref02_Same.l0, if_true]
    rw [if_pos (by omega), if_pos (by omega), if_pos (by omega), hw]
theorem same_refl (a : List Int) (hn : a.length ≤ 9223372036854775806) : Ev (fun k => switchboardref02_Same.f k a a) true := by
  unfold switchboardref02_Same.f
  simp only [if_true]
  exact same_l0 a hn a.length 0 (by omega)
theorem same_ev {a b : List Int} (h : a = b) (hn : a.length ≤ 9223372036854775806) : Ev (fun k => switchboardref02_Same.f k a b) true := by
  subst h
  exact same_refl a hn

theorem rd_replicate (n : Nat) {i : Nat} (h : i < n) : rd (List.replicate n 0) i = 0 := by
  unfold rd
  rw [List.getD_eq_getElem?_getD, Int.toNat_natCast, List.getElem?_replicate, if_pos h]
  rfl
theorem dotN_zero_right (a b : List Int) : ∀ n : Nat, (∀ i : Nat, i < n → rd b i = 0) → dotN a b n = 0 := by
  intro n
  induction n with
  | zero => intro _; rfl
  | succ n ih =>
    intro h
    simp only [dotN]
    rw [ih (fun i hi => h i (by omega)), h n (by omega), mulI_zero, addI_zero]
    rfl

theorem rd_set {l : List Int} {j : Nat} (x : Int) {i : Nat} (hj : j < l.length) : rd (l.set j x) i = if i = j then x else rd l i := by
  unfold rd
  rw [List.getD_eq_getElem?_getD, List.getD_eq_getElem?_getD, Int.toNat_natCast, List.getElem?_set]
  by_cases h : j = i
  · subst h
    simp [hj]
  · rw [if_neg h, if_neg (fun e => h e.symm)]
theorem dotN_one (a b : List Int) (j : Nat) : ∀ n : Nat, (∀ i : Nat, i < n → rd b i = if i = j then 65536 else 0) → dotN a b n = if j < n then hold (rd a j) else 0 := by
  intro n
  induction n with
  | zero => intro _; simp [dotN]
  | succ n ih =>
    intro h
    simp only [dotN]
    rw [ih (fun i hi => h i (by omega)), h n (by omega)]
    by_cases e : n = j
    · subst e
      rw [if_neg (by omega), if_pos rfl, if_pos (by omega), mulI_one, addI_zero_left, hold_hold]
    · rw [if_neg e, mulI_zero, addI_zero]
      by_cases e2 : j < n
      · rw [if_pos e2, if_pos (by omega), hold_hold]
      · rw [if_neg e2, if_neg (by omega)]
        decide

theorem rdL_get {m : List (List Int)} {i : Nat} (h : i < m.length) : rd_L1 m (i : Int) = m[i] := by
  unfold rd_L1
  rw [Int.toNat_natCast, List.getD_eq_getElem?_getD, List.getElem?_eq_getElem h]
  rfl
theorem rdL_mem {m : List (List Int)} {i : Nat} (h : i < m.length) : rd_L1 m (i : Int) ∈ m := by
  rw [rdL_get h]
  exact List.getElem_mem h
/-- Rows by a row, those in order from place i on; 'none': one is not as long. -/
def applyTo (m : List (List Int)) (v : List Int) : Nat → List Int
  | 0 => []
  | n + 1 => applyTo m v n ++ [dotN (rd_L1 m (n : Int)) v v.length]
theorem applyTo_length (m : List (List Int)) (v : List Int) : ∀ n, (applyTo m v n).length = n := by
  intro n
  induction n with
  | zero => rfl
  | succ n ih => simp only [applyTo, List.length_append, ih]; rfl
theorem rd_applyTo (m : List (List Int)) (v : List Int) {n i : Nat} (h : i < n) : rd (applyTo m v n) i = dotN (rd_L1 m (i : Int)) v v.length := by
  induction n with
  | zero => omega
  | succ n ih =>
    simp only [applyTo]
    by_cases e : i < n
    · rw [rd_append_left (by omega) (by rw [applyTo_length]; omega)]
      exact ih e
    · have e' : i = n := by omega
      subst e'
      have := rd_append_right (a := applyTo m v i) (b := [dotN (rd_L1 m (i : Int)) v v.length]) (i := 0) (by omega)
      rw [applyTo_length, Int.add_zero] at this
      rw [this]
      rfl
/-- Is each row as long as v? -/
def Fit (m : List (List Int)) (v : List Int) : Prop := ∀ r ∈ m, r.length = v.length
instance (m : List (List Int)) (v : List Int) : Decidable (Fit m v) := by unfold Fit; infer_instance
theorem apply_l0 (m : List (List Int)) (v : List Int) (hm : m.length < 17592186044416) (hv : v.length ≤ 9223372036854775806) (hf : Fit m v) : ∀ (d i : Nat), i + d = m.length →
    Ev (fun k => mat_Apply.l0 k v (applyTo m v i) m (m.length : Int) i) (applyTo m v m.length, true) := by
  intro d
  induction d with
  | zero =>
    intro i hi
    have e : i = m.length := by omega
    subst e
    refine ev_shift ?_
    simp only [mat_Apply.l0, if_neg (show ¬ (m.length : Int) < (m.length : Int) by omega)]
    exact Ev.now _
  | succ d ih =>
    intro i hi
    have hw : wrap64 ((i : Int) + 1) = ((i + 1 : Nat) : Int) := by rw [wrap_small (by omega) (by omega)]; omega
    have hr := hf _ (rdL_mem (m := m) (i := i) (by omega))
    refine ev_shift ?_
    simp only [mat_Apply.l0, if_pos (show (i : Int) < (m.length : Int) by omega), if_pos (show (0 : Int) ≤ (i : Int) by omega), hw]
    refine Ev.bind (dot_ev _ v hr (by omega)) ?_
    simp only [if_true, applyTo_length, if_pos (show i < 17592186044416 by omega), hr]
    exact ih (i + 1) (by omega)
theorem apply_yes (m : List (List Int)) (v : List Int) (hm : m.length < 17592186044416) (hv : v.length ≤ 9223372036854775806) (hf : Fit m v) : Ev (fun k => mat_Apply.f k m v) (applyTo m v m.length, true) :=
  apply_l0 m v hm hv hf m.length 0 (by omega)
theorem apply_l0_no (m : List (List Int)) (v : List Int) (hm : m.length < 17592186044416) (hv : v.length ≤ 9223372036854775806) (hl : ∀ r ∈ m, r.length ≤ 9223372036854775806) : ∀ (d i : Nat), i + d = m.length → (∃ j : Nat, i ≤ j ∧ j < m.length ∧ (rd_L1 m (j : Int)).length ≠ v.length) → ∀ o : List Int, o.length = i →
    Ev (fun k => mat_Apply.l0 k v o m (m.length : Int) i) ([], false) := by
  intro d
  induction d with
  | zero =>
    intro i hi ⟨j, h1, h2, _⟩
    omega
  | succ d ih =>
    intro i hi ⟨j, h1, h2, h3⟩ o ho
    have hw : wrap64 ((i : Int) + 1) = ((i + 1 : Nat) : Int) := by rw [wrap_small (by omega) (by omega)]; omega
    have hrl := hl _ (rdL_mem (m := m) (i := i) (by omega))
    refine ev_shift ?_
    simp only [mat_Apply.l0, if_pos (show (i : Int) < (m.length : Int) by omega), if_pos (show (0 : Int) ≤ (i : Int) by omega), hw]
    by_cases hr : (rd_L1 m (i : Int)).length = v.length
    · refine Ev.bind (dot_ev _ v hr (by omega)) ?_
      simp only [if_true, ho, if_pos (show i < 17592186044416 by omega)]
      refine ih (i + 1) (by omega) ⟨j, ?_, h2, h3⟩ _ (by rw [List.length_append, ho]; rfl)
      have : i ≠ j := by intro e; subst e; exact h3 hr
      omega
    · refine Ev.bind (dot_no _ v hr) ?_
      simp only [if_neg (show ¬ (false = true) by decide)]
      exact Ev.now _
theorem not_fit {m : List (List Int)} {v : List Int} (h : ¬ Fit m v) : ∃ j : Nat, j < m.length ∧ (rd_L1 m (j : Int)).length ≠ v.length := by
  refine Classical.byContradiction fun hc => h fun r hr => ?_
  obtain ⟨j, hj, rfl⟩ := List.getElem_of_mem hr
  refine Classical.byContradiction fun hne => hc ⟨j, hj, ?_⟩
  rw [rdL_get hj]
  exact hne
theorem apply_no (m : List (List Int)) (v : List Int) (hm : m.length < 17592186044416) (hv : v.length ≤ 9223372036854775806) (hl : ∀ r ∈ m, r.length ≤ 9223372036854775806) (hf : ¬ Fit m v) : Ev (fun k => mat_Apply.f k m v) ([], false) := by
  obtain ⟨j, h1, h2⟩ := not_fit hf
  exact apply_l0_no m v hm hv hl m.length 0 (by omega) ⟨j, by omega, h1, h2⟩ [] rfl
theorem apply_ev (m : List (List Int)) (v : List Int) (hm : m.length < 17592186044416) (hv : v.length ≤ 9223372036854775806) (hl : ∀ r ∈ m, r.length ≤ 9223372036854775806) :
    Ev (fun k => mat_Apply.f k m v) (if Fit m v then (applyTo m v m.length, true) else ([], false)) := by
  by_cases h : Fit m v
  · rw [if_pos h]; exact apply_yes m v hm hv h
  · rw [if_neg h]; exact apply_no m v hm hv hl h

theorem notHeld_eq (x : Int) : notHeld x = (decide (x > 2147483647) || decide (x < -2147483647)) := by
  unfold notHeld holdR mx mn
  rw [Bool.eq_iff_iff]
  simp only [decide_eq_true_eq, Bool.or_eq_true]
  split <;> split <;> omega

theorem awake_ev : Ev (fun k => switchboardlaw03_awake.f k) true :=
  Ev.of switchboardlaw03_awake.mono (k := 20) (by decide +kernel)
theorem awake2 : Ev (fun k => (switchboardlaw03_awake.f k).bind fun t => some t) true := Ev.bind awake_ev (Ev.now true)

/-- The row of one One, at a place. -/
def unitRow (n i : Nat) : List Int := (List.replicate n 0).set i 65536
def unitTo (n : Nat) : Nat → List (List Int)
  | 0 => []
  | i + 1 => unitTo n i ++ [unitRow n i]
theorem unitTo_length (n : Nat) : ∀ i, (unitTo n i).length = i := by
  intro i
  induction i with
  | zero => rfl
  | succ i ih => simp only [unitTo, List.length_append, ih]; rfl
theorem unitRow_length (n i : Nat) : (unitRow n i).length = n := by simp [unitRow]
theorem rd_unitRow {n i j : Nat} (hi : i < n) (hj : j < n) : rd (unitRow n i) (j : Int) = if j = i then 65536 else 0 := by
  unfold unitRow
  rw [rd_set _ (by simpa using hi), rd_replicate _ hj]
theorem unitTo_get (n : Nat) : ∀ (k i : Nat), i < k → rd_L1 (unitTo n k) (i : Int) = unitRow n i := by
  intro k
  induction k with
  | zero => intro i h; omega
  | succ k ih =>
    intro i h
    rw [rdL_get (by rw [unitTo_length]; exact h)]
    simp only [unitTo]
    by_cases e : i < k
    · rw [List.getElem_append_left (by rw [unitTo_length]; exact e), ← rdL_get]
      exact ih i e
    · have : i = k := by omega
      subst this
      rw [List.getElem_append_right (by rw [unitTo_length]; omega)]
      simp [unitTo_length]
theorem unitTo_mem {n k : Nat} {r : List Int} (h : r ∈ unitTo n k) : ∃ i, i < k ∧ r = unitRow n i := by
  obtain ⟨i, hi, rfl⟩ := List.getElem_of_mem h
  rw [unitTo_length] at hi
  exact ⟨i, hi, by rw [← rdL_get, unitTo_get n k i hi]⟩
theorem unit_right (n : Nat) : (unitTo n n).any (rowWrong (n : Int)) = false := by
  rw [List.any_eq_false]
  intro r hr
  obtain ⟨i, hi, rfl⟩ := unitTo_mem hr
  unfold rowWrong
  rw [unitRow_length]
  simp only [not_true, decide_false, Bool.false_or, Bool.not_eq_true]
  rw [List.any_eq_false]
  intro x hx
  obtain ⟨j, hj, rfl⟩ := List.getElem_of_mem hx
  rw [unitRow_length] at hj
  have e := rd_unitRow hi hj
  obtain ⟨_, e2⟩ := rd_get (v := unitRow n i) (i := (j : Int)) (by omega) (by rw [unitRow_length]; omega)
  rw [e2] at e
  simp only [Int.toNat_natCast] at e
  rw [e, notHeld_eq]
  split <;> decide
theorem unit_apply (v z : List Int) (hz : ∀ i : Nat, i < v.length → rd z i = hold (rd v i)) (hl : z.length = v.length) : applyTo (unitTo v.length v.length) v v.length = z := by
  refine rd_ext (by rw [applyTo_length, hl]) fun i hi => ?_
  rw [applyTo_length] at hi
  rw [rd_applyTo _ _ hi, unitTo_get _ _ _ hi, dotN_comm, dotN_one v _ i v.length (fun j hj => rd_unitRow hi hj), if_pos hi]
  exact (hz i hi).symm
theorem units_l1 (v l z : List Int) (hn : v.length ≤ 30) (hl : l.length = v.length) (hz : z.length = v.length) (h1 : ∀ i : Nat, i < v.length → rd l i = hold (rd v i)) (h2 : ∀ i : Nat, i < v.length → rd z i = 0) : ∀ (d i : Nat), i + d = v.length →
    Ev (fun k => switchboardlaw03_MatUnits.l1 k l z v (v.length : Int) i) true := by
  intro d
  induction d with
  | zero =>
    intro i hi
    refine ev_shift ?_
    simp only [switchboardlaw03_MatUnits.l1, if_neg (show ¬ (i : Int) < (v.length : Int) by omega)]
    exact awake2
  | succ d ih =>
    intro i hi
    have hw : wrap64 ((i : Int) + 1) = ((i + 1 : Nat) : Int) := by rw [wrap_small (by omega) (by omega)]; omega
    have e : rd l (i : Int) = mx (mn (rd v (i : Int)) 2147483647) (-2147483647) := by
      rw [h1 i (by omega), hold_cases]
      unfold mx mn
      (repeat' split) <;> omega
    refine ev_shift ?_
    simp only [switchboardlaw03_MatUnits.l1, if_pos (show (i : Int) < (v.length : Int) by omega), if_pos (show (0 : Int) ≤ (i : Int) by omega), if_pos (show (i : Int) < (l.length : Int) by omega), if_pos e, if_pos (show (i : Int) < (z.length : Int) by omega), h2 i (by omega), if_true, hw]
    exact ih (i + 1) (by omega)
theorem units_end (v : List Int) (hn : v.length ≤ 30) : Ev (fun k => switchboardlaw03_MatUnits.l0 k v (unitTo v.length v.length) (v.length : Int) (v.length : Int)) true := by
  have hf : Fit (unitTo v.length v.length) v := fun r hr => by obtain ⟨i, _, rfl⟩ := unitTo_mem hr; exact unitRow_length _ _
  have hzl : (List.replicate v.length (0 : Int)).length = v.length := by simp
  have hf2 : Fit (unitTo v.length v.length) (List.replicate v.length (0 : Int)) := fun r hr => by rw [hzl]; exact hf r hr
  have e1 := apply_yes (unitTo v.length v.length) v (by rw [unitTo_length]; omega) (by omega) hf
  have e2 := apply_yes (unitTo v.length v.length) (List.replicate v.length (0 : Int)) (by rw [unitTo_length]; omega) (by rw [hzl]; omega) hf2
  have q1 : ∀ i : Nat, i < v.length → rd (applyTo (unitTo v.length v.length) v v.length) i = hold (rd v i) := fun i hi => by
    rw [rd_applyTo _ _ hi, unitTo_get _ _ _ hi, dotN_comm, dotN_one v _ i v.length (fun j hj => rd_unitRow hi hj), if_pos hi]
  have q2 : ∀ i : Nat, i < v.length → rd (applyTo (unitTo v.length v.length) (List.replicate v.length (0 : Int)) v.length) i = 0 := fun i hi => by
    rw [rd_applyTo _ _ hi, hzl]
    exact dotN_zero_right _ _ _ (fun j hj => rd_replicate _ hj)
  have hr : mat_Right.f (unitTo v.length v.length) (v.length : Int) (v.length : Int) = some true := by
    unfold mat_Right.f
    rw [unitTo_length, unit_right]
    simp
  rw [unitTo_length] at e1 e2
  refine ev_shift ?_
  simp only [switchboardlaw03_MatUnits.l0, if_neg (show ¬ (v.length : Int) < (v.length : Int) by omega), if_pos (show (0 : Int) ≤ (v.length : Int) by omega), Int.toNat_natCast, if_pos (show v.length ≤ 35184372088832 by omega)]
  refine Ev.bind e1 (Ev.bind e2 ?_)
  simp only [applyTo_length, if_true, hr, Option.bind_some, Bool.not_true]
  refine ev_shift ?_
  simp only [switchboardlaw03_MatUnits.j1, if_neg (show ¬ (false = true) by decide)]
  exact units_l1 v _ _ hn (applyTo_length _ _ _) (applyTo_length _ _ _) q1 q2 v.length 0 (by omega)
theorem units_l0 (v : List Int) (hn : v.length ≤ 30) : ∀ (d i : Nat), i + d = v.length → Ev (fun k => switchboardlaw03_MatUnits.l0 k v (unitTo v.length i) (v.length : Int) i) true := by
  intro d
  induction d with
  | zero =>
    intro i hi
    have e : i = v.length := by omega
    subst e
    exact units_end v hn
  | succ d ih =>
    intro i hi
    have hw : wrap64 ((i : Int) + 1) = ((i + 1 : Nat) : Int) := by rw [wrap_small (by omega) (by omega)]; omega
    refine ev_shift ?_
    simp only [switchboardlaw03_MatUnits.l0, if_pos (show (i : Int) < (v.length : Int) by omega), if_pos (show (0 : Int) ≤ (v.length : Int) by omega), Int.toNat_natCast, if_pos (show v.length ≤ 35184372088832 by omega), Option.bind_some, if_pos (show (0 : Int) ≤ (i : Int) by omega),
      List.length_replicate, unitTo_length, if_pos (show i < 5864062014805 by omega), hw]
    exact ih (i + 1) (by omega)
theorem MatUnits : MatUnitsPure := by
  intro v _ _
  refine ev_rounds ?_
  unfold switchboardlaw03_MatUnits.f
  by_cases h : (v.length : Int) > 30
  · simp only [if_pos h]
    exact awake2
  · simp only [if_neg h]
    exact units_l0 v (by omega) v.length 0 (by omega)

end Go.Proofs.Ytogjmiihofddbaa.Pure
