/- Proved here: an expert whose In and Out are two experts side by side makes what both make, added (all five 32 bit numbers). No condition. -/
import Derived.Test.YtegjdddpojgplaaPr7
namespace Go.Proofs.Ytegjdddpojgplaa.Pure
open Go.RowKit Go.Proofs.Ytegjdddpojgplaa.Pr Go.Proofs.YtegjdddpojgplaaW.PrintWords Go.Proofs.YtegjdddpojgplaaW.PrintLast Go.Proofs.YtegjdddpojgplaaW.PrintMore
set_option linter.unusedVariables false
set_option linter.unusedSimpArgs false

def ExpertJoinsPure : Prop := ∀ (a0 : Int) (a1 : Int) (a2 : Int) (a3 : Int) (a4 : Int), (Lit.int .i32 a0).wf = true → (Lit.int .i32 a1).wf = true → (Lit.int .i32 a2).wf = true → (Lit.int .i32 a3).wf = true → (Lit.int .i32 a4).wf = true → ∃ k, switchboardlaw11_ExpertJoins.f k a0 a1 a2 a3 a4 = some true

theorem wrap_small {i : Int} (h0 : -9223372036854775808 ≤ i) (h1 : i < 9223372036854775808) : wrap64 i = i := by
  unfold wrap64
  omega

theorem ev_rounds {g : Nat → Option Bool} (h : Ev g true) : ∃ k, g k = some true := h.rounds
theorem ev_shift {α : Type} {g : Nat → Option α} {r : α} (h : Ev (fun k => g (k + 1)) r) : Ev g r := Ev.step (fun _ => rfl) h

theorem rd_get {v : List Int} {i : Int} (h0 : 0 ≤ i) (h1 : i < v.length) : ∃ h : i.toNat < v.length, rd v i = v[i.toNat]'h := by
  refine ⟨by omega, ?_⟩
  unfold rd
  rw [List.getD_eq_getElem?_getD, List.getElem?_eq_getElem (by omega)]
  rfl

theorem take_rd {v : List Int} {i : Nat} (h : i < v.length) : v.take i ++ [rd v i] = v.take (i + 1) := by
  obtain ⟨h', e⟩ := rd_get (v := v) (i := (i : Int)) (by omega) (by omega)
  rw [e]
  simp only [Int.toNat_natCast]
  rw [List.take_succ_eq_append_getElem h]

theorem rd_append_left {a b : List Int} {i : Int} (h0 : 0 ≤ i) (h1 : i < a.length) : rd (a ++ b) i = rd a i := by
  unfold rd
  rw [List.getD_eq_getElem?_getD, List.getD_eq_getElem?_getD, List.getElem?_append_left (by omega)]

theorem rd_append_right {a b : List Int} {i : Int} (h0 : 0 ≤ i) : rd (a ++ b) ((a.length : Int) + i) = rd b i := by
  unfold rd
  rw [List.getD_eq_getElem?_getD, List.getD_eq_getElem?_getD, List.getElem?_append_right (by omega)]
  congr 2
  omega

theorem rd_map {v : List Int} (f : Int → Int) {i : Int} (h0 : 0 ≤ i) (h1 : i < v.length) : rd (v.map f) i = f (rd v i) := by
  obtain ⟨h, e⟩ := rd_get h0 h1
  obtain ⟨h', e'⟩ := rd_get (v := v.map f) h0 (by simpa using h1)
  rw [e, e']
  simp

theorem rd_mem {v : List Int} {i : Int} (h0 : 0 ≤ i) (h1 : i < v.length) : rd v i ∈ v := by
  obtain ⟨h, e⟩ := rd_get h0 h1
  rw [e]
  exact List.getElem_mem h

theorem hold_range (x : Int) : -2147483647 ≤ hold x ∧ hold x ≤ 2147483647 := by
  unfold hold mx mn
  split <;> split <;> omega
theorem hold_id {x : Int} (h0 : -2147483647 ≤ x) (h1 : x ≤ 2147483647) : hold x = x := by
  unfold hold mx mn
  split <;> split <;> omega
theorem hold_hold (x : Int) : hold (hold x) = hold x := hold_id (hold_range x).1 (hold_range x).2
theorem hold_cases (x : Int) : hold x = if x > 2147483647 then 2147483647 else if x < -2147483647 then -2147483647 else x := by
  unfold hold mx mn
  split <;> split <;> split <;> first | omega | (split <;> omega)
theorem hold_zero : hold 0 = 0 := by decide

theorem prod_range {x y : Int} (hx : -2147483647 ≤ x ∧ x ≤ 2147483647) (hy : -2147483647 ≤ y ∧ y ≤ 2147483647) : -4611686014132420609 ≤ x * y ∧ x * y ≤ 4611686014132420609 := by
  have h1 : x.natAbs ≤ 2147483647 := by omega
  have h2 : y.natAbs ≤ 2147483647 := by omega
  have h3 : (x * y).natAbs ≤ 2147483647 * 2147483647 := by rw [Int.natAbs_mul]; exact Nat.mul_le_mul h1 h2
  omega
theorem mul_wrap (a b : Int) : wrap64 (hold a * hold b) = hold a * hold b := by
  have := prod_range (hold_range a) (hold_range b)
  exact wrap_small (by omega) (by omega)
theorem tdiv_range {p : Int} (h0 : -4611686014132420609 ≤ p) (h1 : p ≤ 4611686014132420609) : -70368744144896 ≤ p.tdiv 65536 ∧ p.tdiv 65536 ≤ 70368744144896 := by
  rcases Int.le_total 0 p with h | h
  · rw [Int.tdiv_eq_ediv_of_nonneg h]; omega
  · have e : p.tdiv 65536 = -((-p).tdiv 65536) := by rw [Int.neg_tdiv]; omega
    rw [e, Int.tdiv_eq_ediv_of_nonneg (by omega)]; omega
theorem mulI_eq (a b : Int) : mulI a b = hold ((hold a * hold b).tdiv 65536) := by
  unfold mulI
  have := prod_range (hold_range a) (hold_range b)
  have h2 := tdiv_range this.1 this.2
  rw [mul_wrap, wrap_small (by omega) (by omega)]
theorem addI_eq (a b : Int) : addI a b = hold (hold a + hold b) := by
  unfold addI
  have h1 := hold_range a
  have h2 := hold_range b
  rw [wrap_small (by omega) (by omega)]
theorem mulI_comm (a b : Int) : mulI a b = mulI b a := by rw [mulI_eq, mulI_eq, Int.mul_comm]
theorem addI_comm (a b : Int) : addI a b = addI b a := by rw [addI_eq, addI_eq, Int.add_comm]
theorem mulI_range (a b : Int) : -2147483647 ≤ mulI a b ∧ mulI a b ≤ 2147483647 := by rw [mulI_eq]; exact hold_range _
theorem addI_range (a b : Int) : -2147483647 ≤ addI a b ∧ addI a b ≤ 2147483647 := by rw [addI_eq]; exact hold_range _
theorem hold_mulI (a b : Int) : hold (mulI a b) = mulI a b := hold_id (mulI_range a b).1 (mulI_range a b).2
theorem hold_addI (a b : Int) : hold (addI a b) = addI a b := hold_id (addI_range a b).1 (addI_range a b).2
theorem mulI_zero (a : Int) : mulI a 0 = 0 := by rw [mulI_eq, hold_zero, Int.mul_zero]; rfl
theorem mulI_zero_left (a : Int) : mulI 0 a = 0 := by rw [mulI_comm, mulI_zero]
theorem addI_zero (a : Int) : addI a 0 = hold a := by rw [addI_eq, hold_zero, Int.add_zero, hold_hold]
theorem addI_zero_left (a : Int) : addI 0 a = hold a := by rw [addI_comm, addI_zero]
theorem mulI_one (a : Int) : mulI a 65536 = hold a := by
  rw [mulI_eq, hold_id (x := 65536) (by omega) (by omega), Int.mul_tdiv_cancel _ (by omega), hold_hold]
theorem mulI_hold_left (a b : Int) : mulI (hold a) b = mulI a b := by rw [mulI_eq, mulI_eq, hold_hold]
theorem mulI_hold_right (a b : Int) : mulI a (hold b) = mulI a b := by rw [mulI_eq, mulI_eq, hold_hold]
theorem mulI_self (a : Int) : 0 ≤ mulI a a := by
  rw [mulI_eq]
  have h : 0 ≤ hold a * hold a := by
    rcases Int.le_total 0 (hold a) with h | h
    · exact Int.mul_nonneg h h
    · rw [← Int.neg_mul_neg]; exact Int.mul_nonneg (by omega) (by omega)
  rw [Int.tdiv_eq_ediv_of_nonneg h, hold_cases]
  split
  · omega
  · split
    · omega
    · omega
theorem addF (a b : Int) : fix_Add.f a b = some (addI a b) := rfl
theorem mulF (a b : Int) : fix_Mul.f a b = some (mulI a b) := rfl
theorem holdF (a : Int) : fix_Hold.f a = some (hold a) := rfl

/-- The products of the first numbers, added. -/
def dotN (a b : List Int) : Nat → Int
  | 0 => 0
  | n + 1 => addI (dotN a b n) (mulI (rd a n) (rd b n))
theorem dotN_range (a b : List Int) (n : Nat) : -2147483647 ≤ dotN a b n ∧ dotN a b n ≤ 2147483647 := by
  cases n with
  | zero => simp [dotN]
  | succ n => exact addI_range _ _
theorem dotN_comm (a b : List Int) : ∀ n, dotN a b n = dotN b a n := by
  intro n
  induction n with
  | zero => rfl
  | succ n ih => simp only [dotN]; rw [ih, mulI_comm]
theorem dotN_congr {a b a' b' : List Int} : ∀ n : Nat, (∀ i : Nat, i < n → rd a i = rd a' i ∧ rd b i = rd b' i) → dotN a b n = dotN a' b' n := by
  intro n
  induction n with
  | zero => intro _; rfl
  | succ n ih =>
    intro h
    simp only [dotN]
    rw [ih (fun i hi => h i (by omega)), (h n (by omega)).1, (h n (by omega)).2]
theorem dot_l0 (a b : List Int) (hl : a.length = b.length) (hn : a.length ≤ 9223372036854775806) : ∀ (d i : Nat), i + d = a.length →
    Ev (fun k => vec_Dot.l0 k b (dotN a b i) a (a.length : Int) i) (dotN a b a.length, true) := by
  intro d
  induction d with
  | zero =>
    intro i hi
    have e : i = a.length := by omega
    subst e
    refine Ev.step (f := fun _ => some _) (fun k => ?_) (Ev.now _)
    simp only [vec_Dot.l0]
    rw [if_neg (by omega)]
  | succ d ih =>
    intro i hi
    have hw : wrap64 ((i : Int) + 1) = ((i + 1 : Nat) : Int) := by rw [wrap_small (by omega) (by omega)]; omega
    refine Ev.step (fun k => ?_) (ih (i + 1) (by omega))
    simp only [vec_Dot.l0, mulF, addF, Option.bind_some]
    rw [if_pos (by omega), if_pos (by omega), if_pos (by omega), if_pos (by omega), hw]
    rfl
theorem dot_ev (a b : List Int) (hl : a.length = b.length) (hn : a.length ≤ 9223372036854775806) : Ev (fun k => vec_Dot.f k a b) (dotN a b a.length, true) := by
  unfold vec_Dot.f
  simp only [if_pos (show (a.length : Int) = (b.length : Int) by omega)]
  exact dot_l0 a b hl hn a.length 0 (by omega)
theorem dot_no (a b : List Int) (hl : a.length ≠ b.length) : Ev (fun k => vec_Dot.f k a b) (0, false) := by
  unfold vec_Dot.f
  simp only [if_neg (show ¬ (a.length : Int) = (b.length : Int) by omega)]
  exact Ev.now _

theorem rd_ext {a b : List Int} (hl : a.length = b.length) (h : ∀ i : Nat, i < a.length → rd a i = rd b i) : a = b := by
  refine List.ext_getElem hl fun i h1 h2 => ?_
  obtain ⟨_, e⟩ := rd_get (v := a) (i := (i : Int)) (by omega) (by omega)
  obtain ⟨_, e'⟩ := rd_get (v := b) (i := (i : Int)) (by omega) (by omega)
  have := h i h1
  rw [e, e'] at this
  simpa using this
theorem same_l0 (a : List Int) (hn : a.length ≤ 9223372036854775806) : ∀ (d i : Nat), i + d = a.length →
    Ev (fun k => switchboardref02_Same.l0 k a a i) true := by
  intro d
  induction d with
  | zero =>
    intro i hi
    refine Ev.step (f := fun _ => some _) (fun k => ?_) (Ev.now _)
    simp only [switchboardref02_Same.l0]
    rw [if_neg (by omega)]
  | succ d ih =>
    intro i hi
    have hw : wrap64 ((i : Int) + 1) = ((i + 1 : Nat) : Int) := by rw [wrap_small (by omega) (by omega)]; omega
    refine Ev.step (fun k => ?_) (ih (i + 1) (by omega))
    simp only [switchboardref02_Same.l0, if_true]
    rw [if_pos (by omega), if_pos (by omega), if_pos (by omega), hw]
theorem same_refl (a : List Int) (hn : a.length ≤ 9223372036854775806) : Ev (fun k => switchboardref02_Same.f k a a) true := by
  unfold switchboardref02_Same.f
  simp only [if_true]
  exact same_l0 a hn a.length 0 (by omega)
theorem same_ev {a b : List Int} (h : a = b) (hn : a.length ≤ 9223372036854775806) : Ev (fun k => switchboardref02_Same.f k a b) true := by
  subst h
  exact same_refl a hn

theorem rd_mapTo (F : Int → Int → Int) (l : List Int) {n i : Nat} (h : i < n) : rd (mapTo F l n) i = F (i : Int) (rd l (i : Int)) := by
  unfold rd mapTo
  rw [List.getD_eq_getElem?_getD, Int.toNat_natCast, List.getElem?_map, List.getElem?_range h]
  rfl
theorem mapTo_congr {F G : Int → Int → Int} {l m : List Int} {n : Nat} (h : ∀ i : Nat, i < n → F i (rd l i) = G i (rd m i)) : mapTo F l n = mapTo G m n := by
  unfold mapTo
  refine List.map_congr_left fun i hi => ?_
  exact h i (List.mem_range.1 hi)
theorem mapTo_eq {F : Int → Int → Int} {l m : List Int} (hl : l.length = m.length) (h : ∀ i : Nat, i < m.length → F i (rd l i) = rd m i) : mapTo F l l.length = m := by
  refine rd_ext (by rw [mapTo_length, hl]) fun i hi => ?_
  rw [mapTo_length] at hi
  rw [rd_mapTo F l hi]
  exact h i (by omega)

theorem relu_f {a : List Int} (hn : a.length < 17592186044416) : vec_Relu.f a = some (mapTo (fun _ x => mx (hold x) 0) a a.length) := by
  unfold vec_Relu.f
  rw [if_pos hn]
theorem relu_range (x : Int) : 0 ≤ mx (hold x) 0 ∧ mx (hold x) 0 ≤ 2147483647 := by
  have := hold_range x
  unfold mx
  split <;> omega

theorem rdL_get {m : List (List Int)} {i : Nat} (h : i < m.length) : rd_L1 m (i : Int) = m[i] := by
  unfold rd_L1
  rw [Int.toNat_natCast, List.getD_eq_getElem?_getD, List.getElem?_eq_getElem h]
  rfl
theorem rdL_mem {m : List (List Int)} {i : Nat} (h : i < m.length) : rd_L1 m (i : Int) ∈ m := by
  rw [rdL_get h]
  exact List.getElem_mem h
/-- Rows by a row, those in order from place i on; 'none': one is not as long. -/
def applyTo (m : List (List Int)) (v : List Int) : Nat → List Int
  | 0 => []
  | n + 1 => applyTo m v n ++ [dotN (rd_L1 m (n : Int)) v v.length]
theorem applyTo_length (m : List (List Int)) (v : List Int) : ∀ n, (applyTo m v n).length = n := by
  intro n
  induction n with
  | zero => rfl
  | succ n ih => simp only [applyTo, List.length_append, ih]; rfl
theorem rd_applyTo (m : List (List Int)) (v : List Int) {n i : Nat} (h : i < n) : rd (applyTo m v n) i = dotN (rd_L1 m (i : Int)) v v.length := by
  induction n with
  | zero => omega
  | succ n ih =>
    simp only [applyTo]
    by_cases e : i < n
    · rw [rd_append_left (by omega) (by rw [applyTo_length]; omega)]
      exact ih e
    · have e' : i = n := by omega
      subst e'
      have := rd_append_right (a := applyTo m v i) (b := [dotN (rd_L1 m (i : Int)) v v.length]) (i := 0) (by omega)
      rw [applyTo_length, Int.add_zero] at this
      rw [this]
      rfl
/-- Is each row as long as v? -/
def Fit (m : List (List Int)) (v : List Int) : Prop := ∀ r ∈ m, r.length = v.length
instance (m : List (List Int)) (v : List Int) : Decidable (Fit m v) := by unfold Fit; infer_instance
theorem apply_l0 (m : List (List Int)) (v : List Int) (hm : m.length < 17592186044416) (hv : v.length ≤ 9223372036854775806) (hf : Fit m v) : ∀ (d i : Nat), i + d = m.length →
    Ev (fun k => mat_Apply.l0 k v (applyTo m v i) m (m.length : Int) i) (applyTo m v m.length, true) := by
  intro d
  induction d with
  | zero =>
    intro i hi
    have e : i = m.length := by omega
    subst e
    refine ev_shift ?_
    simp only [mat_Apply.l0, if_neg (show ¬ (m.length : Int) < (m.length : Int) by omega)]
    exact Ev.now _
  | succ d ih =>
    intro i hi
    have hw : wrap64 ((i : Int) + 1) = ((i + 1 : Nat) : Int) := by rw [wrap_small (by omega) (by omega)]; omega
    have hr := hf _ (rdL_mem (m := m) (i := i) (by omega))
    refine ev_shift ?_
    simp only [mat_Apply.l0, if_pos (show (i : Int) < (m.length : Int) by omega), if_pos (show (0 : Int) ≤ (i : Int) by omega), hw]
    refine Ev.bind (dot_ev _ v hr (by omega)) ?_
    simp only [if_true, applyTo_length, if_pos (show i < 17592186044416 by omega), hr]
    exact ih (i + 1) (by omega)
theorem apply_yes (m : List (List Int)) (v : List Int) (hm : m.length < 17592186044416) (hv : v.length ≤ 9223372036854775806) (hf : Fit m v) : Ev (fun k => mat_Apply.f k m v) (applyTo m v m.length, true) :=
  apply_l0 m v hm hv hf m.length 0 (by omega)
theorem apply_l0_no (m : List (List Int)) (v : List Int) (hm : m.length < 17592186044416) (hv : v.length ≤ 9223372036854775806) (hl : ∀ r ∈ m, r.length ≤ 9223372036854775806) : ∀ (d i : Nat), i + d = m.length → (∃ j : Nat, i ≤ j ∧ j < m.length ∧ (rd_L1 m (j : Int)).length ≠ v.length) → ∀ o : List Int, o.length = i →
    Ev (fun k => mat_Apply.l0 k v o m (m.length : Int) i) ([], false) := by
  intro d
  induction d with
  | zero =>
    intro i hi ⟨j, h1, h2, _⟩
    omega
  | succ d ih =>
    intro i hi ⟨j, h1, h2, h3⟩ o ho
    have hw : wrap64 ((i : Int) + 1) = ((i + 1 : Nat) : Int) := by rw [wrap_small (by omega) (by omega)]; omega
    have hrl := hl _ (rdL_mem (m := m) (i := i) (by omega))
    refine ev_shift ?_
    simp only [mat_Apply.l0, if_pos (show (i : Int) < (m.length : Int) by omega), if_pos (show (0 : Int) ≤ (i : Int) by omega), hw]
    by_cases hr : (rd_L1 m (i : Int)).length = v.length
    · refine Ev.bind (dot_ev _ v hr (by omega)) ?_
      simp only [if_true, ho, if_pos (show i < 17592186044416 by omega)]
      refine ih (i + 1) (by omega) ⟨j, ?_, h2, h3⟩ _ (by rw [List.length_append, ho]; rfl)
      have : i ≠ j := by intro e; subst e; exact h3 hr
      omega
    · refine Ev.bind (dot_no _ v hr) ?_
      simp only [if_neg (show ¬ (false = true) by decide)]
      exact Ev.now _
theorem not_fit {m : List (List Int)} {v : List Int} (h : ¬ Fit m v) : ∃ j : Nat, j < m.length ∧ (rd_L1 m (j : Int)).length ≠ v.length := by
  refine Classical.byContradiction fun hc => h fun r hr => ?_
  obtain ⟨j, hj, rfl⟩ := List.getElem_of_mem hr
  refine Classical.byContradiction fun hne => hc ⟨j, hj, ?_⟩
  rw [rdL_get hj]
  exact hne
theorem apply_no (m : List (List Int)) (v : List Int) (hm : m.length < 17592186044416) (hv : v.length ≤ 9223372036854775806) (hl : ∀ r ∈ m, r.length ≤ 9223372036854775806) (hf : ¬ Fit m v) : Ev (fun k => mat_Apply.f k m v) ([], false) := by
  obtain ⟨j, h1, h2⟩ := not_fit hf
  exact apply_l0_no m v hm hv hl m.length 0 (by omega) ⟨j, by omega, h1, h2⟩ [] rfl
theorem apply_ev (m : List (List Int)) (v : List Int) (hm : m.length < 17592186044416) (hv : v.length ≤ 9223372036854775806) (hl : ∀ r ∈ m, r.length ≤ 9223372036854775806) :
    Ev (fun k => mat_Apply.f k m v) (if Fit m v then (applyTo m v m.length, true) else ([], false)) := by
  by_cases h : Fit m v
  · rw [if_pos h]; exact apply_yes m v hm hv h
  · rw [if_neg h]; exact apply_no m v hm hv hl h

theorem notHeld_eq (x : Int) : notHeld x = (decide (x > 2147483647) || decide (x < -2147483647)) := by
  unfold notHeld holdR mx mn
  rw [Bool.eq_iff_iff]
  simp only [decide_eq_true_eq, Bool.or_eq_true]
  split <;> split <;> omega

def matR (m : List (List Int)) (r c : Int) : Bool := decide ((m.length : Int) = r) && !(m.any (rowWrong c))
theorem matR_f (m : List (List Int)) (r c : Int) : mat_Right.f m r c = some (matR m r c) := rfl
theorem matR_true {m : List (List Int)} {r c : Int} (h : matR m r c = true) : (m.length : Int) = r ∧ ∀ x ∈ m, (x.length : Int) = c ∧ ∀ y ∈ x, -2147483647 ≤ y ∧ y ≤ 2147483647 := by
  unfold matR at h
  rw [Bool.and_eq_true, decide_eq_true_eq, Bool.not_eq_true', List.any_eq_false] at h
  refine ⟨h.1, fun x hx => ?_⟩
  have := h.2 x hx
  unfold rowWrong at this
  rw [Bool.or_eq_true, decide_eq_true_eq, List.any_eq_true] at this
  refine ⟨Classical.byContradiction fun hc => this (.inl hc), fun y hy => ?_⟩
  refine Classical.byContradiction fun hc => this (.inr ⟨y, hy, ?_⟩)
  rw [notHeld_eq, Bool.or_eq_true, decide_eq_true_eq, decide_eq_true_eq]
  omega
theorem matR_mk {m : List (List Int)} {r c : Int} (h1 : (m.length : Int) = r) (h2 : ∀ x ∈ m, (x.length : Int) = c ∧ ∀ y ∈ x, -2147483647 ≤ y ∧ y ≤ 2147483647) : matR m r c = true := by
  unfold matR
  rw [Bool.and_eq_true, decide_eq_true_eq, Bool.not_eq_true', List.any_eq_false]
  refine ⟨h1, fun x hx => ?_⟩
  obtain ⟨h3, h4⟩ := h2 x hx
  unfold rowWrong
  rw [Bool.or_eq_true, decide_eq_true_eq, List.any_eq_true]
  intro hc
  rcases hc with hc | ⟨y, hy, hc⟩
  · exact hc h3
  · have := h4 y hy
    rw [notHeld_eq, Bool.or_eq_true, decide_eq_true_eq, decide_eq_true_eq] at hc
    omega
/-- Is an expert right, for tokens of d numbers? -/
def erB (a b : List (List Int)) (d : Int) : Bool := decide (1 ≤ d) && (decide (d ≤ 8) && (decide (1 ≤ (a.length : Int)) && (decide ((a.length : Int) ≤ 8) && (matR a a.length d && matR b d a.length))))
theorem right_f (a b : List (List Int)) (d : Int) : expert_Right.f a b d = some (erB a b d) := by
  unfold expert_Right.f erB
  by_cases h1 : 1 ≤ d
  · rw [if_pos h1, decide_eq_true h1, Bool.true_and]
    by_cases h2 : d ≤ 8
    · rw [if_pos h2, decide_eq_true h2, Bool.true_and]
      by_cases h3 : 1 ≤ (a.length : Int)
      · rw [if_pos h3, decide_eq_true h3, Bool.true_and]
        by_cases h4 : (a.length : Int) ≤ 8
        · rw [if_pos h4, decide_eq_true h4, Bool.true_and, matR_f, matR_f]
          simp only [Option.bind_some]
          cases matR a a.length d
          · rfl
          · rfl
        · rw [if_neg h4, decide_eq_false h4, Bool.false_and]
      · rw [if_neg h3, decide_eq_false h3, Bool.false_and]
    · rw [if_neg h2, decide_eq_false h2, Bool.false_and]
  · rw [if_neg h1, decide_eq_false h1, Bool.false_and]
theorem erB_true {a b : List (List Int)} {d : Int} (h : erB a b d = true) : 1 ≤ d ∧ d ≤ 8 ∧ 1 ≤ a.length ∧ a.length ≤ 8 ∧ (∀ x ∈ a, (x.length : Int) = d ∧ ∀ y ∈ x, -2147483647 ≤ y ∧ y ≤ 2147483647) ∧ (b.length : Int) = d ∧ (∀ x ∈ b, x.length = a.length ∧ ∀ y ∈ x, -2147483647 ≤ y ∧ y ≤ 2147483647) := by
  unfold erB at h
  simp only [Bool.and_eq_true, decide_eq_true_eq] at h
  obtain ⟨h1, h2, h3, h4, h5, h6⟩ := h
  have h5 := matR_true h5
  have h6 := matR_true h6
  exact ⟨h1, h2, by omega, by omega, h5.2, h6.1, fun x hx => ⟨by have := (h6.2 x hx).1; omega, (h6.2 x hx).2⟩⟩
def reluL (l : List Int) : List Int := mapTo (fun _ x => mx (hold x) 0) l l.length
theorem reluL_length (l : List Int) : (reluL l).length = l.length := mapTo_length _ _ _
theorem reluL_f {l : List Int} (h : l.length < 17592186044416) : vec_Relu.f l = some (reluL l) := relu_f h
theorem rd_reluL (l : List Int) {i : Nat} (h : i < l.length) : rd (reluL l) i = mx (hold (rd l i)) 0 := rd_mapTo _ _ h
/-- What a right expert makes. -/
def runE (a b : List (List Int)) (v : List Int) : List Int := applyTo b (reluL (applyTo a v a.length)) b.length
theorem runE_length (a b : List (List Int)) (v : List Int) : (runE a b v).length = b.length := applyTo_length _ _ _
theorem run_fits {a b : List (List Int)} {v : List Int} (h : erB a b v.length = true) : Fit a v ∧ Fit b (reluL (applyTo a v a.length)) := by
  obtain ⟨_, _, _, _, h5, _, h7⟩ := erB_true h
  refine ⟨fun x hx => by have := (h5 x hx).1; omega, fun x hx => ?_⟩
  rw [reluL_length, applyTo_length]
  exact (h7 x hx).1
theorem run_yes {a b : List (List Int)} {v : List Int} (h : erB a b v.length = true) : Ev (fun k => expert_Run.f k a b v) (runE a b v, true) := by
  obtain ⟨h1, h2, h3, h4, h5, h6, h7⟩ := erB_true h
  obtain ⟨f1, f2⟩ := run_fits h
  unfold expert_Run.f
  simp only [right_f, h, Option.bind_some, if_true]
  refine Ev.bind (apply_yes a v (by omega) (by omega) f1) ?_
  simp only [reluL_f (show (applyTo a v a.length).length < 17592186044416 by rw [applyTo_length]; omega), Option.bind_some]
  exact Ev.bind (apply_yes b _ (by omega) (by rw [reluL_length, applyTo_length]; omega) f2) (Ev.now _)
theorem run_no {a b : List (List Int)} {v : List Int} (h : erB a b v.length = false) : Ev (fun k => expert_Run.f k a b v) ([], false) := by
  unfold expert_Run.f
  simp only [right_f, h, Option.bind_some, if_neg (show ¬ (false = true) by decide)]
  exact Ev.now _
theorem run_ev (a b : List (List Int)) (v : List Int) : Ev (fun k => expert_Run.f k a b v) (if erB a b v.length = true then (runE a b v, true) else ([], false)) := by
  by_cases h : erB a b v.length = true
  · rw [if_pos h]; exact run_yes h
  · rw [if_neg h]; exact run_no (Bool.eq_false_iff.mpr h)

theorem awake_ev : Ev (fun k => switchboardlaw11_awake.f k) true :=
  Ev.of switchboardlaw11_awake.mono (k := 20) (by decide +kernel)
theorem awake2 : Ev (fun k => (switchboardlaw11_awake.f k).bind fun t => some t) true := Ev.bind awake_ev (Ev.now true)

theorem wf32 {x : Int} (h : (Lit.int .i32 x).wf = true) : -2147483648 ≤ x ∧ x ≤ 2147483647 := by
  simp [Lit.wf, IntKind.min, IntKind.max, IntKind.signed, IntKind.bits] at h
  omega
theorem below_f {x : Int} (h : (Lit.int .i32 x).wf = true) : ∃ y : Int, switchboardlaw11_below.f x = some y ∧ -1048576 < y ∧ y < 1048576 := by
  have := wf32 h
  refine ⟨x.tmod 1048576, ?_, ?_, Int.tmod_lt_of_pos x (by omega)⟩
  · unfold switchboardlaw11_below.f
    rw [wrap_small (by omega) (by omega)]
  · rcases Int.le_total 0 x with h | h
    · have := Int.tmod_nonneg 1048576 h; omega
    · have := Int.neg_tmod x 1048576
      have h3 := Int.tmod_lt_of_pos (-x) (show (0 : Int) < 1048576 by omega)
      omega
theorem rd_one (x : Int) : rd [x] ((0 : Nat) : Int) = x := rfl
theorem joins_one {a b v : Int} (ha : -1048576 < a ∧ a < 1048576) (hb : -1048576 < b ∧ b < 1048576) :
    erB [[a]] [[b]] ([v].length : Int) = true ∧ runE [[a]] [[b]] [v] = [mulI b (mx (mulI a v) 0)] := by
  constructor
  · unfold erB
    rw [matR_mk rfl (fun x hx => ?_), matR_mk (m := [[b]]) (r := (([v] : List Int).length : Int)) rfl (fun x hx => ?_)]
    · simp
    · obtain rfl := List.mem_singleton.1 hx
      exact ⟨rfl, fun y hy => by obtain rfl := List.mem_singleton.1 hy; omega⟩
    · obtain rfl := List.mem_singleton.1 hx
      exact ⟨rfl, fun y hy => by obtain rfl := List.mem_singleton.1 hy; omega⟩
  · have e1 : applyTo [[a]] [v] ([[a]] : List (List Int)).length = [mulI a v] := by
      show [] ++ [addI 0 (mulI a v)] = _
      rw [addI_zero_left, hold_mulI]; rfl
    have e2 : reluL [mulI a v] = [mx (mulI a v) 0] := by
      show [mx (hold (mulI a v)) 0] = _
      rw [hold_mulI]
    unfold runE
    rw [e1, e2]
    show [] ++ [addI 0 (mulI b (mx (mulI a v) 0))] = _
    rw [addI_zero_left, hold_mulI]; rfl
theorem joins_two {a b c d v : Int} (ha : -1048576 < a ∧ a < 1048576) (hb : -1048576 < b ∧ b < 1048576) (hc : -1048576 < c ∧ c < 1048576) (hd : -1048576 < d ∧ d < 1048576) :
    erB [[a], [c]] [[b, d]] ([v].length : Int) = true ∧ runE [[a], [c]] [[b, d]] [v] = [addI (mulI b (mx (mulI a v) 0)) (mulI d (mx (mulI c v) 0))] := by
  constructor
  · unfold erB
    rw [matR_mk rfl (fun x hx => ?_), matR_mk (m := [[b, d]]) (r := (([v] : List Int).length : Int)) rfl (fun x hx => ?_)]
    · simp
    · obtain rfl := List.mem_singleton.1 hx
      refine ⟨rfl, fun y hy => ?_⟩
      rcases List.mem_cons.1 hy with rfl | hy
      · omega
      · obtain rfl := List.mem_singleton.1 hy; omega
    · rcases List.mem_cons.1 hx with rfl | hx
      · exact ⟨rfl, fun y hy => by obtain rfl := List.mem_singleton.1 hy; omega⟩
      · obtain rfl := List.mem_singleton.1 hx
        exact ⟨rfl, fun y hy => by obtain rfl := List.mem_singleton.1 hy; omega⟩
  · have e1 : applyTo [[a], [c]] [v] ([[a], [c]] : List (List Int)).length = [mulI a v, mulI c v] := by
      show ([] ++ [addI 0 (mulI a v)]) ++ [addI 0 (mulI c v)] = _
      rw [addI_zero_left, hold_mulI, addI_zero_left, hold_mulI]; rfl
    have e2 : reluL [mulI a v, mulI c v] = [mx (mulI a v) 0, mx (mulI c v) 0] := by
      show [mx (hold (mulI a v)) 0, mx (hold (mulI c v)) 0] = _
      rw [hold_mulI, hold_mulI]
    unfold runE
    rw [e1, e2]
    show [] ++ [addI (addI 0 (mulI b (mx (mulI a v) 0))) (mulI d (mx (mulI c v) 0))] = _
    rw [addI_zero_left, hold_mulI]; rfl
theorem ExpertJoins : ExpertJoinsPure := by
  intro a b c d v wa wb wc wd wv
  obtain ⟨a', ea, ha⟩ := below_f wa
  obtain ⟨b', eb, hb⟩ := below_f wb
  obtain ⟨c', ec, hc⟩ := below_f wc
  obtain ⟨d', ed, hd⟩ := below_f wd
  obtain ⟨v', ev, _⟩ := below_f wv
  obtain ⟨r1, q1⟩ := joins_one (v := v') ha hb
  obtain ⟨r2, q2⟩ := joins_one (v := v') hc hd
  obtain ⟨r3, q3⟩ := joins_two (v := v') ha hb hc hd
  have y1 := run_yes r1
  have y2 := run_yes r2
  have y3 := run_yes r3
  rw [q1] at y1
  rw [q2] at y2
  rw [q3] at y3
  have hadd : vec_Add.f [mulI b' (mx (mulI a' v') 0)] [mulI d' (mx (mulI c' v') 0)] = some ([addI (mulI b' (mx (mulI a' v') 0)) (mulI d' (mx (mulI c' v') 0))], true) := rfl
  refine ev_rounds ?_
  unfold switchboardlaw11_ExpertJoins.f
  simp only [ea, eb, ec, ed, ev, Option.bind_some]
  refine Ev.bind y1 (Ev.bind y2 (Ev.bind y3 ?_))
  simp only [hadd, Option.bind_some, if_true, List.length_singleton, Int.natCast_one]
  refine Ev.bind (same_refl _ (by simp)) ?_
  simp only [if_true]
  exact awake2

end Go.Proofs.Ytegjdddpojgplaa.Pure
