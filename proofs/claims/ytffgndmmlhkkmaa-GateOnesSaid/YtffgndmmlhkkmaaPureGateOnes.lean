/- Proved here: by one row alone its expert has all of One, by two that are the same both have half (all rows and tokens; past 30 numbers the fixed answer alone). No condition. -/
import Derived.Test.YtffgndmmlhkkmaaPo3
namespace Go.Proofs.Ytffgndmmlhkkmaa.Pure
open Go.RowKit Go.Proofs.Ytffgndmmlhkkmaa.Po Go.Proofs.YtffgndmmlhkkmaaW.PrintWords Go.Proofs.YtffgndmmlhkkmaaW.PrintLast Go.Proofs.YtffgndmmlhkkmaaW.PrintMore
set_option linter.unusedVariables false
set_option linter.unusedSimpArgs false

def GateOnesPure : Prop := ∀ (l0 : List Int) (l1 : List Int), l0.length ≤ maxLen → (∀ y ∈ l0, (Lit.int .i64 y).wf = true) → l1.length ≤ maxLen → (∀ y ∈ l1, (Lit.int .i64 y).wf = true) → ∃ k, switchboardlaw13_GateOnes.f k l0 l1 = some true

theorem wrap_small {i : Int} (h0 : -9223372036854775808 ≤ i) (h1 : i < 9223372036854775808) : wrap64 i = i := by
  unfold wrap64
  omega

theorem ev_rounds {g : Nat → Option Bool} (h : Ev g true) : ∃ k, g k = some true := h.rounds
theorem ev_shift {α : Type} {g : Nat → Option α} {r : α} (h : Ev (fun k => g (k + 1)) r) : Ev g r := Ev.step (fun _ => rfl) h

theorem rd_get {v : List Int} {i : Int} (h0 : 0 ≤ i) (h1 : i < v.length) : ∃ h : i.toNat < v.length, rd v i = v[i.toNat]'h := by
  refine ⟨by omega, ?_⟩
  unfold rd
  rw [List.getD_eq_getElem?_getD, List.getElem?_eq_getElem (by omega)]
  rfl

theorem take_rd {v : List Int} {i : Nat} (h : i < v.length) : v.take i ++ [rd v i] = v.take (i + 1) := by
  obtain ⟨h', e⟩ := rd_get (v := v) (i := (i : Int)) (by omega) (by omega)
  rw [e]
  simp only [Int.toNat_natCast]
  rw [List.take_succ_eq_append_getElem h]

theorem rd_append_left {a b : List Int} {i : Int} (h0 : 0 ≤ i) (h1 : i < a.length) : rd (a ++ b) i = rd a i := by
  unfold rd
  rw [List.getD_eq_getElem?_getD, List.getD_eq_getElem?_getD, List.getElem?_append_left (by omega)]

theorem rd_append_right {a b : List Int} {i : Int} (h0 : 0 ≤ i) : rd (a ++ b) ((a.length : Int) + i) = rd b i := by
  unfold rd
  rw [List.getD_eq_getElem?_getD, List.getD_eq_getElem?_getD, List.getElem?_append_right (by omega)]
  congr 2
  omega

theorem rd_map {v : List Int} (f : Int → Int) {i : Int} (h0 : 0 ≤ i) (h1 : i < v.length) : rd (v.map f) i = f (rd v i) := by
  obtain ⟨h, e⟩ := rd_get h0 h1
  obtain ⟨h', e'⟩ := rd_get (v := v.map f) h0 (by simpa using h1)
  rw [e, e']
  simp

theorem rd_mem {v : List Int} {i : Int} (h0 : 0 ≤ i) (h1 : i < v.length) : rd v i ∈ v := by
  obtain ⟨h, e⟩ := rd_get h0 h1
  rw [e]
  exact List.getElem_mem h

def hold (x : Int) : Int := mx (-2147483647) (mn 2147483647 x)
def addI (a b : Int) : Int := hold (wrap64 (hold a + hold b))
def mulI (a b : Int) : Int := hold (wrap64 (Int.tdiv (wrap64 (hold a * hold b)) 65536))

theorem hold_range (x : Int) : -2147483647 ≤ hold x ∧ hold x ≤ 2147483647 := by
  unfold hold mx mn
  split <;> split <;> omega
theorem hold_id {x : Int} (h0 : -2147483647 ≤ x) (h1 : x ≤ 2147483647) : hold x = x := by
  unfold hold mx mn
  split <;> split <;> omega
theorem hold_hold (x : Int) : hold (hold x) = hold x := hold_id (hold_range x).1 (hold_range x).2
theorem hold_cases (x : Int) : hold x = if x > 2147483647 then 2147483647 else if x < -2147483647 then -2147483647 else x := by
  unfold hold mx mn
  split <;> split <;> split <;> first | omega | (split <;> omega)
theorem hold_zero : hold 0 = 0 := by decide

theorem prod_range {x y : Int} (hx : -2147483647 ≤ x ∧ x ≤ 2147483647) (hy : -2147483647 ≤ y ∧ y ≤ 2147483647) : -4611686014132420609 ≤ x * y ∧ x * y ≤ 4611686014132420609 := by
  have h1 : x.natAbs ≤ 2147483647 := by omega
  have h2 : y.natAbs ≤ 2147483647 := by omega
  have h3 : (x * y).natAbs ≤ 2147483647 * 2147483647 := by rw [Int.natAbs_mul]; exact Nat.mul_le_mul h1 h2
  omega
theorem mul_wrap (a b : Int) : wrap64 (hold a * hold b) = hold a * hold b := by
  have := prod_range (hold_range a) (hold_range b)
  exact wrap_small (by omega) (by omega)
theorem tdiv_range {p : Int} (h0 : -4611686014132420609 ≤ p) (h1 : p ≤ 4611686014132420609) : -70368744144896 ≤ p.tdiv 65536 ∧ p.tdiv 65536 ≤ 70368744144896 := by
  rcases Int.le_total 0 p with h | h
  · rw [Int.tdiv_eq_ediv_of_nonneg h]; omega
  · have e : p.tdiv 65536 = -((-p).tdiv 65536) := by rw [Int.neg_tdiv]; omega
    rw [e, Int.tdiv_eq_ediv_of_nonneg (by omega)]; omega
theorem mulI_eq (a b : Int) : mulI a b = hold ((hold a * hold b).tdiv 65536) := by
  unfold mulI
  have := prod_range (hold_range a) (hold_range b)
  have h2 := tdiv_range this.1 this.2
  rw [mul_wrap, wrap_small (by omega) (by omega)]
theorem addI_eq (a b : Int) : addI a b = hold (hold a + hold b) := by
  unfold addI
  have h1 := hold_range a
  have h2 := hold_range b
  rw [wrap_small (by omega) (by omega)]
theorem mulI_comm (a b : Int) : mulI a b = mulI b a := by rw [mulI_eq, mulI_eq, Int.mul_comm]
theorem addI_comm (a b : Int) : addI a b = addI b a := by rw [addI_eq, addI_eq, Int.add_comm]
theorem mulI_range (a b : Int) : -2147483647 ≤ mulI a b ∧ mulI a b ≤ 2147483647 := by rw [mulI_eq]; exact hold_range _
theorem addI_range (a b : Int) : -2147483647 ≤ addI a b ∧ addI a b ≤ 2147483647 := by rw [addI_eq]; exact hold_range _
theorem hold_mulI (a b : Int) : hold (mulI a b) = mulI a b := hold_id (mulI_range a b).1 (mulI_range a b).2
theorem hold_addI (a b : Int) : hold (addI a b) = addI a b := hold_id (addI_range a b).1 (addI_range a b).2
theorem mulI_zero (a : Int) : mulI a 0 = 0 := by rw [mulI_eq, hold_zero, Int.mul_zero]; rfl
theorem mulI_zero_left (a : Int) : mulI 0 a = 0 := by rw [mulI_comm, mulI_zero]
theorem addI_zero (a : Int) : addI a 0 = hold a := by rw [addI_eq, hold_zero, Int.add_zero, hold_hold]
theorem addI_zero_left (a : Int) : addI 0 a = hold a := by rw [addI_comm, addI_zero]
theorem mulI_one (a : Int) : mulI a 65536 = hold a := by
  rw [mulI_eq, hold_id (x := 65536) (by omega) (by omega), Int.mul_tdiv_cancel _ (by omega), hold_hold]
theorem mulI_hold_left (a b : Int) : mulI (hold a) b = mulI a b := by rw [mulI_eq, mulI_eq, hold_hold]
theorem mulI_hold_right (a b : Int) : mulI a (hold b) = mulI a b := by rw [mulI_eq, mulI_eq, hold_hold]
theorem mulI_self (a : Int) : 0 ≤ mulI a a := by
  rw [mulI_eq]
  have h : 0 ≤ hold a * hold a := by
    rcases Int.le_total 0 (hold a) with h | h
    · exact Int.mul_nonneg h h
    · rw [← Int.neg_mul_neg]; exact Int.mul_nonneg (by omega) (by omega)
  rw [Int.tdiv_eq_ediv_of_nonneg h, hold_cases]
  split
  · omega
  · split
    · omega
    · omega
theorem addF (a b : Int) : fix_Add.f a b = some (addI a b) := rfl
theorem mulF (a b : Int) : fix_Mul.f a b = some (mulI a b) := rfl
theorem holdF (a : Int) : fix_Hold.f a = some (hold a) := rfl

/-- The products of the first numbers, added. -/
def dotN (a b : List Int) : Nat → Int
  | 0 => 0
  | n + 1 => addI (dotN a b n) (mulI (rd a n) (rd b n))
theorem dotN_range (a b : List Int) (n : Nat) : -2147483647 ≤ dotN a b n ∧ dotN a b n ≤ 2147483647 := by
  cases n with
  | zero => simp [dotN]
  | succ n => exact addI_range _ _
theorem dotN_comm (a b : List Int) : ∀ n, dotN a b n = dotN b a n := by
  intro n
  induction n with
  | zero => rfl
  | succ n ih => simp only [dotN]; rw [ih, mulI_comm]
theorem dotN_congr {a b a' b' : List Int} : ∀ n : Nat, (∀ i : Nat, i < n → rd a i = rd a' i ∧ rd b i = rd b' i) → dotN a b n = dotN a' b' n := by
  intro n
  induction n with
  | zero => intro _; rfl
  | succ n ih =>
    intro h
    simp only [dotN]
    rw [ih (fun i hi => h i (by omega)), (h n (by omega)).1, (h n (by omega)).2]
theorem dot_l0 (a b : List Int) (hl : a.length = b.length) (hn : a.length ≤ 9223372036854775806) : ∀ (d i : Nat), i + d = a.length →
    Ev (fun k => vec_Dot.l0 k b (dotN a b i) a (a.length : Int) i) (dotN a b a.length, true) := by
  intro d
  induction d with
  | zero =>
    intro i hi
    have e : i = a.length := by omega
    subst e
    refine Ev.step (f := fun _ => some _) (fun k => ?_) (Ev.now _)
    simp only [vec_Dot.l0]
    rw [if_neg (by omega)]
  | succ d ih =>
    intro i hi
    have hw : wrap64 ((i : Int) + 1) = ((i + 1 : Nat) : Int) := by rw [wrap_small (by omega) (by omega)]; omega
    refine Ev.step (fun k => ?_) (ih (i + 1) (by omega))
    simp only [vec_Dot.l0, mulF, addF, Option.bind_some]
    rw [if_pos (by omega), if_pos (by omega), if_pos (by omega), if_pos (by omega), hw]
    rfl
theorem dot_ev (a b : List Int) (hl : a.length = b.length) (hn : a.length ≤ 9223372036854775806) : Ev (fun k => vec_Dot.f k a b) (dotN a b a.length, true) := by
  unfold vec_Dot.f
  simp only [if_pos (show (a.length : Int) = (b.length : Int) by omega)]
  exact dot_l0 a b hl hn a.length 0 (by omega)
theorem dot_no (a b : List Int) (hl : a.length ≠ b.length) : Ev (fun k => vec_Dot.f k a b) (0, false) := by
  unfold vec_Dot.f
  simp only [if_neg (show ¬ (a.length : Int) = (b.length : Int) by omega)]
  exact Ev.now _

def IsBest (v : List Int) (but i b : Int) : Prop :=
  (b = -1 ∧ ∀ j, 0 ≤ j → j < i → j = but) ∨
  (0 ≤ b ∧ b < i ∧ b ≠ but ∧ ∀ j, 0 ≤ j → j < i → j ≠ but → rd v j ≤ rd v b ∧ (j < b → rd v j < rd v b))

theorem isBest_unique {v : List Int} {but i a b : Int} (ha : IsBest v but i a) (hb : IsBest v but i b) : a = b := by
  rcases ha with ⟨ha, h⟩ | ⟨ha0, ha1, ha2, h⟩
  · rcases hb with ⟨hb, _⟩ | ⟨hb0, hb1, hb2, _⟩
    · omega
    · exact absurd (h b hb0 hb1) hb2
  · rcases hb with ⟨hb, h'⟩ | ⟨hb0, hb1, hb2, h'⟩
    · exact absurd (h' a ha0 ha1) ha2
    · have h1 := h b hb0 hb1 hb2
      have h2 := h' a ha0 ha1 ha2
      by_cases e : a < b
      · have := h2.2 e; omega
      · by_cases e' : b < a
        · have := h1.2 e'; omega
        · omega

theorem isBest_step {v : List Int} {but i b r : Int} (h0 : 0 ≤ i) (h : IsBest v but i b)
    (hr : (i = but ∧ r = b) ∨ (i ≠ but ∧ b < 0 ∧ r = i) ∨ (i ≠ but ∧ 0 ≤ b ∧ rd v i > rd v b ∧ r = i) ∨ (i ≠ but ∧ 0 ≤ b ∧ ¬ rd v i > rd v b ∧ r = b)) :
    IsBest v but (i + 1) r := by
  rcases hr with ⟨e, rfl⟩ | ⟨ne, hb, rfl⟩ | ⟨ne, hb, hg, rfl⟩ | ⟨ne, hb, hg, rfl⟩
  · rcases h with ⟨h1, h2⟩ | ⟨h1, h2, h3, h4⟩
    · refine .inl ⟨h1, fun j j0 j1 => ?_⟩
      by_cases e' : j < i
      · exact h2 j j0 e'
      · omega
    · refine .inr ⟨h1, by omega, h3, fun j j0 j1 jn => h4 j j0 (by omega) jn⟩
  · rcases h with ⟨h1, h2⟩ | ⟨h1, _⟩
    · refine .inr ⟨h0, by omega, ne, fun j j0 j1 jn => ?_⟩
      by_cases e' : j < r
      · exact absurd (h2 j j0 e') jn
      · have : j = r := by omega
        subst this
        exact ⟨Int.le_refl _, fun h => by omega⟩
    · omega
  · rcases h with ⟨h1, h2⟩ | ⟨h1, h2, h3, h4⟩
    · omega
    · refine .inr ⟨h0, by omega, ne, fun j j0 j1 jn => ?_⟩
      by_cases e' : j < r
      · have := h4 j j0 e' jn
        exact ⟨by omega, fun _ => by omega⟩
      · have : j = r := by omega
        subst this
        exact ⟨Int.le_refl _, fun h => by omega⟩
  · rcases h with ⟨h1, h2⟩ | ⟨h1, h2, h3, h4⟩
    · omega
    · refine .inr ⟨h1, by omega, h3, fun j j0 j1 jn => ?_⟩
      by_cases e' : j < i
      · exact h4 j j0 e' jn
      · have : j = i := by omega
        subst this
        exact ⟨by omega, fun h => by omega⟩

theorem beside_l0 (v : List Int) (but : Int) (hn : v.length ≤ 140737488351232) : ∀ (d : Nat) (i b : Int), 0 ≤ i → i + d = v.length → IsBest v but i b →
    ∃ r, Ev (fun k => top_beside.l0 k v but b v (v.length : Int) i) r ∧ IsBest v but v.length r := by
  intro d
  induction d with
  | zero =>
    intro i b h0 hi hb
    have e : i = v.length := by omega
    subst e
    refine ⟨b, Ev.step (f := fun _ => some b) (fun k => ?_) (Ev.now b), hb⟩
    simp only [top_beside.l0]
    rw [if_neg (by omega)]
  | succ d ih =>
    intro i b h0 hi hb
    have hlt : i < (v.length : Int) := by omega
    have hw : wrap64 (i + 1) = i + 1 := wrap_small (by omega) (by omega)
    by_cases e : i = but
    · obtain ⟨r, hr, hq⟩ := ih (i + 1) b (by omega) (by omega) (isBest_step h0 hb (.inl ⟨e, rfl⟩))
      refine ⟨r, Ev.step (fun k => ?_) hr, hq⟩
      simp only [top_beside.l0]
      rw [if_pos hlt, if_pos h0, if_pos hlt, if_pos e, hw]
    · by_cases e1 : b < 0
      · obtain ⟨r, hr, hq⟩ := ih (i + 1) i (by omega) (by omega) (isBest_step h0 hb (.inr (.inl ⟨e, e1, rfl⟩)))
        refine ⟨r, Ev.step (fun k => ?_) hr, hq⟩
        simp only [top_beside.l0]
        rw [if_pos hlt, if_pos h0, if_pos hlt, if_neg e, if_pos e1, hw]
      · have hbl : b < (v.length : Int) := by
          rcases hb with ⟨h1, _⟩ | ⟨_, h2, _⟩ <;> omega
        by_cases e2 : rd v i > rd v b
        · obtain ⟨r, hr, hq⟩ := ih (i + 1) i (by omega) (by omega) (isBest_step h0 hb (.inr (.inr (.inl ⟨e, by omega, e2, rfl⟩))))
          refine ⟨r, Ev.step (fun k => ?_) hr, hq⟩
          simp only [top_beside.l0]
          rw [if_pos hlt, if_pos h0, if_pos hlt, if_neg e, if_neg e1, if_pos (by omega), if_pos hbl, if_pos e2, hw]
        · obtain ⟨r, hr, hq⟩ := ih (i + 1) b (by omega) (by omega) (isBest_step h0 hb (.inr (.inr (.inr ⟨e, by omega, e2, rfl⟩))))
          refine ⟨r, Ev.step (fun k => ?_) hr, hq⟩
          simp only [top_beside.l0]
          rw [if_pos hlt, if_pos h0, if_pos hlt, if_neg e, if_neg e1, if_pos (by omega), if_pos hbl, if_neg e2, hw]

theorem beside_ev (v : List Int) (but : Int) (hn : v.length ≤ 140737488351232) :
    ∃ r, Ev (fun k => top_beside.f k v but) r ∧ IsBest v but v.length r :=
  beside_l0 v but hn v.length 0 (-1) (by omega) (by omega) (.inl ⟨rfl, fun j h1 h2 => by omega⟩)

theorem best_ev (v : List Int) (hn : v.length ≤ 140737488351232) :
    ∃ r, Ev (fun k => top_Best.f k v) r ∧ IsBest v (-1) v.length r := by
  obtain ⟨r, hr, h⟩ := beside_ev v (-1) hn
  exact ⟨r, Ev.bind hr (Ev.now r), h⟩

theorem two_ev (v : List Int) (hn : v.length ≤ 140737488351232) :
    ∃ a b, Ev (fun k => top_Two.f k v) (a, b) ∧ IsBest v (-1) v.length a ∧ IsBest v a v.length b := by
  obtain ⟨a, ha, h⟩ := best_ev v hn
  obtain ⟨b, hb, h'⟩ := beside_ev v a hn
  exact ⟨a, b, Ev.bind ha (Ev.bind hb (Ev.now (a, b))), h, h'⟩

theorem rdL_get {m : List (List Int)} {i : Nat} (h : i < m.length) : rd_L1 m (i : Int) = m[i] := by
  unfold rd_L1
  rw [Int.toNat_natCast, List.getD_eq_getElem?_getD, List.getElem?_eq_getElem h]
  rfl
theorem rdL_mem {m : List (List Int)} {i : Nat} (h : i < m.length) : rd_L1 m (i : Int) ∈ m := by
  rw [rdL_get h]
  exact List.getElem_mem h
/-- Rows by a row, those in order from place i on; 'none': one is not as long. -/
def applyTo (m : List (List Int)) (v : List Int) : Nat → List Int
  | 0 => []
  | n + 1 => applyTo m v n ++ [dotN (rd_L1 m (n : Int)) v v.length]
theorem applyTo_length (m : List (List Int)) (v : List Int) : ∀ n, (applyTo m v n).length = n := by
  intro n
  induction n with
  | zero => rfl
  | succ n ih => simp only [applyTo, List.length_append, ih]; rfl
theorem rd_applyTo (m : List (List Int)) (v : List Int) {n i : Nat} (h : i < n) : rd (applyTo m v n) i = dotN (rd_L1 m (i : Int)) v v.length := by
  induction n with
  | zero => omega
  | succ n ih =>
    simp only [applyTo]
    by_cases e : i < n
    · rw [rd_append_left (by omega) (by rw [applyTo_length]; omega)]
      exact ih e
    · have e' : i = n := by omega
      subst e'
      have := rd_append_right (a := applyTo m v i) (b := [dotN (rd_L1 m (i : Int)) v v.length]) (i := 0) (by omega)
      rw [applyTo_length, Int.add_zero] at this
      rw [this]
      rfl
/-- Is each row as long as v? -/
def Fit (m : List (List Int)) (v : List Int) : Prop := ∀ r ∈ m, r.length = v.length
instance (m : List (List Int)) (v : List Int) : Decidable (Fit m v) := by unfold Fit; infer_instance
theorem apply_l0 (m : List (List Int)) (v : List Int) (hm : m.length < 17592186044416) (hv : v.length ≤ 9223372036854775806) (hf : Fit m v) : ∀ (d i : Nat), i + d = m.length →
    Ev (fun k => mat_Apply.l0 k v (applyTo m v i) m (m.length : Int) i) (applyTo m v m.length, true) := by
  intro d
  induction d with
  | zero =>
    intro i hi
    have e : i = m.length := by omega
    subst e
    refine ev_shift ?_
    simp only [mat_Apply.l0, if_neg (show ¬ (m.length : Int) < (m.length : Int) by omega)]
    exact Ev.now _
  | succ d ih =>
    intro i hi
    have hw : wrap64 ((i : Int) + 1) = ((i + 1 : Nat) : Int) := by rw [wrap_small (by omega) (by omega)]; omega
    have hr := hf _ (rdL_mem (m := m) (i := i) (by omega))
    refine ev_shift ?_
    simp only [mat_Apply.l0, if_pos (show (i : Int) < (m.length : Int) by omega), if_pos (show (0 : Int) ≤ (i : Int) by omega), hw]
    refine Ev.bind (dot_ev _ v hr (by omega)) ?_
    simp only [if_true, applyTo_length, if_pos (show i < 17592186044416 by omega), hr]
    exact ih (i + 1) (by omega)
theorem apply_yes (m : List (List Int)) (v : List Int) (hm : m.length < 17592186044416) (hv : v.length ≤ 9223372036854775806) (hf : Fit m v) : Ev (fun k => mat_Apply.f k m v) (applyTo m v m.length, true) :=
  apply_l0 m v hm hv hf m.length 0 (by omega)
theorem apply_l0_no (m : List (List Int)) (v : List Int) (hm : m.length < 17592186044416) (hv : v.length ≤ 9223372036854775806) (hl : ∀ r ∈ m, r.length ≤ 9223372036854775806) : ∀ (d i : Nat), i + d = m.length → (∃ j : Nat, i ≤ j ∧ j < m.length ∧ (rd_L1 m (j : Int)).length ≠ v.length) → ∀ o : List Int, o.length = i →
    Ev (fun k => mat_Apply.l0 k v o m (m.length : Int) i) ([], false) := by
  intro d
  induction d with
  | zero =>
    intro i hi ⟨j, h1, h2, _⟩
    omega
  | succ d ih =>
    intro i hi ⟨j, h1, h2, h3⟩ o ho
    have hw : wrap64 ((i : Int) + 1) = ((i + 1 : Nat) : Int) := by rw [wrap_small (by omega) (by omega)]; omega
    have hrl := hl _ (rdL_mem (m := m) (i := i) (by omega))
    refine ev_shift ?_
    simp only [mat_Apply.l0, if_pos (show (i : Int) < (m.length : Int) by omega), if_pos (show (0 : Int) ≤ (i : Int) by omega), hw]
    by_cases hr : (rd_L1 m (i : Int)).length = v.length
    · refine Ev.bind (dot_ev _ v hr (by omega)) ?_
      simp only [if_true, ho, if_pos (show i < 17592186044416 by omega)]
      refine ih (i + 1) (by omega) ⟨j, ?_, h2, h3⟩ _ (by rw [List.length_append, ho]; rfl)
      have : i ≠ j := by intro e; subst e; exact h3 hr
      omega
    · refine Ev.bind (dot_no _ v hr) ?_
      simp only [if_neg (show ¬ (false = true) by decide)]
      exact Ev.now _
theorem not_fit {m : List (List Int)} {v : List Int} (h : ¬ Fit m v) : ∃ j : Nat, j < m.length ∧ (rd_L1 m (j : Int)).length ≠ v.length := by
  refine Classical.byContradiction fun hc => h fun r hr => ?_
  obtain ⟨j, hj, rfl⟩ := List.getElem_of_mem hr
  refine Classical.byContradiction fun hne => hc ⟨j, hj, ?_⟩
  rw [rdL_get hj]
  exact hne
theorem apply_no (m : List (List Int)) (v : List Int) (hm : m.length < 17592186044416) (hv : v.length ≤ 9223372036854775806) (hl : ∀ r ∈ m, r.length ≤ 9223372036854775806) (hf : ¬ Fit m v) : Ev (fun k => mat_Apply.f k m v) ([], false) := by
  obtain ⟨j, h1, h2⟩ := not_fit hf
  exact apply_l0_no m v hm hv hl m.length 0 (by omega) ⟨j, by omega, h1, h2⟩ [] rfl
theorem apply_ev (m : List (List Int)) (v : List Int) (hm : m.length < 17592186044416) (hv : v.length ≤ 9223372036854775806) (hl : ∀ r ∈ m, r.length ≤ 9223372036854775806) :
    Ev (fun k => mat_Apply.f k m v) (if Fit m v then (applyTo m v m.length, true) else ([], false)) := by
  by_cases h : Fit m v
  · rw [if_pos h]; exact apply_yes m v hm hv h
  · rw [if_neg h]; exact apply_no m v hm hv hl h

/-- One more than a number, held, 0 if below 0. -/
def partN (a : Int) : Int := mx (hold a) 0 + 1
theorem partN_range (a : Int) : 1 ≤ partN a ∧ partN a ≤ 2147483648 := by
  have := hold_range a
  unfold partN mx
  split <;> omega
theorem partN_cases (a : Int) : partN a = if a < 0 then 1 else if a > 2147483647 then 2147483648 else a + 1 := by
  unfold partN mx
  rw [hold_cases]
  by_cases h1 : a < 0
  · rw [if_pos h1, if_neg (show ¬ a > 2147483647 by omega)]
    by_cases h2 : a < -2147483647
    · rw [if_pos h2, if_pos (by omega)]; rfl
    · rw [if_neg h2, if_pos h1]; rfl
  · rw [if_neg h1]
    by_cases h2 : a > 2147483647
    · rw [if_pos h2, if_pos h2, if_neg (by omega)]; rfl
    · rw [if_neg h2, if_neg h2, if_neg (show ¬ a < -2147483647 by omega), if_neg h1]
theorem partN_mono {a b : Int} (h : a ≤ b) : partN a ≤ partN b := by
  rw [partN_cases, partN_cases]
  by_cases h1 : a < 0
  · rw [if_pos h1]
    split
    · omega
    · split <;> omega
  · rw [if_neg h1, if_neg (show ¬ b < 0 by omega)]
    split <;> split <;> omega
def shareN (a b : Int) : Int := partN a * 65536 / (partN a + partN b)
theorem shareN_range (a b : Int) : 0 ≤ shareN a b ∧ shareN a b ≤ 65536 := by
  have ha := partN_range a
  have hb := partN_range b
  unfold shareN
  exact ⟨Int.ediv_nonneg (by omega) (by omega), Int.ediv_le_of_le_mul (by omega) (by omega)⟩
theorem shareN_half {a b : Int} (h : b ≤ a) : 32768 ≤ shareN a b := by
  have ha := partN_range a
  have hb := partN_range b
  have := partN_mono h
  unfold shareN
  exact Int.le_ediv_of_mul_le (by omega) (by omega)
theorem shares_eq (a b : Int) : share_Shares.f a b = some (shareN a b, 65536 - shareN a b) := by
  have ha := partN_range a
  have hb := partN_range b
  have hs := shareN_range a b
  have ea : mx (hold a) 0 + 1 = partN a := rfl
  have eb : mx (hold b) 0 + 1 = partN b := rfl
  have e1 : wrap64 (partN a) = partN a := wrap_small (by omega) (by omega)
  have e2 : wrap64 (partN b) = partN b := wrap_small (by omega) (by omega)
  have e3 : wrap64 (partN a + partN b) = partN a + partN b := wrap_small (by omega) (by omega)
  have e4 : wrap64 (partN a * 65536) = partN a * 65536 := wrap_small (by omega) (by omega)
  have e5 : Int.tdiv (partN a * 65536) (partN a + partN b) = shareN a b := by rw [Int.tdiv_eq_ediv_of_nonneg (by omega)]; rfl
  have e6 : wrap64 (shareN a b) = shareN a b := wrap_small (by omega) (by omega)
  have e7 : wrap64 (65536 - shareN a b) = 65536 - shareN a b := wrap_small (by omega) (by omega)
  unfold share_Shares.f
  simp only [holdF, Option.bind_some, ea, eb, e1, e2, e3, e4, e5, e6, e7]
  rw [if_neg (by omega)]
def divN (t : Int) : Nat → Int → Int → Int
  | 0, q, _ => q
  | n + 1, q, r => if 2 * r ≥ t then divN t n (2 * q + 1) (2 * r - t) else divN t n (2 * q) (2 * r)
theorem divN_eq (t : Int) (ht : 0 < t) : ∀ (n : Nat) (q r : Int), 0 ≤ r → r < t → divN t n q r = q * 2 ^ n + r * 2 ^ n / t := by
  intro n
  induction n with
  | zero =>
    intro q r h0 h1
    simp only [divN, Int.pow_zero, Int.mul_one]
    rw [Int.ediv_eq_zero_of_lt h0 h1, Int.add_zero]
  | succ n ih =>
    intro q r h0 h1
    simp only [divN]
    have e2 : (2 : Int) ^ (n + 1) = 2 * 2 ^ n := by rw [Int.pow_succ, Int.mul_comm]
    rw [e2]
    generalize (2 : Int) ^ n = m at ih
    by_cases h : 2 * r ≥ t
    · rw [if_pos h, ih _ _ (by omega) (by omega)]
      have e : (2 * r - t) * m = r * (2 * m) + (-m) * t := by
        rw [Int.sub_mul, Int.neg_mul, Int.mul_comm m t, show r * (2 * m) = 2 * r * m by rw [← Int.mul_assoc, Int.mul_comm r 2]]
        omega
      rw [e, Int.add_mul_ediv_right _ _ (by omega)]
      have e3 : (2 * q + 1) * m = q * (2 * m) + m := by rw [Int.add_mul, Int.one_mul, show 2 * q * m = q * (2 * m) by rw [← Int.mul_assoc, Int.mul_comm q 2]]
      rw [e3]
      omega
    · rw [if_neg h, ih _ _ (by omega) (by omega)]
      rw [show 2 * q * m = q * (2 * m) by rw [← Int.mul_assoc, Int.mul_comm q 2], show 2 * r * m = r * (2 * m) by rw [← Int.mul_assoc, Int.mul_comm r 2]]
/-- What is chosen by scores of which a is the greatest one's place, b the second one's. -/
def chooseS (s : List Int) (a b : Int) : Int × Int × Int × Int × Bool := if b ≥ 0 then (a, b, shareN (rd s a) (rd s b), 65536 - shareN (rd s a) (rd s b), true) else (a, b, 65536, 0, true)
theorem best_there {s : List Int} {a : Int} (h0 : 0 < s.length) (h : IsBest s (-1) s.length a) : 0 ≤ a ∧ a < s.length := by
  rcases h with ⟨e, h⟩ | ⟨h1, h2, _⟩
  · have := h 0 (by omega) (by omega); omega
  · exact ⟨h1, h2⟩
theorem second_there {s : List Int} {a b : Int} (ha : 0 ≤ a ∧ a < s.length) (h : IsBest s a s.length b) : (b = -1 ∧ s.length = 1) ∨ (0 ≤ b ∧ b < s.length ∧ b ≠ a ∧ 1 < s.length) := by
  rcases h with ⟨e, h⟩ | ⟨h1, h2, h3, _⟩
  · refine .inl ⟨e, ?_⟩
    by_cases h5 : s.length = 1
    · exact h5
    · have h6 := h 0 (by omega) (by omega)
      have h7 := h 1 (by omega) (by omega)
      omega
  · exact .inr ⟨h1, h2, h3, by omega⟩
theorem choose_j0 (s : List Int) (hn : s.length ≤ 140737488351232) (h0 : 0 < s.length) :
    ∃ a b, IsBest s (-1) s.length a ∧ IsBest s a s.length b ∧ Ev (fun k => gate_Choose.j0 k s false) (chooseS s a b) := by
  obtain ⟨a, b, hab, ha, hb⟩ := two_ev s hn
  refine ⟨a, b, ha, hb, ?_⟩
  have h1 := best_there h0 ha
  have h2 := second_there h1 hb
  refine ev_shift ?_
  simp only [gate_Choose.j0, if_neg (show ¬ (false = true) by decide)]
  refine Ev.bind hab ?_
  unfold chooseS
  by_cases h : b ≥ 0
  · simp only [if_pos h, if_pos h1.1, if_pos h1.2, if_pos (show b < (s.length : Int) by omega), shares_eq, Option.bind_some]
    exact Ev.now _
  · simp only [if_neg h]
    exact Ev.now _
/-- Rows that are as long as v, and there. -/
def FitR (rows : List (List Int)) (v : List Int) : Prop := Fit rows v ∧ 0 < rows.length
theorem choose_yes (rows : List (List Int)) (v : List Int) (hm : rows.length < 17592186044416) (hv : v.length ≤ 9223372036854775806) (hf : Fit rows v) (h0 : 0 < rows.length) {r : Int × Int × Int × Int × Bool}
    (h : Ev (fun k => gate_Choose.j0 k (applyTo rows v rows.length) false) r) : Ev (fun k => gate_Choose.f k rows v) r := by
  unfold gate_Choose.f
  refine Ev.bind (apply_yes rows v hm hv hf) ?_
  have e : (((rows.length : Int)) == 0) = false := beq_eq_false_iff_ne.2 (by omega)
  simp only [if_true, e]
  exact h
theorem choose_no (rows : List (List Int)) (v : List Int) (hm : rows.length < 17592186044416) (hv : v.length ≤ 9223372036854775806) (hl : ∀ r ∈ rows, r.length ≤ 9223372036854775806) (h : ¬ (Fit rows v ∧ 0 < rows.length)) : Ev (fun k => gate_Choose.f k rows v) (0, 0, 0, 0, false) := by
  unfold gate_Choose.f
  have hj : ∀ s : List Int, Ev (fun k => gate_Choose.j0 k s true) (0, 0, 0, 0, false) := fun s => by
    refine ev_shift ?_
    simp only [gate_Choose.j0, if_true]
    exact Ev.now _
  by_cases hf : Fit rows v
  · refine Ev.bind (apply_yes rows v hm hv hf) ?_
    have e : (((rows.length : Int)) == 0) = true := beq_iff_eq.2 (by have : ¬ 0 < rows.length := fun h2 => h ⟨hf, h2⟩; omega)
    simp only [if_true, e]
    exact hj _
  · refine Ev.bind (apply_no rows v hm hv hl hf) ?_
    simp only [if_neg (show ¬ (false = true) by decide)]
    exact hj _

theorem awake_ev : Ev (fun k => switchboardlaw13_awake.f k) true :=
  Ev.of switchboardlaw13_awake.mono (k := 20) (by decide +kernel)
theorem awake2 : Ev (fun k => (switchboardlaw13_awake.f k).bind fun t => some t) true := Ev.bind awake_ev (Ev.now true)

theorem ones_true (row v : List Int) : Ev (fun k => switchboardlaw13_GateOnes.j0 k row v true) true := by
  refine ev_shift ?_
  simp only [switchboardlaw13_GateOnes.j0, if_true]
  exact awake2
theorem shareN_even (x : Int) : shareN x x = 32768 := by
  have h := partN_range x
  unfold shareN
  rw [show partN x * 65536 = 32768 * (partN x + partN x) by omega]
  exact Int.mul_ediv_cancel _ (by omega)
theorem ones_one (row v : List Int) (hv : v.length ≤ 30) (h : row.length = v.length) : Ev (fun k => gate_Choose.f k [row] v) (0, -1, 65536, 0, true) := by
  have f1 : Fit [row] v := fun r hr => by rw [List.mem_singleton] at hr; rw [hr]; exact h
  obtain ⟨a, b, ha, hb, hr⟩ := choose_j0 (applyTo [row] v ([row] : List (List Int)).length) (by rw [applyTo_length]; simp) (by rw [applyTo_length]; simp)
  have hc := choose_yes [row] v (by simp) (by omega) f1 (by simp) hr
  have h1 := best_there (by rw [applyTo_length]; simp) ha
  have h2 := second_there h1 hb
  rw [applyTo_length] at h1 h2
  simp only [List.length_cons, List.length_nil] at h1 h2
  have e1 : a = 0 := by omega
  have e2 : b = -1 := by omega
  subst e1
  subst e2
  exact hc
theorem ones_two (row v : List Int) (hv : v.length ≤ 30) (h : row.length = v.length) : Ev (fun k => gate_Choose.f k [row, row] v) (0, 1, 32768, 32768, true) := by
  have f1 : Fit [row, row] v := fun r hr => by
    simp only [List.mem_cons, List.not_mem_nil, or_false, or_self] at hr
    rw [hr]; exact h
  obtain ⟨a, b, ha, hb, hr⟩ := choose_j0 (applyTo [row, row] v ([row, row] : List (List Int)).length) (by rw [applyTo_length]; simp) (by rw [applyTo_length]; simp)
  have hc := choose_yes [row, row] v (by simp) (by omega) f1 (by simp) hr
  have h1 := best_there (by rw [applyTo_length]; simp) ha
  have h2 := second_there h1 hb
  rw [applyTo_length] at h1 h2
  simp only [List.length_cons, List.length_nil] at h1 h2
  have s0 : rd (applyTo [row, row] v ([row, row] : List (List Int)).length) 0 = dotN row v v.length := rd_applyTo [row, row] v (n := 2) (i := 0) (by omega)
  have s1 : rd (applyTo [row, row] v ([row, row] : List (List Int)).length) 1 = dotN row v v.length := rd_applyTo [row, row] v (n := 2) (i := 1) (by omega)
  have e1 : a = 0 := by
    rcases ha with ⟨e, _⟩ | ⟨_, _, _, h4⟩
    · omega
    · by_cases e : a = 0
      · exact e
      · have e' : a = 1 := by omega
        subst e'
        have := (h4 0 (by omega) (by rw [applyTo_length]; simp) (by omega)).2 (by omega)
        rw [s0, s1] at this
        omega
  subst e1
  have e2 : b = 1 := by omega
  subst e2
  unfold chooseS at hc
  rw [if_pos (by decide), s0, s1, shareN_even] at hc
  exact hc
theorem ones_false (row v : List Int) (hr : row.length ≤ 30) (hv : v.length ≤ 30) : Ev (fun k => switchboardlaw13_GateOnes.j0 k row v false) true := by
  refine ev_shift ?_
  simp only [switchboardlaw13_GateOnes.j0, if_neg (show ¬ (false = true) by decide)]
  by_cases h : row.length = v.length
  · refine Ev.bind (ones_one row v hv h) (Ev.bind (ones_two row v hv h) ?_)
    simp only [if_pos (show (row.length : Int) = (v.length : Int) by omega), if_true, beq_self_eq_true, Bool.and_self]
    exact awake2
  · have n1 : ¬ (Fit [row] v ∧ 0 < ([row] : List (List Int)).length) := fun hc => h (hc.1 row (by simp))
    have n2 : ¬ (Fit [row, row] v ∧ 0 < ([row, row] : List (List Int)).length) := fun hc => h (hc.1 row (by simp))
    refine Ev.bind (choose_no [row] v (by simp) (by omega) (fun r hx => by rw [List.mem_singleton] at hx; rw [hx]; omega) n1) ?_
    refine Ev.bind (choose_no [row, row] v (by simp) (by omega) (fun r hx => by
      simp only [List.mem_cons, List.not_mem_nil, or_false, or_self] at hx
      rw [hx]; omega) n2) ?_
    simp only [if_neg (show ¬ (row.length : Int) = (v.length : Int) by omega), if_neg (show ¬ (false = true) by decide), beq_self_eq_true, Bool.and_self, if_true]
    exact awake2
theorem GateOnes : GateOnesPure := by
  intro row v _ _ _ _
  refine ev_rounds ?_
  unfold switchboardlaw13_GateOnes.f
  by_cases h : (row.length : Int) > 30
  · simp only [if_pos h]
    exact ones_true row v
  · simp only [if_neg h]
    by_cases h2 : (v.length : Int) > 30
    · simp only [decide_eq_true h2]
      exact ones_true row v
    · simp only [decide_eq_false h2]
      exact ones_false row v (by omega) (by omega)

end Go.Proofs.Ytffgndmmlhkkmaa.Pure
