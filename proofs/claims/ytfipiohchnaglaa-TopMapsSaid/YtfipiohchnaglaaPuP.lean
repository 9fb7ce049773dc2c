/- Own text, by hand: what the functions answer, as plain functions. -/
import Derived.Test.YtfipiohchnaglaaPu0
import Derived.Test.YtfipiohchnaglaaPu1
import Derived.Test.YtfipiohchnaglaaPu2
import Derived.Test.YtfipiohchnaglaaPu3
import Derived.Test.YtfipiohchnaglaaPu4
import Derived.Test.YtfipiohchnaglaaPu5
import Derived.Test.YtfipiohchnaglaaPu6
import Derived.Test.YtfipiohchnaglaaPu7
import Derived.Test.YtfipiohchnaglaaPu8
import Derived.Test.YtfipiohchnaglaaPu9
import Derived.Test.YtfipiohchnaglaaPu10
import Derived.Test.YtfipiohchnaglaaPu11
import Derived.Test.YtfipiohchnaglaaPu12
import Derived.Test.YtfipiohchnaglaaPu13
import Derived.Test.YtfipiohchnaglaaPu14
import Derived.Test.YtfipiohchnaglaaPu15
import Derived.Test.YtfipiohchnaglaaPu16
namespace Go.Proofs.Ytfipiohchnaglaa.Pu
open Go.RowKit Go.Proofs.YtfipiohchnaglaaW.PrintWords Go.Proofs.YtfipiohchnaglaaW.PrintLast Go.Proofs.YtfipiohchnaglaaW.PrintMore
attribute [local go_sem] max2_int min2_int max_two min_two max_three min_three max_four min_four
set_option linter.unusedVariables false
set_option linter.unusedSimpArgs false

theorem wrap_small {i : Int} (h0 : -9223372036854775808 ≤ i) (h1 : i < 9223372036854775808) : wrap64 i = i := by
  unfold wrap64
  omega

theorem ev_shift {α : Type} {g : Nat → Option α} {r : α} (h : Ev (fun k => g (k + 1)) r) : Ev g r := Ev.step (fun _ => rfl) h

theorem rd_get {v : List Int} {i : Int} (h0 : 0 ≤ i) (h1 : i < v.length) : ∃ h : i.toNat < v.length, rd v i = v[i.toNat]'h := by
  refine ⟨by omega, ?_⟩
  unfold rd
  rw [List.getD_eq_getElem?_getD, List.getElem?_eq_getElem (by omega)]
  rfl

theorem hold_range (x : Int) : -2147483647 ≤ hold x ∧ hold x ≤ 2147483647 := by
  unfold hold mx mn
  split <;> split <;> omega
theorem addI_eq (a b : Int) : addI a b = hold (hold a + hold b) := by
  unfold addI
  have h1 := hold_range a
  have h2 := hold_range b
  rw [wrap_small (by omega) (by omega)]
theorem addI_range (a b : Int) : -2147483647 ≤ addI a b ∧ addI a b ≤ 2147483647 := by rw [addI_eq]; exact hold_range _
theorem addF (a b : Int) : fix_Add.f a b = some (addI a b) := rfl
theorem mulF (a b : Int) : fix_Mul.f a b = some (mulI a b) := rfl
theorem holdF (a : Int) : fix_Hold.f a = some (hold a) := rfl

/-- The products of the first numbers, added. -/
def dotN (a b : List Int) : Nat → Int
  | 0 => 0
  | n + 1 => addI (dotN a b n) (mulI (rd a n) (rd b n))
theorem dotN_range (a b : List Int) (n : Nat) : -2147483647 ≤ dotN a b n ∧ dotN a b n ≤ 2147483647 := by
  cases n with
  | zero => simp [dotN]
  | succ n => exact addI_range _ _
theorem dot_l0 (a b : List Int) (hl : a.length = b.length) (hn : a.length ≤ 9223372036854775806) : ∀ (d i : Nat), i + d = a.length →
    Ev (fun k => vec_Dot.l0 k b (dotN a b i) a (a.length : Int) i) (dotN a b a.length, true) := by
  intro d
  induction d with
  | zero =>
    intro i hi
    have e : i = a.length := by omega
    subst e
    refine Ev.step (f := fun _ => some _) (fun k => ?_) (Ev.now _)
    simp only [vec_Dot.l0]
    rw [if_neg (by omega)]
  | succ d ih =>
    intro i hi
    have hw : wrap64 ((i : Int) + 1) = ((i + 1 : Nat) : Int) := by rw [wrap_small (by omega) (by omega)]; omega
    refine Ev.step (fun k => ?_) (ih (i + 1) (by omega))
    simp only [vec_Dot.l0, mulF, addF, Option.bind_some]
    rw [if_pos (by omega), if_pos (by omega), if_pos (by omega), if_pos (by omega), hw]
    rfl
theorem dot_ev (a b : List Int) (hl : a.length = b.length) (hn : a.length ≤ 9223372036854775806) : Ev (fun k => vec_Dot.f k a b) (dotN a b a.length, true) := by
  unfold vec_Dot.f
  simp only [if_pos (show (a.length : Int) = (b.length : Int) by omega)]
  exact dot_l0 a b hl hn a.length 0 (by omega)
def IsBest (v : List Int) (but i b : Int) : Prop :=
  (b = -1 ∧ ∀ j, 0 ≤ j → j < i → j = but) ∨
  (0 ≤ b ∧ b < i ∧ b ≠ but ∧ ∀ j, 0 ≤ j → j < i → j ≠ but → rd v j ≤ rd v b ∧ (j < b → rd v j < rd v b))

theorem isBest_step {v : List Int} {but i b r : Int} (h0 : 0 ≤ i) (h : IsBest v but i b)
    (hr : (i = but ∧ r = b) ∨ (i ≠ but ∧ b < 0 ∧ r = i) ∨ (i ≠ but ∧ 0 ≤ b ∧ rd v i > rd v b ∧ r = i) ∨ (i ≠ but ∧ 0 ≤ b ∧ ¬ rd v i > rd v b ∧ r = b)) :
    IsBest v but (i + 1) r := by
  rcases hr with ⟨e, rfl⟩ | ⟨ne, hb, rfl⟩ | ⟨ne, hb, hg, rfl⟩ | ⟨ne, hb, hg, rfl⟩
  · rcases h with ⟨h1, h2⟩ | ⟨h1, h2, h3, h4⟩
    · refine .inl ⟨h1, fun j j0 j1 => ?_⟩
      by_cases e' : j < i
      · exact h2 j j0 e'
      · omega
    · refine .inr ⟨h1, by omega, h3, fun j j0 j1 jn => h4 j j0 (by omega) jn⟩
  · rcases h with ⟨h1, h2⟩ | ⟨h1, _⟩
    · refine .inr ⟨h0, by omega, ne, fun j j0 j1 jn => ?_⟩
      by_cases e' : j < r
      · exact absurd (h2 j j0 e') jn
      · have : j = r := by omega
        subst this
        exact ⟨Int.le_refl _, fun h => by omega⟩
    · omega
  · rcases h with ⟨h1, h2⟩ | ⟨h1, h2, h3, h4⟩
    · omega
    · refine .inr ⟨h0, by omega, ne, fun j j0 j1 jn => ?_⟩
      by_cases e' : j < r
      · have := h4 j j0 e' jn
        exact ⟨by omega, fun _ => by omega⟩
      · have : j = r := by omega
        subst this
        exact ⟨Int.le_refl _, fun h => by omega⟩
  · rcases h with ⟨h1, h2⟩ | ⟨h1, h2, h3, h4⟩
    · omega
    · refine .inr ⟨h1, by omega, h3, fun j j0 j1 jn => ?_⟩
      by_cases e' : j < i
      · exact h4 j j0 e' jn
      · have : j = i := by omega
        subst this
        exact ⟨by omega, fun h => by omega⟩

theorem beside_l0 (v : List Int) (but : Int) (hn : v.length ≤ 140737488351232) : ∀ (d : Nat) (i b : Int), 0 ≤ i → i + d = v.length → IsBest v but i b →
    ∃ r, Ev (fun k => top_beside.l0 k v but b v (v.length : Int) i) r ∧ IsBest v but v.length r := by
  intro d
  induction d with
  | zero =>
    intro i b h0 hi hb
    have e : i = v.length := by omega
    subst e
    refine ⟨b, Ev.step (f := fun _ => some b) (fun k => ?_) (Ev.now b), hb⟩
    simp only [top_beside.l0]
    rw [if_neg (by omega)]
  | succ d ih =>
    intro i b h0 hi hb
    have hlt : i < (v.length : Int) := by omega
    have hw : wrap64 (i + 1) = i + 1 := wrap_small (by omega) (by omega)
    by_cases e : i = but
    · obtain ⟨r, hr, hq⟩ := ih (i + 1) b (by omega) (by omega) (isBest_step h0 hb (.inl ⟨e, rfl⟩))
      refine ⟨r, Ev.step (fun k => ?_) hr, hq⟩
      simp only [top_beside.l0]
      rw [if_pos hlt, if_pos h0, if_pos hlt, if_pos e, hw]
    · by_cases e1 : b < 0
      · obtain ⟨r, hr, hq⟩ := ih (i + 1) i (by omega) (by omega) (isBest_step h0 hb (.inr (.inl ⟨e, e1, rfl⟩)))
        refine ⟨r, Ev.step (fun k => ?_) hr, hq⟩
        simp only [top_beside.l0]
        rw [if_pos hlt, if_pos h0, if_pos hlt, if_neg e, if_pos e1, hw]
      · have hbl : b < (v.length : Int) := by
          rcases hb with ⟨h1, _⟩ | ⟨_, h2, _⟩ <;> omega
        by_cases e2 : rd v i > rd v b
        · obtain ⟨r, hr, hq⟩ := ih (i + 1) i (by omega) (by omega) (isBest_step h0 hb (.inr (.inr (.inl ⟨e, by omega, e2, rfl⟩))))
          refine ⟨r, Ev.step (fun k => ?_) hr, hq⟩
          simp only [top_beside.l0]
          rw [if_pos hlt, if_pos h0, if_pos hlt, if_neg e, if_neg e1, if_pos (by omega), if_pos hbl, if_pos e2, hw]
        · obtain ⟨r, hr, hq⟩ := ih (i + 1) b (by omega) (by omega) (isBest_step h0 hb (.inr (.inr (.inr ⟨e, by omega, e2, rfl⟩))))
          refine ⟨r, Ev.step (fun k => ?_) hr, hq⟩
          simp only [top_beside.l0]
          rw [if_pos hlt, if_pos h0, if_pos hlt, if_neg e, if_neg e1, if_pos (by omega), if_pos hbl, if_neg e2, hw]

theorem beside_ev (v : List Int) (but : Int) (hn : v.length ≤ 140737488351232) :
    ∃ r, Ev (fun k => top_beside.f k v but) r ∧ IsBest v but v.length r :=
  beside_l0 v but hn v.length 0 (-1) (by omega) (by omega) (.inl ⟨rfl, fun j h1 h2 => by omega⟩)

theorem best_ev (v : List Int) (hn : v.length ≤ 140737488351232) :
    ∃ r, Ev (fun k => top_Best.f k v) r ∧ IsBest v (-1) v.length r := by
  obtain ⟨r, hr, h⟩ := beside_ev v (-1) hn
  exact ⟨r, Ev.bind hr (Ev.now r), h⟩

theorem two_ev (v : List Int) (hn : v.length ≤ 140737488351232) :
    ∃ a b, Ev (fun k => top_Two.f k v) (a, b) ∧ IsBest v (-1) v.length a ∧ IsBest v a v.length b := by
  obtain ⟨a, ha, h⟩ := best_ev v hn
  obtain ⟨b, hb, h'⟩ := beside_ev v a hn
  exact ⟨a, b, Ev.bind ha (Ev.bind hb (Ev.now (a, b))), h, h'⟩

theorem same_l0 (a : List Int) (hn : a.length ≤ 9223372036854775806) : ∀ (d i : Nat), i + d = a.length →
    Ev (fun k => switchboardref02_Same.l0 k a a i) true := by
  intro d
  induction d with
  | zero =>
    intro i hi
    refine Ev.step (f := fun _ => some _) (fun k => ?_) (Ev.now _)
    simp only [switchboardref02_Same.l0]
    rw [if_neg (by omega)]
  | succ d ih =>
    intro i hi
    have hw : wrap64 ((i : Int) + 1) = ((i + 1 : Nat) : Int) := by rw [wrap_small (by omega) (by omega)]; omega
    refine Ev.step (fun k => ?_) (ih (i + 1) (by omega))
    simp only [switchboardref02_Same.l0, if_true]
    rw [if_pos (by omega), if_pos (by omega), if_pos (by omega), hw]
theorem same_refl (a : List Int) (hn : a.length ≤ 9223372036854775806) : Ev (fun k => switchboardref02_Same.f k a a) true := by
  unfold switchboardref02_Same.f
  simp only [if_true]
  exact same_l0 a hn a.length 0 (by omega)
theorem rd_mapTo (F : Int → Int → Int) (l : List Int) {n i : Nat} (h : i < n) : rd (mapTo F l n) i = F (i : Int) (rd l (i : Int)) := by
  unfold rd mapTo
  rw [List.getD_eq_getElem?_getD, Int.toNat_natCast, List.getElem?_map, List.getElem?_range h]
  rfl
theorem add_yes {a b : List Int} (hl : a.length = b.length) (hn : a.length < 17592186044416) : vec_Add.f a b = some (mapTo (fun i x => addI x (rd b i)) a a.length, true) := by
  unfold vec_Add.f
  rw [if_pos (by omega), if_pos hn]
theorem scale_f {a : List Int} (k : Int) (hn : a.length < 17592186044416) : vec_Scale.f a k = some (mapTo (fun _ x => mulI x k) a a.length) := by
  unfold vec_Scale.f
  rw [if_pos hn]

theorem relu_f {a : List Int} (hn : a.length < 17592186044416) : vec_Relu.f a = some (mapTo (fun _ x => mx (hold x) 0) a a.length) := by
  unfold vec_Relu.f
  rw [if_pos hn]
theorem rdL_get {m : List (List Int)} {i : Nat} (h : i < m.length) : rd_L1 m (i : Int) = m[i] := by
  unfold rd_L1
  rw [Int.toNat_natCast, List.getD_eq_getElem?_getD, List.getElem?_eq_getElem h]
  rfl
theorem rdL_mem {m : List (List Int)} {i : Nat} (h : i < m.length) : rd_L1 m (i : Int) ∈ m := by
  rw [rdL_get h]
  exact List.getElem_mem h
/-- Rows by a row, those in order from place i on; 'none': one is not as long. -/
def applyTo (m : List (List Int)) (v : List Int) : Nat → List Int
  | 0 => []
  | n + 1 => applyTo m v n ++ [dotN (rd_L1 m (n : Int)) v v.length]
theorem applyTo_length (m : List (List Int)) (v : List Int) : ∀ n, (applyTo m v n).length = n := by
  intro n
  induction n with
  | zero => rfl
  | succ n ih => simp only [applyTo, List.length_append, ih]; rfl
/-- Is each row as long as v? -/
def Fit (m : List (List Int)) (v : List Int) : Prop := ∀ r ∈ m, r.length = v.length
instance (m : List (List Int)) (v : List Int) : Decidable (Fit m v) := by unfold Fit; infer_instance
theorem apply_l0 (m : List (List Int)) (v : List Int) (hm : m.length < 17592186044416) (hv : v.length ≤ 9223372036854775806) (hf : Fit m v) : ∀ (d i : Nat), i + d = m.length →
    Ev (fun k => mat_Apply.l0 k v (applyTo m v i) m (m.length : Int) i) (applyTo m v m.length, true) := by
  intro d
  induction d with
  | zero =>
    intro i hi
    have e : i = m.length := by omega
    subst e
    refine ev_shift ?_
    simp only [mat_Apply.l0, if_neg (show ¬ (m.length : Int) < (m.length : Int) by omega)]
    exact Ev.now _
  | succ d ih =>
    intro i hi
    have hw : wrap64 ((i : Int) + 1) = ((i + 1 : Nat) : Int) := by rw [wrap_small (by omega) (by omega)]; omega
    have hr := hf _ (rdL_mem (m := m) (i := i) (by omega))
    refine ev_shift ?_
    simp only [mat_Apply.l0, if_pos (show (i : Int) < (m.length : Int) by omega), if_pos (show (0 : Int) ≤ (i : Int) by omega), hw]
    refine Ev.bind (dot_ev _ v hr (by omega)) ?_
    simp only [if_true, applyTo_length, if_pos (show i < 17592186044416 by omega), hr]
    exact ih (i + 1) (by omega)
theorem apply_yes (m : List (List Int)) (v : List Int) (hm : m.length < 17592186044416) (hv : v.length ≤ 9223372036854775806) (hf : Fit m v) : Ev (fun k => mat_Apply.f k m v) (applyTo m v m.length, true) :=
  apply_l0 m v hm hv hf m.length 0 (by omega)
theorem small_j1_false (m : List (List Int)) (i : Int) : Ev (fun k => switchboardref03_Small.j1 k m i false) (decide ((m.length : Int) ≤ 30)) := by
  refine ev_shift ?_
  simp only [switchboardref03_Small.j1, if_neg (show ¬ (false = true) by decide)]
  exact Ev.now _
/-- Rows are few, and short. -/
def Few (m : List (List Int)) : Prop := m.length ≤ 30 ∧ ∀ r ∈ m, r.length ≤ 30
theorem small_l0 (m : List (List Int)) : ∀ (d i : Nat), i + d = 30 → (∀ j : Nat, j < i → j < m.length → (rd_L1 m (j : Int)).length ≤ 30) →
    ∃ b : Bool, Ev (fun k => switchboardref03_Small.l0 k m i) b ∧ (b = true → Few m) := by
  intro d
  induction d with
  | zero =>
    intro i hi hq
    by_cases h : (i : Int) < (m.length : Int)
    · refine ⟨decide ((m.length : Int) ≤ 30), ?_, ?_⟩
      · refine ev_shift ?_
        simp only [switchboardref03_Small.l0, if_pos h, decide_eq_false (show ¬ (i : Int) < 30 by omega)]
        exact small_j1_false m i
      · intro hb
        have := of_decide_eq_true hb
        omega
    · refine ⟨decide ((m.length : Int) ≤ 30), ?_, ?_⟩
      · refine ev_shift ?_
        simp only [switchboardref03_Small.l0, if_neg h]
        exact small_j1_false m i
      · intro hb
        refine ⟨by omega, fun r hr => ?_⟩
        obtain ⟨j, hj, rfl⟩ := List.getElem_of_mem hr
        have := hq j (by omega) hj
        rwa [rdL_get hj] at this
  | succ d ih =>
    intro i hi hq
    have hw : wrap64 ((i : Int) + 1) = ((i + 1 : Nat) : Int) := by rw [wrap_small (by omega) (by omega)]; omega
    by_cases h : (i : Int) < (m.length : Int)
    · by_cases h2 : ((rd_L1 m (i : Int)).length : Int) > 30
      · refine ⟨false, ?_, fun hb => by cases hb⟩
        refine ev_shift ?_
        simp only [switchboardref03_Small.l0, if_pos h, decide_eq_true (show (i : Int) < 30 by omega)]
        refine ev_shift ?_
        simp only [switchboardref03_Small.j1, if_true, if_pos (show (0 : Int) ≤ (i : Int) by omega), if_pos h, if_pos h2]
        exact Ev.now _
      · obtain ⟨b, hb, hq2⟩ := ih (i + 1) (by omega) (fun j hj hl => by
          by_cases e : j < i
          · exact hq j e hl
          · have : j = i := by omega
            subst this
            omega)
        refine ⟨b, ?_, hq2⟩
        refine ev_shift ?_
        simp only [switchboardref03_Small.l0, if_pos h, decide_eq_true (show (i : Int) < 30 by omega)]
        refine ev_shift ?_
        simp only [switchboardref03_Small.j1, if_true, if_pos (show (0 : Int) ≤ (i : Int) by omega), if_pos h, if_neg h2, hw]
        exact hb
    · refine ⟨decide ((m.length : Int) ≤ 30), ?_, ?_⟩
      · refine ev_shift ?_
        simp only [switchboardref03_Small.l0, if_neg h]
        exact small_j1_false m i
      · intro hb
        refine ⟨of_decide_eq_true hb |> fun z => by omega, fun r hr => ?_⟩
        obtain ⟨j, hj, rfl⟩ := List.getElem_of_mem hr
        have := hq j (by omega) hj
        rwa [rdL_get hj] at this
theorem small_ev (m : List (List Int)) : ∃ b : Bool, Ev (fun k => switchboardref03_Small.f k m) b ∧ (b = true → Few m) :=
  small_l0 m 30 0 (by omega) (fun j hj => by omega)

theorem notHeld_eq (x : Int) : notHeld x = (decide (x > 2147483647) || decide (x < -2147483647)) := by
  unfold notHeld holdR mx mn
  rw [Bool.eq_iff_iff]
  simp only [decide_eq_true_eq, Bool.or_eq_true]
  split <;> split <;> omega

theorem ref_right_l1 (m : List (List Int)) (c : Int) (i : Nat) (hi : i < m.length) (rest : Bool) (hrow : (rd_L1 m (i : Int)).length ≤ 9223372036854775806) (hm : m.length ≤ 9223372036854775806)
    (hr : Ev (fun k => switchboardref03_Right.l0 k m c ((i + 1 : Nat) : Int)) rest) : ∀ (d j : Nat), j + d = (rd_L1 m (i : Int)).length →
    Ev (fun k => switchboardref03_Right.l1 k m c i j) (!(((rd_L1 m (i : Int)).drop j).any notHeld) && rest) := by
  intro d
  have hwi : wrap64 ((i : Int) + 1) = ((i + 1 : Nat) : Int) := by rw [wrap_small (by omega) (by omega)]; omega
  induction d with
  | zero =>
    intro j hj
    refine ev_shift ?_
    simp only [switchboardref03_Right.l1, if_pos (show (0 : Int) ≤ (i : Int) by omega), if_pos (show (i : Int) < (m.length : Int) by omega), if_neg (show ¬ (j : Int) < ((rd_L1 m (i : Int)).length : Int) by omega), hwi]
    rw [List.drop_eq_nil_of_le (by omega)]
    exact hr
  | succ d ih =>
    intro j hj
    have hwj : wrap64 ((j : Int) + 1) = ((j + 1 : Nat) : Int) := by rw [wrap_small (by omega) (by omega)]; omega
    obtain ⟨h', e⟩ := rd_get (v := rd_L1 m (i : Int)) (i := (j : Int)) (by omega) (by omega)
    have hd : (rd_L1 m (i : Int)).drop j = rd (rd_L1 m (i : Int)) (j : Int) :: (rd_L1 m (i : Int)).drop (j + 1) := by
      rw [e]
      simp only [Int.toNat_natCast]
      exact List.drop_eq_getElem_cons _
    rw [hd, List.any_cons, notHeld_eq]
    refine ev_shift ?_
    simp only [switchboardref03_Right.l1, if_pos (show (0 : Int) ≤ (i : Int) by omega), if_pos (show (i : Int) < (m.length : Int) by omega), if_pos (show (j : Int) < ((rd_L1 m (i : Int)).length : Int) by omega), if_pos (show (0 : Int) ≤ (j : Int) by omega), hwj]
    by_cases h1 : rd (rd_L1 m (i : Int)) (j : Int) > 2147483647
    · simp only [if_pos h1, decide_eq_true h1, Bool.true_or, Bool.not_true, Bool.false_and]
      exact Ev.now _
    · by_cases h2 : rd (rd_L1 m (i : Int)) (j : Int) < -2147483647
      · simp only [if_neg h1, if_pos h2, decide_eq_true h2, Bool.or_true, Bool.true_or, Bool.not_true, Bool.false_and]
        exact Ev.now _
      · simp only [if_neg h1, if_neg h2, decide_eq_false h1, decide_eq_false h2, Bool.or_false, Bool.false_or]
        exact ih (j + 1) (by omega)
theorem ref_right_l0 (m : List (List Int)) (c : Int) (hm : m.length ≤ 9223372036854775806) (hl : ∀ r ∈ m, r.length ≤ 9223372036854775806) : ∀ (d i : Nat), i + d = m.length →
    Ev (fun k => switchboardref03_Right.l0 k m c i) (!((m.drop i).any (rowWrong c))) := by
  intro d
  induction d with
  | zero =>
    intro i hi
    refine ev_shift ?_
    simp only [switchboardref03_Right.l0, if_neg (show ¬ (i : Int) < (m.length : Int) by omega)]
    rw [List.drop_eq_nil_of_le (by omega)]
    exact Ev.now _
  | succ d ih =>
    intro i hi
    have hil : i < m.length := by omega
    have hd : m.drop i = rd_L1 m (i : Int) :: m.drop (i + 1) := by rw [rdL_get hil]; exact List.drop_eq_getElem_cons hil
    rw [hd, List.any_cons]
    refine ev_shift ?_
    simp only [switchboardref03_Right.l0, if_pos (show (i : Int) < (m.length : Int) by omega), if_pos (show (0 : Int) ≤ (i : Int) by omega)]
    by_cases h : ((rd_L1 m (i : Int)).length : Int) = c
    · simp only [if_pos h]
      have := ref_right_l1 m c i hil _ (hl _ (rdL_mem hil)) hm (ih (i + 1) (by omega)) _ 0 (by omega : 0 + (rd_L1 m (i : Int)).length = _)
      have e : (!(rowWrong c (rd_L1 m (i : Int)) || (m.drop (i + 1)).any (rowWrong c))) = (!(((rd_L1 m (i : Int)).drop 0).any notHeld) && !((m.drop (i + 1)).any (rowWrong c))) := by
        unfold rowWrong
        rw [decide_eq_false (show ¬ ¬ ((rd_L1 m (i : Int)).length : Int) = c from fun hc => hc h), Bool.false_or, Bool.not_or]
        rfl
      rw [e]
      exact this
    · simp only [if_neg h]
      have e : rowWrong c (rd_L1 m (i : Int)) = true := by
        unfold rowWrong
        rw [decide_eq_true h, Bool.true_or]
      rw [e, Bool.true_or]
      exact Ev.now _
theorem ref_right (m : List (List Int)) (rows c : Int) (hm : m.length ≤ 9223372036854775806) (hl : ∀ r ∈ m, r.length ≤ 9223372036854775806) :
    Ev (fun k => switchboardref03_Right.f k m rows c) (decide ((m.length : Int) = rows) && !(m.any (rowWrong c))) := by
  unfold switchboardref03_Right.f
  by_cases h : (m.length : Int) = rows
  · simp only [if_pos h, decide_eq_true h, Bool.true_and]
    exact ref_right_l0 m c hm hl m.length 0 (by omega)
  · simp only [if_neg h, decide_eq_false h, Bool.false_and]
    exact Ev.now _

/-- How often a number stands in a row. -/
def nb (x : Int) : List Int → Int
  | [] => 0
  | y :: r => (if y = x then 1 else 0) + nb x r
theorem nb_append (x : Int) (a b : List Int) : nb x (a ++ b) = nb x a + nb x b := by
  induction a with
  | nil => simp [nb]
  | cons y r ih => simp only [List.cons_append, nb, ih]; omega
theorem nb_range (x : Int) (a : List Int) : 0 ≤ nb x a ∧ nb x a ≤ a.length := by
  induction a with
  | nil => simp [nb]
  | cons y r ih => simp only [nb, List.length_cons]; split <;> omega
def flat : List S105 → List Int
  | [] => []
  | p :: r => p.f0 :: p.f1 :: flat r
/-- The slot of a part x behind the parts pre. -/
def slotS (e c : Int) (pre : List Int) (x : Int) : Int := if x < 0 then -1 else if x ≥ e then -1 else if nb x pre ≥ c then -1 else nb x pre
def slotsL (e c : Int) : List Int → List S105 → List S105
  | _, [] => []
  | pre, p :: r => (⟨slotS e c pre p.f0, slotS e c (pre ++ [p.f0]) p.f1⟩ : S105) :: slotsL e c (pre ++ [p.f0, p.f1]) r
/-- What the map holds behind the parts pre. -/
def Held (e c : Int) (g : Int → Int) (pre : List Int) : Prop := ∀ x, 0 ≤ x → x < e → (nb x pre < c → g x = nb x pre) ∧ (nb x pre ≥ c → g x ≥ c)
theorem held_slot {e c : Int} {g : Int → Int} {pre : List Int} (h : Held e c g pre) (x : Int) : slotOne e c g x = slotS e c pre x := by
  unfold slotOne slotS
  by_cases h1 : x < 0
  · rw [if_pos h1, if_pos h1]
  rw [if_neg h1, if_neg h1]
  by_cases h2 : x ≥ e
  · rw [if_pos h2, if_pos h2]
  rw [if_neg h2, if_neg h2]
  obtain ⟨ha, hb⟩ := h x (by omega) (by omega)
  by_cases h3 : nb x pre ≥ c
  · rw [if_pos (hb h3), if_pos h3]
  · rw [ha (by omega), if_neg h3]
theorem held_up {e c : Int} {g : Int → Int} {pre : List Int} (h : Held e c g pre) (x : Int) : Held e c (slotUp e c g x) (pre ++ [x]) := by
  intro y hy0 hy1
  obtain ⟨ha, hb⟩ := h y hy0 hy1
  have hn : nb y (pre ++ [x]) = nb y pre + (if x = y then 1 else 0) := by rw [nb_append]; simp [nb]
  unfold slotUp
  by_cases h1 : x < 0
  · rw [if_pos h1, hn, if_neg (by omega)]
    exact ⟨fun h => by rw [ha (by omega)]; omega, fun h => hb (by omega)⟩
  rw [if_neg h1]
  by_cases h2 : x ≥ e
  · rw [if_pos h2, hn, if_neg (by omega)]
    exact ⟨fun h => by rw [ha (by omega)]; omega, fun h => hb (by omega)⟩
  rw [if_neg h2]
  by_cases h3 : g x ≥ c
  · rw [if_pos h3, hn]
    by_cases e1 : x = y
    · subst e1
      rw [if_pos rfl]
      refine ⟨fun h => ?_, fun _ => h3⟩
      have := ha (by omega)
      omega
    · rw [if_neg e1]
      exact ⟨fun h => by rw [ha (by omega)]; omega, fun h => hb (by omega)⟩
  · rw [if_neg h3, hn]
    by_cases e1 : x = y
    · subst e1
      rw [if_pos rfl]
      simp only [if_true]
      have h4 : nb x pre < c := by
        refine Classical.byContradiction fun h5 => h3 (hb (by omega))
      have := ha h4
      exact ⟨fun _ => by omega, fun _ => by omega⟩
    · rw [if_neg e1]
      simp only [if_neg (show ¬ y = x from fun h => e1 h.symm)]
      exact ⟨fun h => by rw [ha (by omega)]; omega, fun h => hb (by omega)⟩
theorem assign_slots (e c : Int) : ∀ (l : List S105) (g : Int → Int) (pre : List Int), Held e c g pre → assignL e c g l = slotsL e c pre l
  | [], _, _, _ => rfl
  | p :: r, g, pre, h => by
    simp only [assignL, slotsL]
    have h1 := held_up h p.f0
    have h2 := held_up h1 p.f1
    rw [held_slot h, held_slot h1, assign_slots e c r _ _ h2, List.append_assoc]
    rfl
theorem slotsL_length (e c : Int) : ∀ (l : List S105) (pre : List Int), (slotsL e c pre l).length = l.length
  | [], _ => rfl
  | p :: r, pre => by simp only [slotsL, List.length_cons, slotsL_length e c r]
theorem slotsL_get (e c : Int) : ∀ (l : List S105) (pre : List Int) (t : Nat) (h : t < l.length) (h' : t < (slotsL e c pre l).length),
    (slotsL e c pre l)[t] = (⟨slotS e c (pre ++ flat (l.take t)) l[t].f0, slotS e c (pre ++ flat (l.take t) ++ [l[t].f0]) l[t].f1⟩ : S105)
  | [], _, _, h, _ => absurd h (by simp)
  | p :: r, pre, 0, _, _ => by simp only [slotsL, List.getElem_cons_zero, List.take_zero, flat, List.append_nil]
  | p :: r, pre, t + 1, h, h' => by
    simp only [slotsL, List.getElem_cons_succ, List.take_succ_cons, flat]
    rw [slotsL_get e c r (pre ++ [p.f0, p.f1]) t (by simpa using h) (by rw [slotsL_length]; simpa using h)]
    simp only [List.append_assoc, List.cons_append, List.nil_append]
theorem held_start (e c : Int) : Held e c (fun _ => 0) [] := fun x _ _ => ⟨fun _ => rfl, fun h => h⟩
theorem rdT_get {l : List S105} {t : Nat} (h : t < l.length) : rd_T105 l (t : Int) = l[t] := by
  unfold rd_T105
  rw [Int.toNat_natCast, List.getD_eq_getElem?_getD, List.getElem?_eq_getElem h]
  rfl
/-- The parts ahead of part k of token t. -/
def preK (l : List S105) (t : Nat) (k : Int) : List Int := if k = 0 then flat (l.take t) else flat (l.take t) ++ [(rd_T105 l (t : Int)).f0]
abbrev partK (l : List S105) (t : Nat) (k : Int) : Int := pick2 (rd_T105 l (t : Int)).f0 (rd_T105 l (t : Int)).f1 k
theorem partK_zero (l : List S105) (t : Nat) : partK l t 0 = (rd_T105 l (t : Int)).f0 := by unfold partK pick2; rw [if_pos rfl]
theorem partK_one (l : List S105) (t : Nat) : partK l t 1 = (rd_T105 l (t : Int)).f1 := by unfold partK pick2; rw [if_neg (by omega)]
theorem assign_len (e c : Int) (l : List S105) : (assignL e c (fun _ => 0) l).length = l.length := assignL_length e c l _
theorem assign_at (e c : Int) (l : List S105) (t : Nat) (ht : t < l.length) (k : Int) (hk : k = 0 ∨ k = 1) :
    partK (assignL e c (fun _ => 0) l) t k = slotS e c (preK l t k) (partK l t k) := by
  have h : rd_T105 (assignL e c (fun _ => 0) l) (t : Int) = (⟨slotS e c (flat (l.take t)) l[t].f0, slotS e c (flat (l.take t) ++ [l[t].f0]) l[t].f1⟩ : S105) := by
    rw [rdT_get (by rw [assign_len]; exact ht)]
    have e1 := assign_slots e c l _ _ (held_start e c)
    have e2 := slotsL_get e c l [] t ht (by rw [slotsL_length]; exact ht)
    simp only [List.nil_append] at e2
    rw [← e2]
    congr 1
  rcases hk with rfl | rfl
  · rw [partK_zero, partK_zero, h]
    unfold preK
    rw [if_pos rfl, rdT_get ht]
  · rw [partK_one, partK_one, h]
    unfold preK
    rw [if_neg (by omega), rdT_get ht]
theorem slotS_range (e c : Int) (pre : List Int) (x : Int) : slotS e c pre x = -1 ∨ (0 ≤ slotS e c pre x ∧ slotS e c pre x < c ∧ slotS e c pre x = nb x pre ∧ 0 ≤ x ∧ x < e) := by
  unfold slotS
  have := nb_range x pre
  by_cases h1 : x < 0
  · rw [if_pos h1]; exact .inl rfl
  rw [if_neg h1]
  by_cases h2 : x ≥ e
  · rw [if_pos h2]; exact .inl rfl
  rw [if_neg h2]
  by_cases h3 : nb x pre ≥ c
  · rw [if_pos h3]; exact .inl rfl
  · rw [if_neg h3]; exact .inr ⟨by omega, by omega, rfl, by omega, by omega⟩
theorem assign_f {l : List S105} {e c : Int} (he : e ≤ 9223372036854775807) (hl : l.length ≤ 60) : slots_Assign.f l e c = some (assignL e c (fun _ => 0) l) := by
  unfold slots_Assign.f
  rw [if_pos ⟨he, by omega⟩]

/-- One more than a number, held, 0 if below 0. -/
def partN (a : Int) : Int := mx (hold a) 0 + 1
theorem partN_range (a : Int) : 1 ≤ partN a ∧ partN a ≤ 2147483648 := by
  have := hold_range a
  unfold partN mx
  split <;> omega
def shareN (a b : Int) : Int := partN a * 65536 / (partN a + partN b)
theorem shareN_range (a b : Int) : 0 ≤ shareN a b ∧ shareN a b ≤ 65536 := by
  have ha := partN_range a
  have hb := partN_range b
  unfold shareN
  exact ⟨Int.ediv_nonneg (by omega) (by omega), Int.ediv_le_of_le_mul (by omega) (by omega)⟩
theorem shares_eq (a b : Int) : share_Shares.f a b = some (shareN a b, 65536 - shareN a b) := by
  have ha := partN_range a
  have hb := partN_range b
  have hs := shareN_range a b
  have ea : mx (hold a) 0 + 1 = partN a := rfl
  have eb : mx (hold b) 0 + 1 = partN b := rfl
  have e1 : wrap64 (partN a) = partN a := wrap_small (by omega) (by omega)
  have e2 : wrap64 (partN b) = partN b := wrap_small (by omega) (by omega)
  have e3 : wrap64 (partN a + partN b) = partN a + partN b := wrap_small (by omega) (by omega)
  have e4 : wrap64 (partN a * 65536) = partN a * 65536 := wrap_small (by omega) (by omega)
  have e5 : Int.tdiv (partN a * 65536) (partN a + partN b) = shareN a b := by rw [Int.tdiv_eq_ediv_of_nonneg (by omega)]; rfl
  have e6 : wrap64 (shareN a b) = shareN a b := wrap_small (by omega) (by omega)
  have e7 : wrap64 (65536 - shareN a b) = 65536 - shareN a b := wrap_small (by omega) (by omega)
  unfold share_Shares.f
  simp only [holdF, Option.bind_some, ea, eb, e1, e2, e3, e4, e5, e6, e7]
  rw [if_neg (by omega)]
/-- What is chosen by scores of which a is the greatest one's place, b the second one's. -/
def chooseS (s : List Int) (a b : Int) : Int × Int × Int × Int × Bool := if b ≥ 0 then (a, b, shareN (rd s a) (rd s b), 65536 - shareN (rd s a) (rd s b), true) else (a, b, 65536, 0, true)
theorem best_there {s : List Int} {a : Int} (h0 : 0 < s.length) (h : IsBest s (-1) s.length a) : 0 ≤ a ∧ a < s.length := by
  rcases h with ⟨e, h⟩ | ⟨h1, h2, _⟩
  · have := h 0 (by omega) (by omega); omega
  · exact ⟨h1, h2⟩
theorem second_there {s : List Int} {a b : Int} (ha : 0 ≤ a ∧ a < s.length) (h : IsBest s a s.length b) : (b = -1 ∧ s.length = 1) ∨ (0 ≤ b ∧ b < s.length ∧ b ≠ a ∧ 1 < s.length) := by
  rcases h with ⟨e, h⟩ | ⟨h1, h2, h3, _⟩
  · refine .inl ⟨e, ?_⟩
    by_cases h5 : s.length = 1
    · exact h5
    · have h6 := h 0 (by omega) (by omega)
      have h7 := h 1 (by omega) (by omega)
      omega
  · exact .inr ⟨h1, h2, h3, by omega⟩
theorem choose_j0 (s : List Int) (hn : s.length ≤ 140737488351232) (h0 : 0 < s.length) :
    ∃ a b, IsBest s (-1) s.length a ∧ IsBest s a s.length b ∧ Ev (fun k => gate_Choose.j0 k s false) (chooseS s a b) := by
  obtain ⟨a, b, hab, ha, hb⟩ := two_ev s hn
  refine ⟨a, b, ha, hb, ?_⟩
  have h1 := best_there h0 ha
  have h2 := second_there h1 hb
  refine ev_shift ?_
  simp only [gate_Choose.j0, if_neg (show ¬ (false = true) by decide)]
  refine Ev.bind hab ?_
  unfold chooseS
  by_cases h : b ≥ 0
  · simp only [if_pos h, if_pos h1.1, if_pos h1.2, if_pos (show b < (s.length : Int) by omega), shares_eq, Option.bind_some]
    exact Ev.now _
  · simp only [if_neg h]
    exact Ev.now _
theorem choose_yes (rows : List (List Int)) (v : List Int) (hm : rows.length < 17592186044416) (hv : v.length ≤ 9223372036854775806) (hf : Fit rows v) (h0 : 0 < rows.length) {r : Int × Int × Int × Int × Bool}
    (h : Ev (fun k => gate_Choose.j0 k (applyTo rows v rows.length) false) r) : Ev (fun k => gate_Choose.f k rows v) r := by
  unfold gate_Choose.f
  refine Ev.bind (apply_yes rows v hm hv hf) ?_
  have e : (((rows.length : Int)) == 0) = false := beq_eq_false_iff_ne.2 (by omega)
  simp only [if_true, e]
  exact h
def matR (m : List (List Int)) (r c : Int) : Bool := decide ((m.length : Int) = r) && !(m.any (rowWrong c))
theorem matR_f (m : List (List Int)) (r c : Int) : mat_Right.f m r c = some (matR m r c) := rfl
theorem matR_true {m : List (List Int)} {r c : Int} (h : matR m r c = true) : (m.length : Int) = r ∧ ∀ x ∈ m, (x.length : Int) = c ∧ ∀ y ∈ x, -2147483647 ≤ y ∧ y ≤ 2147483647 := by
  unfold matR at h
  rw [Bool.and_eq_true, decide_eq_true_eq, Bool.not_eq_true', List.any_eq_false] at h
  refine ⟨h.1, fun x hx => ?_⟩
  have := h.2 x hx
  unfold rowWrong at this
  rw [Bool.or_eq_true, decide_eq_true_eq, List.any_eq_true] at this
  refine ⟨Classical.byContradiction fun hc => this (.inl hc), fun y hy => ?_⟩
  refine Classical.byContradiction fun hc => this (.inr ⟨y, hy, ?_⟩)
  rw [notHeld_eq, Bool.or_eq_true, decide_eq_true_eq, decide_eq_true_eq]
  omega
/-- Is an expert right, for tokens of d numbers? -/
def erB (a b : List (List Int)) (d : Int) : Bool := decide (1 ≤ d) && (decide (d ≤ 8) && (decide (1 ≤ (a.length : Int)) && (decide ((a.length : Int) ≤ 8) && (matR a a.length d && matR b d a.length))))
theorem right_f (a b : List (List Int)) (d : Int) : expert_Right.f a b d = some (erB a b d) := by
  unfold expert_Right.f erB
  by_cases h1 : 1 ≤ d
  · rw [if_pos h1, decide_eq_true h1, Bool.true_and]
    by_cases h2 : d ≤ 8
    · rw [if_pos h2, decide_eq_true h2, Bool.true_and]
      by_cases h3 : 1 ≤ (a.length : Int)
      · rw [if_pos h3, decide_eq_true h3, Bool.true_and]
        by_cases h4 : (a.length : Int) ≤ 8
        · rw [if_pos h4, decide_eq_true h4, Bool.true_and, matR_f, matR_f]
          simp only [Option.bind_some]
          cases matR a a.length d
          · rfl
          · rfl
        · rw [if_neg h4, decide_eq_false h4, Bool.false_and]
      · rw [if_neg h3, decide_eq_false h3, Bool.false_and]
    · rw [if_neg h2, decide_eq_false h2, Bool.false_and]
  · rw [if_neg h1, decide_eq_false h1, Bool.false_and]
theorem erB_true {a b : List (List Int)} {d : Int} (h : erB a b d = true) : 1 ≤ d ∧ d ≤ 8 ∧ 1 ≤ a.length ∧ a.length ≤ 8 ∧ (∀ x ∈ a, (x.length : Int) = d ∧ ∀ y ∈ x, -2147483647 ≤ y ∧ y ≤ 2147483647) ∧ (b.length : Int) = d ∧ (∀ x ∈ b, x.length = a.length ∧ ∀ y ∈ x, -2147483647 ≤ y ∧ y ≤ 2147483647) := by
  unfold erB at h
  simp only [Bool.and_eq_true, decide_eq_true_eq] at h
  obtain ⟨h1, h2, h3, h4, h5, h6⟩ := h
  have h5 := matR_true h5
  have h6 := matR_true h6
  exact ⟨h1, h2, by omega, by omega, h5.2, h6.1, fun x hx => ⟨by have := (h6.2 x hx).1; omega, (h6.2 x hx).2⟩⟩
def reluL (l : List Int) : List Int := mapTo (fun _ x => mx (hold x) 0) l l.length
theorem reluL_length (l : List Int) : (reluL l).length = l.length := mapTo_length _ _ _
theorem reluL_f {l : List Int} (h : l.length < 17592186044416) : vec_Relu.f l = some (reluL l) := relu_f h
/-- What a right expert makes. -/
def runE (a b : List (List Int)) (v : List Int) : List Int := applyTo b (reluL (applyTo a v a.length)) b.length
theorem runE_length (a b : List (List Int)) (v : List Int) : (runE a b v).length = b.length := applyTo_length _ _ _
theorem run_fits {a b : List (List Int)} {v : List Int} (h : erB a b v.length = true) : Fit a v ∧ Fit b (reluL (applyTo a v a.length)) := by
  obtain ⟨_, _, _, _, h5, _, h7⟩ := erB_true h
  refine ⟨fun x hx => by have := (h5 x hx).1; omega, fun x hx => ?_⟩
  rw [reluL_length, applyTo_length]
  exact (h7 x hx).1
theorem run_yes {a b : List (List Int)} {v : List Int} (h : erB a b v.length = true) : Ev (fun k => expert_Run.f k a b v) (runE a b v, true) := by
  obtain ⟨h1, h2, h3, h4, h5, h6, h7⟩ := erB_true h
  obtain ⟨f1, f2⟩ := run_fits h
  unfold expert_Run.f
  simp only [right_f, h, Option.bind_some, if_true]
  refine Ev.bind (apply_yes a v (by omega) (by omega) f1) ?_
  simp only [reluL_f (show (applyTo a v a.length).length < 17592186044416 by rw [applyTo_length]; omega), Option.bind_some]
  exact Ev.bind (apply_yes b _ (by omega) (by rw [reluL_length, applyTo_length]; omega) f2) (Ev.now _)
theorem rdE_get {l : List S33} {t : Nat} (h : t < l.length) : rd_T33 l (t : Int) = l[t] := by
  unfold rd_T33
  rw [Int.toNat_natCast, List.getD_eq_getElem?_getD, List.getElem?_eq_getElem h]
  rfl
theorem rdY_get {l : List S31} {t : Nat} (h : t < l.length) : rd_T31 l (t : Int) = l[t] := by
  unfold rd_T31
  rw [Int.toNat_natCast, List.getD_eq_getElem?_getD, List.getElem?_eq_getElem h]
  rfl
theorem rdE_mem {l : List S33} {t : Nat} (h : t < l.length) : rd_T33 l (t : Int) ∈ l := by rw [rdE_get h]; exact List.getElem_mem h
theorem rdY_mem {l : List S31} {t : Nat} (h : t < l.length) : rd_T31 l (t : Int) ∈ l := by rw [rdY_get h]; exact List.getElem_mem h
/-- A model is short enough to be gone through. -/
def FewX (y : S33) : Prop := Few y.f0 ∧ Few y.f1
def FewY (x : S31) : Prop := x.f1.length ≤ 9 ∧ Few x.f0 ∧ ∀ y ∈ x.f1, FewX y
def FewM (l : List S31) : Prop := l.length ≤ 5 ∧ ∀ x ∈ l, FewY x
/-- Rows of a row: so many, of so many numbers, none past Top. -/
def RowsOk (m : List (List Int)) (a b : Int) : Prop := (m.length : Int) = a ∧ m.any (rowWrong b) = false
theorem rowsOk_mat {m : List (List Int)} {a b : Int} (h : RowsOk m a b) : matOk m a b = true := by
  unfold matOk
  rw [decide_eq_true h.1, h.2]
  rfl
def GoodX (n : Int) (y : S33) : Prop := 1 ≤ (y.f0.length : Int) ∧ (y.f0.length : Int) ≤ 8 ∧ RowsOk y.f0 (y.f0.length : Int) n ∧ RowsOk y.f1 n (y.f0.length : Int)
def GoodY (n : Int) (x : S31) : Prop := 1 ≤ (x.f1.length : Int) ∧ (x.f1.length : Int) ≤ 8 ∧ RowsOk x.f0 (x.f1.length : Int) n ∧ 1 ≤ x.f2 ∧ x.f2 ≤ 32 ∧ ∀ y ∈ x.f1, GoodX n y
def GoodM (n : Int) (l : List S31) : Prop := 1 ≤ n ∧ n ≤ 8 ∧ 1 ≤ (l.length : Int) ∧ (l.length : Int) ≤ 4 ∧ ∀ x ∈ l, GoodY n x
theorem ref_right_few (m : List (List Int)) (a b : Int) (hm : Few m) : ∃ t : Bool, Ev (fun k => switchboardref03_Right.f k m a b) t ∧ (t = true → RowsOk m a b) := by
  have hn := hm.1
  refine ⟨_, ref_right m a b (by omega) (fun r hr => by have := hm.2 r hr; omega), fun h => ?_⟩
  rw [Bool.and_eq_true] at h
  exact ⟨of_decide_eq_true h.1, by simpa using h.2⟩
theorem ref11_right (y : S33) (n : Int) (hy : FewX y) (h1 : 1 ≤ n) (h8 : n ≤ 8) : ∃ t : Bool, Ev (fun k => switchboardref11_Right.f k y.f0 y.f1 n) t ∧ (t = true → GoodX n y) := by
  have hj : ∃ t : Bool, Ev (fun k => switchboardref11_Right.j0 k n (y.f0.length : Int) false y.f0 y.f1) t ∧ (t = true → RowsOk y.f0 (y.f0.length : Int) n ∧ RowsOk y.f1 n (y.f0.length : Int)) := by
    obtain ⟨t0, h0, q0⟩ := ref_right_few y.f0 (y.f0.length : Int) n hy.1
    obtain ⟨t1, h1, q1⟩ := ref_right_few y.f1 n (y.f0.length : Int) hy.2
    cases t0
    · refine ⟨false, ?_, fun h => by cases h⟩
      refine ev_shift ?_
      simp only [switchboardref11_Right.j0, if_neg (show ¬ (false = true) by decide)]
      refine Ev.bind h0 ?_
      simp only [if_neg (show ¬ (false = true) by decide)]
      exact Ev.now _
    · refine ⟨t1, ?_, fun h => ⟨q0 rfl, q1 h⟩⟩
      refine ev_shift ?_
      simp only [switchboardref11_Right.j0, if_neg (show ¬ (false = true) by decide)]
      refine Ev.bind h0 ?_
      simp only [if_true]
      exact Ev.bind h1 (Ev.now _)
  have hno : Ev (fun k => switchboardref11_Right.j0 k n (y.f0.length : Int) true y.f0 y.f1) false := by
    refine ev_shift ?_
    simp only [switchboardref11_Right.j0, if_true]
    exact Ev.now _
  unfold switchboardref11_Right.f
  simp only [if_neg (show ¬ n < 1 by omega), if_neg (show ¬ n > 8 by omega)]
  by_cases h2 : (y.f0.length : Int) < 1
  · simp only [if_pos h2]
    exact ⟨false, hno, fun h => by cases h⟩
  · simp only [if_neg h2]
    by_cases h3 : (y.f0.length : Int) > 8
    · simp only [decide_eq_true h3]
      exact ⟨false, hno, fun h => by cases h⟩
    · simp only [decide_eq_false h3]
      obtain ⟨t, ht, q⟩ := hj
      exact ⟨t, ht, fun h => ⟨by omega, by omega, (q h).1, (q h).2⟩⟩
/-- Tokens that a model of n numbers takes. -/
def GoodT (n : Int) (v : List (List Int)) : Prop := 1 ≤ (v.length : Int) ∧ (v.length : Int) ≤ 16 ∧ v.any (rowWrong n) = false
theorem rowWrong_length {c : Int} {r : List Int} (h : rowWrong c r = false) : (r.length : Int) = c := by
  unfold rowWrong at h
  rw [Bool.or_eq_false_iff] at h
  exact Classical.byContradiction fun hc => by
    have := h.1
    rw [decide_eq_true hc] at this
    cases this
theorem rows_length {m : List (List Int)} {b : Int} (h : m.any (rowWrong b) = false) : ∀ r ∈ m, (r.length : Int) = b := fun r hr => by
  have := (List.any_eq_false.1 h) r hr
  exact rowWrong_length (by simpa using this)
/-- A gate's rows and a token that they take. -/
def Can (G : List (List Int)) (v : List Int) : Prop := G.length ≤ 30 ∧ 0 < G.length ∧ v.length ≤ 30 ∧ Fit G v
/-- What the gate tells. -/
def ChOk (G : List (List Int)) (v : List Int) (r : Int × Int × Int × Int × Bool) : Prop :=
  Ev (fun k => gate_Choose.f k G v) r ∧ 0 ≤ r.1 ∧ r.1 < G.length ∧ (0 ≤ r.2.2.1 ∧ r.2.2.1 ≤ 65536) ∧ (0 ≤ r.2.2.2.1 ∧ r.2.2.2.1 ≤ 65536)
theorem choose_any {G : List (List Int)} {v : List Int} (h : Can G v) : ∃ r, ChOk G v r := by
  obtain ⟨h1, h2, h3, h4⟩ := h
  obtain ⟨a, b, ha, hb, hr⟩ := choose_j0 (applyTo G v G.length) (by rw [applyTo_length]; omega) (by rw [applyTo_length]; exact h2)
  refine ⟨_, choose_yes G v (by omega) (by omega) h4 h2 hr, ?_⟩
  have h5 := best_there (by rw [applyTo_length]; exact h2) ha
  rw [applyTo_length] at h5
  have hs := shareN_range (rd (applyTo G v G.length) a) (rd (applyTo G v G.length) b)
  unfold chooseS
  by_cases hb0 : b ≥ 0
  · simp only [if_pos hb0]
    exact ⟨h5.1, h5.2, ⟨by omega, by omega⟩, by omega, by omega⟩
  · simp only [if_neg hb0]
    exact ⟨h5.1, h5.2, ⟨by omega, by omega⟩, by omega, by omega⟩
abbrev Chs := List (List Int) → List Int → Int × Int × Int × Int × Bool
def ChAll (ch : Chs) : Prop := ∀ G v, Can G v → ChOk G v (ch G v)
theorem ch_all : ∃ ch : Chs, ChAll ch := by
  refine ⟨fun G v => Classical.epsilon (ChOk G v), fun G v h => ?_⟩
  exact Classical.epsilon_spec (choose_any h)
def chOne (ch : Chs) (G : List (List Int)) (v : List Int) : S102 := ⟨(ch G v).1, (ch G v).2.1, (ch G v).2.2.1, (ch G v).2.2.2.1⟩
def wantOne (ch : Chs) (G : List (List Int)) (v : List Int) : S105 := ⟨(ch G v).1, (ch G v).2.1⟩
def chL (ch : Chs) (G T : List (List Int)) : List S102 := T.map (chOne ch G)
def wantL (ch : Chs) (G T : List (List Int)) : List S105 := T.map (wantOne ch G)
theorem chL_length (ch : Chs) (G T : List (List Int)) : (chL ch G T).length = T.length := by simp [chL]
theorem wantL_length (ch : Chs) (G T : List (List Int)) : (wantL ch G T).length = T.length := by simp [wantL]
/-- The part of token t and rank k, if it has a slot. -/
def pAt (a w : List S105) (c : List S102) (t : Nat) (k : Int) : List S76 := if partK a t k ≥ 0 then [(⟨(t : Int), k, partK w t k, rd [(rd_T102 c (t : Int)).f2, (rd_T102 c (t : Int)).f3] k⟩ : S76)] else []
def partsTo (a w : List S105) (c : List S102) : Nat → List S76
  | 0 => []
  | n + 1 => partsTo a w c n ++ (pAt a w c n 0 ++ pAt a w c n 1)
theorem pAt_length (a w : List S105) (c : List S102) (t : Nat) (k : Int) : (pAt a w c t k).length ≤ 1 := by
  unfold pAt
  split
  · exact Nat.le_refl _
  · exact Nat.zero_le _
theorem partsTo_length (a w : List S105) (c : List S102) : ∀ n, (partsTo a w c n).length ≤ 2 * n := by
  intro n
  induction n with
  | zero => exact Nat.le_refl _
  | succ n ih =>
    have h0 := pAt_length a w c n 0
    have h1 := pAt_length a w c n 1
    simp only [partsTo, List.length_append]
    omega
theorem parts_l2_step (a w : List S105) (c : List S102) (t : Nat) (j : Int) (hj : j = 0 ∨ j = 1) (ht : t < a.length) (hw : w.length = a.length) (hc : c.length = a.length) (o : List S76) (ho : o.length < 1000) {r : List S76}
    (hr : Ev (fun k => model_Parts.l2 k c w (o ++ pAt a w c t j) (t : Int) a (a.length : Int) (t : Int) (j + 1) (rd_T105 a (t : Int)).f0 (rd_T105 a (t : Int)).f1) r) :
    Ev (fun k => model_Parts.l2 k c w o (t : Int) a (a.length : Int) (t : Int) j (rd_T105 a (t : Int)).f0 (rd_T105 a (t : Int)).f1) r := by
  have hw1 : wrap64 (j + 1) = j + 1 := wrap_small (by omega) (by omega)
  refine ev_shift ?_
  simp only [model_Parts.l2, if_pos (show j < 2 by omega), if_pos (show 0 ≤ j by omega)]
  unfold pAt at hr
  by_cases h : pick2 (rd_T105 a (t : Int)).f0 (rd_T105 a (t : Int)).f1 j ≥ 0
  · simp only [if_pos h, if_pos (show (0 : Int) ≤ (t : Int) by omega), if_pos (show (t : Int) < (w.length : Int) by omega), if_pos (show (t : Int) < (c.length : Int) by omega), Option.bind_some, List.length_cons, List.length_nil, if_pos (show j < (((0 + 1 + 1 : Nat)) : Int) by omega), if_pos (show o.length < 4398046511104 by omega), hw1]
    rw [if_pos h] at hr
    exact hr
  · simp only [if_neg h, hw1]
    rw [if_neg h, List.append_nil] at hr
    exact hr
theorem parts_l1 (a w : List S105) (c : List S102) (hl : a.length ≤ 60) (hw : w.length = a.length) (hc : c.length = a.length) : ∀ (d i : Nat), i + d = a.length →
    Ev (fun k => model_Parts.l1 k c w (partsTo a w c i) a (a.length : Int) (i : Int)) (partsTo a w c a.length) := by
  intro d
  induction d with
  | zero =>
    intro i hi
    have e : i = a.length := by omega
    subst e
    refine ev_shift ?_
    simp only [model_Parts.l1, if_neg (show ¬ (a.length : Int) < (a.length : Int) by omega)]
    exact Ev.now _
  | succ d ih =>
    intro i hi
    have hw1 : wrap64 ((i : Int) + 1) = ((i + 1 : Nat) : Int) := by rw [wrap_small (by omega) (by omega)]; omega
    have hq := partsTo_length a w c i
    have hq0 := pAt_length a w c i 0
    refine ev_shift ?_
    simp only [model_Parts.l1, if_pos (show (i : Int) < (a.length : Int) by omega), if_pos (show (0 : Int) ≤ (i : Int) by omega)]
    refine parts_l2_step a w c i 0 (.inl rfl) (by omega) hw hc _ (by omega) ?_
    refine parts_l2_step a w c i 1 (.inr rfl) (by omega) hw hc _ (by rw [List.length_append]; omega) ?_
    refine ev_shift ?_
    simp only [model_Parts.l2, if_neg (show ¬ (1 + 1 : Int) < 2 by omega), hw1]
    have e := ih (i + 1) (by omega)
    simp only [partsTo, ← List.append_assoc] at e
    exact e
/-- The parts of tokens. -/
def partsV (ch : Chs) (G : List (List Int)) (e cap : Int) (T : List (List Int)) : List S76 := partsTo (assignL e cap (fun _ => 0) (wantL ch G T)) (wantL ch G T) (chL ch G T) T.length
theorem parts_l0 {ch : Chs} (hch : ChAll ch) (G : List (List Int)) (E : List S33) (cap : Int) (T : List (List Int)) (hT : T.length ≤ 60) (hE : E.length ≤ 60) (hG : ∀ v ∈ T, Can G v) : ∀ (d i : Nat), i + d = T.length →
    Ev (fun k => model_Parts.l0 k (chL ch G (T.take i)) (wantL ch G (T.take i)) T (T.length : Int) (i : Int) G E cap) (partsV ch G (E.length : Int) cap T) := by
  intro d
  induction d with
  | zero =>
    intro i hi
    have e : i = T.length := by omega
    subst e
    rw [List.take_length]
    refine ev_shift ?_
    simp only [model_Parts.l0, if_neg (show ¬ (T.length : Int) < (T.length : Int) by omega)]
    rw [assign_f (by omega) (by rw [wantL_length]; exact hT)]
    simp only [Option.bind_some]
    have e1 : (assignL (E.length : Int) cap (fun _ => 0) (wantL ch G T)).length = T.length := by rw [assignL_length, wantL_length]
    have h := parts_l1 (assignL (E.length : Int) cap (fun _ => 0) (wantL ch G T)) (wantL ch G T) (chL ch G T) (by rw [e1]; exact hT) (by rw [e1, wantL_length]) (by rw [e1, chL_length]) T.length 0 (by rw [e1]; omega)
    unfold partsV
    rw [e1] at h ⊢
    exact h
  | succ d ih =>
    intro i hi
    have hlt : i < T.length := by omega
    have hw1 : wrap64 ((i : Int) + 1) = ((i + 1 : Nat) : Int) := by rw [wrap_small (by omega) (by omega)]; omega
    have hc := hch G _ (hG _ (rdL_mem hlt))
    have htl : (T.take i).length = i := by rw [List.length_take]; omega
    have e := ih (i + 1) (by omega)
    rw [List.take_succ_eq_append_getElem hlt, ← rdL_get hlt] at e
    refine ev_shift ?_
    simp only [model_Parts.l0, if_pos (show (i : Int) < (T.length : Int) by omega), if_pos (show (0 : Int) ≤ (i : Int) by omega)]
    refine Ev.bind hc.1 ?_
    simp only [chL_length, wantL_length, htl, if_pos (show i < 4398046511104 by omega), if_pos (show i < 8796093022208 by omega), hw1]
    have e1 : chL ch G (T.take i ++ [rd_L1 T (i : Int)]) = chL ch G (T.take i) ++ [chOne ch G (rd_L1 T (i : Int))] := by simp [chL]
    have e2 : wantL ch G (T.take i ++ [rd_L1 T (i : Int)]) = wantL ch G (T.take i) ++ [wantOne ch G (rd_L1 T (i : Int))] := by simp [wantL]
    rw [e1, e2] at e
    exact e
theorem parts_ev {ch : Chs} (hch : ChAll ch) (G : List (List Int)) (E : List S33) (cap : Int) (T : List (List Int)) (hT : T.length ≤ 60) (hE : E.length ≤ 60) (hG : ∀ v ∈ T, Can G v) :
    Ev (fun k => model_Parts.f k G E cap T) (partsV ch G (E.length : Int) cap T) := parts_l0 hch G E cap T hT hE hG T.length 0 (by omega)
theorem good_can {n : Int} {x : S31} {T : List (List Int)} (hn : 1 ≤ n ∧ n ≤ 8) (hx : GoodY n x) (hT : GoodT n T) : ∀ v ∈ T, Can x.f0 v := fun v hv => by
  have h1 := rows_length hT.2.2 v hv
  have h2 := hx.2.2.1
  have h3 := hx.1
  have h4 := hx.2.1
  have h5 := h2.1
  refine ⟨by omega, by omega, by omega, fun r hr => ?_⟩
  have := rows_length h2.2 r hr
  omega

def addV (a b : List Int) : List Int := mapTo (fun i x => addI x (rd b i)) a a.length
def scaleV (a : List Int) (k : Int) : List Int := mapTo (fun _ x => mulI x k) a a.length
theorem addV_length (a b : List Int) : (addV a b).length = a.length := mapTo_length _ _ _
theorem scaleV_length (a : List Int) (k : Int) : (scaleV a k).length = a.length := mapTo_length _ _ _
theorem addV_range {a b : List Int} {y : Int} (h : y ∈ addV a b) : -2147483647 ≤ y ∧ y ≤ 2147483647 := by
  obtain ⟨i, hi, rfl⟩ := List.getElem_of_mem h
  have hl := hi
  rw [addV_length] at hl
  obtain ⟨_, e⟩ := rd_get (v := addV a b) (i := (i : Int)) (by omega) (by rw [addV_length]; omega)
  simp only [Int.toNat_natCast] at e
  rw [← e]
  unfold addV
  rw [rd_mapTo _ _ hl]
  exact addI_range _ _
theorem row_ok {n : Int} {r : List Int} (h : (r.length : Int) = n) (h2 : ∀ y ∈ r, -2147483647 ≤ y ∧ y ≤ 2147483647) : rowWrong n r = false := by
  unfold rowWrong
  rw [Bool.or_eq_false_iff]
  refine ⟨decide_eq_false (fun hc => hc h), ?_⟩
  rw [List.any_eq_false]
  intro y hy
  have := h2 y hy
  rw [notHeld_eq, decide_eq_false (show ¬ y > 2147483647 by omega), decide_eq_false (show ¬ y < -2147483647 by omega)]
  decide
theorem rdQ_get {l : List S76} {t : Nat} (h : t < l.length) : rd_T76 l (t : Int) = l[t] := by
  unfold rd_T76
  rw [Int.toNat_natCast, List.getD_eq_getElem?_getD, List.getElem?_eq_getElem h]
  rfl
/-- What a part's expert answers. -/
def ansP (E : List S33) (T : List (List Int)) (p : S76) : List Int := runE (rd_T33 E p.f2).f0 (rd_T33 E p.f2).f1 (rd_L1 T p.f0)
/-- Answers, added to tokens. -/
def combV (E : List S33) (T : List (List Int)) : List S76 → List (List Int) → List (List Int)
  | [], o => o
  | p :: r, o => combV E T r (o.set p.f0.toNat (addV (rd_L1 o p.f0) (scaleV (ansP E T p) p.f3)))
theorem combV_append (E : List S33) (T : List (List Int)) : ∀ (a b : List S76) (o : List (List Int)), combV E T (a ++ b) o = combV E T b (combV E T a o)
  | [], _, _ => rfl
  | p :: r, b, o => by simp only [List.cons_append, combV]; exact combV_append E T r b _
theorem combV_length (E : List S33) (T : List (List Int)) : ∀ (a : List S76) (o : List (List Int)), (combV E T a o).length = o.length
  | [], _ => rfl
  | p :: r, o => by simp only [combV]; rw [combV_length E T r, List.length_set]
def layerV (ch : Chs) (x : S31) (T : List (List Int)) : List (List Int) := combV x.f1 T (partsV ch x.f0 (x.f1.length : Int) x.f2 T) T
def fwdV (ch : Chs) : List S31 → List (List Int) → List (List Int)
  | [], T => T
  | x :: r, T => fwdV ch r (layerV ch x T)
/-- A part of a token and an expert that are there. -/
def PartOk (N e : Int) (p : S76) : Prop := 0 ≤ p.f0 ∧ p.f0 < N ∧ 0 ≤ p.f2 ∧ p.f2 < e
theorem pAt_ok (e cap : Int) (w : List S105) (c : List S102) (t : Nat) (ht : t < w.length) (k : Int) (hk : k = 0 ∨ k = 1) : ∀ p ∈ pAt (assignL e cap (fun _ => 0) w) w c t k, p.f0 = (t : Int) ∧ 0 ≤ p.f2 ∧ p.f2 < e := by
  intro p hp
  have ha := assign_at e cap w t ht k hk
  unfold pAt at hp
  by_cases h : partK (assignL e cap (fun _ => 0) w) t k ≥ 0
  · rw [if_pos h, List.mem_singleton] at hp
    subst hp
    rcases slotS_range e cap (preK w t k) (partK w t k) with h1 | ⟨_, _, _, h4, h5⟩
    · rw [ha, h1] at h; omega
    · exact ⟨rfl, h4, h5⟩
  · rw [if_neg h] at hp
    cases hp
theorem partsTo_ok (e cap : Int) (w : List S105) (c : List S102) : ∀ n, n ≤ w.length → ∀ p ∈ partsTo (assignL e cap (fun _ => 0) w) w c n, PartOk (n : Int) e p := by
  intro n
  induction n with
  | zero => intro _ p hp; cases hp
  | succ n ih =>
    intro hn p hp
    simp only [partsTo, List.mem_append] at hp
    rcases hp with hp | hp | hp
    · have := ih (by omega) p hp
      exact ⟨this.1, by have := this.2.1; omega, this.2.2⟩
    · have := pAt_ok e cap w c n (by omega) 0 (.inl rfl) p hp
      exact ⟨by omega, by omega, this.2⟩
    · have := pAt_ok e cap w c n (by omega) 1 (.inr rfl) p hp
      exact ⟨by omega, by omega, this.2⟩
theorem partsV_ok (ch : Chs) (G : List (List Int)) (e cap : Int) (T : List (List Int)) : ∀ p ∈ partsV ch G e cap T, PartOk (T.length : Int) e p :=
  partsTo_ok e cap (wantL ch G T) (chL ch G T) T.length (by rw [wantL_length]; exact Nat.le_refl _)
theorem partsV_length (ch : Chs) (G : List (List Int)) (e cap : Int) (T : List (List Int)) : (partsV ch G e cap T).length ≤ 2 * T.length := partsTo_length _ _ _ _
theorem rowsOk_matR {m : List (List Int)} {a b : Int} (h : RowsOk m a b) : matR m a b = true := by
  unfold matR
  rw [decide_eq_true h.1, h.2]
  rfl
theorem goodX_er {n : Int} {y : S33} (hn : 1 ≤ n ∧ n ≤ 8) (h : GoodX n y) : erB y.f0 y.f1 n = true := by
  unfold erB
  rw [rowsOk_matR h.2.2.1, rowsOk_matR h.2.2.2, decide_eq_true hn.1, decide_eq_true hn.2, decide_eq_true h.1, decide_eq_true h.2.1]
  rfl
/-- An answer is as long as a token. -/
theorem ansP_length {n : Int} {E : List S33} (hE : ∀ y ∈ E, GoodX n y) (T : List (List Int)) {p : S76} (h0 : 0 ≤ p.f2) (h1 : p.f2 < (E.length : Int)) : ((ansP E T p).length : Int) = n := by
  unfold ansP
  rw [runE_length]
  obtain ⟨j, hj⟩ : ∃ j : Nat, p.f2 = (j : Int) := ⟨p.f2.toNat, by omega⟩
  rw [hj]
  exact (hE _ (rdE_mem (by omega))).2.2.2.1
theorem combV_good {n : Int} {E : List S33} (T : List (List Int)) : ∀ (P : List S76) (o : List (List Int)), (∀ p ∈ P, 0 ≤ p.f0 ∧ p.f0 < (o.length : Int)) → o.any (rowWrong n) = false → (combV E T P o).any (rowWrong n) = false
  | [], _, _, h => h
  | p :: r, o, hp, h => by
    simp only [combV]
    have hp0 := hp p (List.mem_cons_self ..)
    refine combV_good T r _ (fun q hq => by rw [List.length_set]; exact hp q (List.mem_cons_of_mem _ hq)) ?_
    rw [List.any_eq_false]
    intro v hv
    rcases List.mem_or_eq_of_mem_set hv with hv | rfl
    · exact (List.any_eq_false.1 h) v hv
    · rw [row_ok _ (fun y hy => addV_range hy)]
      · decide
      · rw [addV_length]
        obtain ⟨j, hj⟩ : ∃ j : Nat, p.f0 = (j : Int) := ⟨p.f0.toNat, by omega⟩
        rw [hj]
        exact rows_length h _ (rdL_mem (by omega))
theorem layerV_good {n : Int} (ch : Chs) (x : S31) {T : List (List Int)} (hT : GoodT n T) : GoodT n (layerV ch x T) := by
  refine ⟨?_, ?_, ?_⟩
  · unfold layerV; rw [combV_length]; exact hT.1
  · unfold layerV; rw [combV_length]; exact hT.2.1
  · exact combV_good T _ T (fun p hp => ⟨(partsV_ok ch _ _ _ T p hp).1, (partsV_ok ch _ _ _ T p hp).2.1⟩) hT.2.2
theorem fwdV_good {n : Int} (ch : Chs) : ∀ (l : List S31) (T : List (List Int)), GoodT n T → GoodT n (fwdV ch l T)
  | [], _, h => h
  | x :: r, T, h => by simp only [fwdV]; exact fwdV_good ch r _ (layerV_good ch x h)
theorem rdA_get (E : List S33) (T : List (List Int)) (P : List S76) {i : Nat} (h : i < P.length) : rd_L1 (P.map (ansP E T)) (i : Int) = ansP E T (rd_T76 P (i : Int)) := by
  rw [rdL_get (by simpa using h), rdQ_get h]
  simp
theorem expOk_good {n : Int} {y : S33} (hn : 1 ≤ n ∧ n ≤ 8) (h : GoodX n y) : expBad n y = false := by
  unfold expBad expOk
  rw [right_f, goodX_er hn h]
  rfl
theorem modelOk_good {n : Int} {l : List S31} (h : GoodM n l) : modelOk n l = true := by
  obtain ⟨h1, h2, h3, h4, h5⟩ := h
  unfold modelOk
  rw [if_pos h1, if_pos h2, if_pos (by omega), if_pos (by omega)]
  have : l.any (layBad n) = false := by
    rw [List.any_eq_false]
    intro x hx
    obtain ⟨a1, a2, a3, a4, a5, a6⟩ := h5 x hx
    have hb : x.f1.any (expBad n) = false := by
      rw [List.any_eq_false]
      intro y hy
      rw [expOk_good ⟨h1, h2⟩ (a6 y hy)]
      decide
    unfold layBad layerOk
    rw [if_pos (by omega), if_pos (by omega), if_pos (rowsOk_mat a3), if_pos (by omega), if_pos (by omega), hb]
    decide
  rw [this]
  rfl
theorem tokOk_good {n : Int} {T : List (List Int)} (h : GoodT n T) : tokOk n T = true := by
  unfold tokOk
  rw [if_pos (by have := h.1; omega), if_pos (by have := h.2.1; omega), h.2.2]
  rfl
theorem same15_l0 (a : List (List Int)) (ha : a.length ≤ 60) (hr : ∀ r ∈ a, r.length ≤ 60) : ∀ (d i : Nat), i + d = a.length → Ev (fun k => switchboardref15_Same.l0 k a a (i : Int)) true := by
  intro d
  induction d with
  | zero =>
    intro i hi
    refine ev_shift ?_
    simp only [switchboardref15_Same.l0, if_neg (show ¬ (i : Int) < (a.length : Int) by omega)]
    exact Ev.now _
  | succ d ih =>
    intro i hi
    have hw1 : wrap64 ((i : Int) + 1) = ((i + 1 : Nat) : Int) := by rw [wrap_small (by omega) (by omega)]; omega
    have := hr _ (rdL_mem (m := a) (i := i) (by omega))
    refine ev_shift ?_
    simp only [switchboardref15_Same.l0, if_pos (show (i : Int) < (a.length : Int) by omega), if_pos (show (0 : Int) ≤ (i : Int) by omega)]
    refine Ev.bind (same_refl _ (by omega)) ?_
    simp only [if_true, hw1]
    exact ih (i + 1) (by omega)
theorem same15 {a b : List (List Int)} (h : a = b) (ha : a.length ≤ 60) (hr : ∀ r ∈ a, r.length ≤ 60) : Ev (fun k => switchboardref15_Same.f k a b) true := by
  subst h
  unfold switchboardref15_Same.f
  simp only [if_true]
  exact same15_l0 a ha hr a.length 0 (by omega)
theorem good_short {n : Int} {T : List (List Int)} (hn : n ≤ 8) (h : GoodT n T) : T.length ≤ 60 ∧ ∀ r ∈ T, r.length ≤ 60 :=
  ⟨by have := h.2.1; omega, fun r hr => by have := rows_length h.2.2 r hr; omega⟩
theorem row_range {n : Int} {T : List (List Int)} (h : T.any (rowWrong n) = false) {r : List Int} (hr : r ∈ T) : ∀ y ∈ r, -2147483647 ≤ y ∧ y ≤ 2147483647 := by
  have h1 := (List.any_eq_false.1 h) r hr
  unfold rowWrong at h1
  rw [Bool.or_eq_true, not_or] at h1
  have h2 : r.any (fun x => notHeld x) = false := by simpa using h1.2
  intro y hy
  have h3 := (List.any_eq_false.1 h2) y hy
  rw [notHeld_eq, Bool.or_eq_true, decide_eq_true_eq, decide_eq_true_eq] at h3
  omega

theorem mtokens_is (n : Int) (l : List S31) (v : List (List Int)) (hf : Few v) : Ev (fun k => switchboardref15_Tokens.f k n l v) (tokOk n v) := by
  unfold switchboardref15_Tokens.f tokOk
  by_cases h1 : (v.length : Int) > 0
  · rw [if_pos (show (v.length : Int) ≥ 1 by omega)]
    by_cases h2 : (v.length : Int) < 17
    · rw [if_pos (show (v.length : Int) ≤ 16 by omega)]
      simp only [if_pos h1, if_pos h2]
      refine Ev.bind (ref_right v (v.length : Int) n (by have := hf.1; omega) (fun r hr => by have := hf.2 r hr; omega)) ?_
      rw [decide_eq_true rfl, Bool.true_and]
      exact Ev.now _
    · rw [if_neg (show ¬ (v.length : Int) ≤ 16 by omega)]
      simp only [if_pos h1, if_neg h2]
      exact Ev.now _
  · rw [if_neg (show ¬ (v.length : Int) ≥ 1 by omega)]
    simp only [if_neg h1]
    exact Ev.now _
theorem goodT_of {n : Int} {T : List (List Int)} (e : tokOk n T = true) : GoodT n T := by
  unfold tokOk at e
  by_cases h1 : (T.length : Int) ≥ 1
  · rw [if_pos h1] at e
    by_cases h2 : (T.length : Int) ≤ 16
    · rw [if_pos h2, Bool.not_eq_true'] at e
      exact ⟨h1, h2, e⟩
    · rw [if_neg h2] at e; cases e
  · rw [if_neg h1] at e; cases e
def inR (x : Int) : Bool := decide (0 ≤ x) && decide (x ≤ 2147483647)
def inV (x : Int) : Bool := decide (-2147483648 ≤ x) && decide (x ≤ 2147483647)
theorem inR_iff {x : Int} : inR x = true ↔ 0 ≤ x ∧ x ≤ 2147483647 := by
  unfold inR
  rw [Bool.and_eq_true, decide_eq_true_eq, decide_eq_true_eq]
theorem inV_iff {x : Int} : inV x = true ↔ -2147483648 ≤ x ∧ x ≤ 2147483647 := by
  unfold inV
  rw [Bool.and_eq_true, decide_eq_true_eq, decide_eq_true_eq]
theorem rd_at {v : List Int} {i : Nat} (h : i < v.length) : rd v (i : Int) = v[i] := by
  obtain ⟨_, e⟩ := rd_get (v := v) (i := (i : Int)) (by omega) (by omega)
  rw [e]
  simp
/-- Is a message's end right? -/
def tailB (a0 : Int) (v : List Int) : Bool := decide (1 ≤ a0) && (decide (a0 ≤ 4) && decide ((v.length : Int) ≤ 8))
def wireB (a0 a1 a2 a3 a4 a5 a6 a7 a8 a9 : Int) (v : List Int) : Bool := [a0, a1, a2, a3, a4, a5, a6, a7, a8, a9].all inR && (v.all inV && tailB a0 v)
theorem wire_l1 (v : List Int) (hv : v.length ≤ 1000) (a0 a1 a2 a3 a4 a5 a6 a7 a8 a9 : Int) : ∀ (d i : Nat), i + d = v.length →
    Ev (fun k => wire_Right.l1 k v (v.length : Int) (i : Int) a0 a1 a2 a3 a4 a5 a6 a7 a8 a9 v) ((v.drop i).all inV && tailB a0 v) := by
  intro d
  induction d with
  | zero =>
    intro i hi
    rw [List.drop_eq_nil_of_le (by omega), List.all_nil, Bool.true_and]
    refine ev_shift ?_
    simp only [wire_Right.l1, if_neg (show ¬ (i : Int) < (v.length : Int) by omega)]
    unfold tailB
    by_cases h1 : a0 ≥ 1
    · by_cases h2 : a0 ≤ 4
      · simp only [if_pos h1, if_pos h2, decide_eq_true (show 1 ≤ a0 by omega), decide_eq_true h2, Bool.true_and]
        exact Ev.now _
      · simp only [if_pos h1, if_neg h2, decide_eq_false h2, Bool.false_and, Bool.and_false]
        exact Ev.now _
    · simp only [if_neg h1, decide_eq_false (show ¬ 1 ≤ a0 by omega), Bool.false_and]
      exact Ev.now _
  | succ d ih =>
    intro i hi
    have hlt : i < v.length := by omega
    have hw : wrap64 ((i : Int) + 1) = ((i + 1 : Nat) : Int) := by rw [wrap_small (by omega) (by omega)]; omega
    rw [List.drop_eq_getElem_cons hlt, List.all_cons, ← rd_at hlt]
    refine ev_shift ?_
    simp only [wire_Right.l1, if_pos (show (i : Int) < (v.length : Int) by omega), if_pos (show (0 : Int) ≤ (i : Int) by omega), hw]
    by_cases h1 : rd v (i : Int) < -2147483648
    · have : inV (rd v (i : Int)) = false := Bool.eq_false_iff.mpr (fun hc => by have := inV_iff.1 hc; omega)
      simp only [if_pos h1, this, Bool.false_and]
      exact Ev.now _
    · by_cases h2 : rd v (i : Int) > 2147483647
      · have : inV (rd v (i : Int)) = false := Bool.eq_false_iff.mpr (fun hc => by have := inV_iff.1 hc; omega)
        simp only [if_neg h1, if_pos h2, this, Bool.false_and]
        exact Ev.now _
      · have : inV (rd v (i : Int)) = true := inV_iff.2 ⟨by omega, by omega⟩
        simp only [if_neg h1, if_neg h2, this, Bool.true_and]
        exact ih (i + 1) (by omega)
theorem wire_l0 (u v : List Int) (hu : u.length ≤ 1000) (hv : v.length ≤ 1000) (a0 a1 a2 a3 a4 a5 a6 a7 a8 a9 : Int) : ∀ (d i : Nat), i + d = u.length →
    Ev (fun k => wire_Right.l0 k u (u.length : Int) (i : Int) a0 a1 a2 a3 a4 a5 a6 a7 a8 a9 v) ((u.drop i).all inR && (v.all inV && tailB a0 v)) := by
  intro d
  induction d with
  | zero =>
    intro i hi
    rw [List.drop_eq_nil_of_le (by omega), List.all_nil, Bool.true_and]
    refine ev_shift ?_
    simp only [wire_Right.l0, if_neg (show ¬ (i : Int) < (u.length : Int) by omega)]
    exact wire_l1 v hv a0 a1 a2 a3 a4 a5 a6 a7 a8 a9 v.length 0 (by omega)
  | succ d ih =>
    intro i hi
    have hlt : i < u.length := by omega
    have hw : wrap64 ((i : Int) + 1) = ((i + 1 : Nat) : Int) := by rw [wrap_small (by omega) (by omega)]; omega
    rw [List.drop_eq_getElem_cons hlt, List.all_cons, ← rd_at hlt]
    refine ev_shift ?_
    simp only [wire_Right.l0, if_pos (show (i : Int) < (u.length : Int) by omega), if_pos (show (0 : Int) ≤ (i : Int) by omega), hw]
    by_cases h1 : rd u (i : Int) < 0
    · have : inR (rd u (i : Int)) = false := Bool.eq_false_iff.mpr (fun hc => by have := inR_iff.1 hc; omega)
      simp only [if_pos h1, this, Bool.false_and]
      exact Ev.now _
    · by_cases h2 : rd u (i : Int) > 2147483647
      · have : inR (rd u (i : Int)) = false := Bool.eq_false_iff.mpr (fun hc => by have := inR_iff.1 hc; omega)
        simp only [if_neg h1, if_pos h2, this, Bool.false_and]
        exact Ev.now _
      · have : inR (rd u (i : Int)) = true := inR_iff.2 ⟨by omega, by omega⟩
        simp only [if_neg h1, if_neg h2, this, Bool.true_and]
        exact ih (i + 1) (by omega)
theorem wire_ev (a0 a1 a2 a3 a4 a5 a6 a7 a8 a9 : Int) (v : List Int) (hv : v.length ≤ 1000) : Ev (fun k => wire_Right.f k a0 a1 a2 a3 a4 a5 a6 a7 a8 a9 v) (wireB a0 a1 a2 a3 a4 a5 a6 a7 a8 a9 v) := by
  unfold wire_Right.f wire_numbers.f
  simp only [Option.bind_some]
  exact wire_l0 [a0, a1, a2, a3, a4, a5, a6, a7, a8, a9] v (by simp) hv a0 a1 a2 a3 a4 a5 a6 a7 a8 a9 10 0 rfl

theorem idxSpec106 {α : Type} (p : α → Bool) : ∀ (l : List α) (i : Nat), idxFrom106 p l i = -1 ∨ ∃ k : Nat, True ∧ idxFrom106 p l i = (k : Int)
  | [], _ => .inl rfl
  | x :: r, i => by
    by_cases h : p x = true
    · exact .inr ⟨i, trivial, by simp only [idxFrom106, if_pos h]⟩
    · simp only [idxFrom106, if_neg h]
      exact idxSpec106 p r (i + 1)
theorem cloneI_fk {l : List Int} (h : l.length < 17592186044416) : slices_Clone_int_int_108.f l = some l := by
  unfold slices_Clone_int_int_108.f
  simp only [Option.bind_some, List.length_nil, Nat.zero_add, List.nil_append, if_pos h]
theorem cloneE_f {l : List S167} (h : l.length < 2513169434916) : ledger_Entry_109.f l = some l := by
  unfold ledger_Entry_109.f
  simp only [Option.bind_some, List.length_nil, Nat.zero_add, List.nil_append, if_pos h]
/-- Is there an entry of a key? -/
def There (l : List S167) (a b c d : Int) : Prop := ∃ x ∈ l, keyB x a b c d = true
theorem keyB_iff {x : S167} {a b c d : Int} : keyB x a b c d = true ↔ x.f0.f0 = a ∧ x.f0.f1 = b ∧ x.f0.f2 = c ∧ x.f0.f3 = d := by
  unfold keyB
  simp only [Bool.and_eq_true, beq_iff_eq]
theorem find_not {l : List S167} {a b c d : Int} (h : ¬ There l a b c d) : ledger_Find.f l a b c d = some ([], false) := by
  have e : idxFrom106 (fun y => keyB y a b c d) l 0 = -1 := by
    rcases idxSpec106 (fun y => keyB y a b c d) l 0 with e | ⟨k, hk, e⟩
    · exact e
    · exfalso
      refine h ?_
      have gen : ∀ (l : List S167) (i k : Nat), idxFrom106 (fun y => keyB y a b c d) l i = (k : Int) → There l a b c d := by
        intro l
        induction l with
        | nil => intro i k e; simp only [idxFrom106] at e; omega
        | cons y r ih =>
          intro i k e
          by_cases hy : keyB y a b c d = true
          · exact ⟨y, List.mem_cons_self .., hy⟩
          · simp only [idxFrom106, if_neg hy] at e
            obtain ⟨x, hx, hp⟩ := ih (i + 1) k e
            exact ⟨x, List.mem_cons_of_mem _ hx, hp⟩
      exact gen l 0 _ e
  unfold ledger_Find.f
  rw [e, if_pos (by omega)]
theorem enter_not {l : List S167} {a b c d : Int} (h : ¬ There l a b c d) (hl : l.length ≤ 1000) {v : List Int} (hv : v.length ≤ 1000) : ledger_Enter.f l a b c d v = some (l ++ [(⟨(⟨a, b, c, d⟩ : S151), v⟩ : S167)], true) := by
  unfold ledger_Enter.f
  simp only [find_not h, Option.bind_some, if_neg (show ¬ (false = true) by decide), cloneE_f (show l.length < 2513169434916 by omega), cloneI_fk (show v.length < 17592186044416 by omega), if_pos (show l.length < 2513169434916 by omega)]



end Go.Proofs.Ytfipiohchnaglaa.Pu
