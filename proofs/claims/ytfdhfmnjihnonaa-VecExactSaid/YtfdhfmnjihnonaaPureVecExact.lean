/- Proved here: Dot, Add, Scale and Relu tell what the document tells (all rows and factors; past 100 numbers the fixed answer alone). No condition. -/
import Derived.Test.YtfdhfmnjihnonaaPr5
namespace Go.Proofs.Ytfdhfmnjihnonaa.Pure
open Go.RowKit Go.Proofs.Ytfdhfmnjihnonaa.Pr Go.Proofs.YtfdhfmnjihnonaaW.PrintWords Go.Proofs.YtfdhfmnjihnonaaW.PrintLast Go.Proofs.YtfdhfmnjihnonaaW.PrintMore

def VecExactPure : Prop := ∀ (l0 : List Int) (l1 : List Int) (a2 : Int), l0.length ≤ maxLen → (∀ y ∈ l0, (Lit.int .i64 y).wf = true) → l1.length ≤ maxLen → (∀ y ∈ l1, (Lit.int .i64 y).wf = true) → (Lit.int .i64 a2).wf = true → ∃ k, switchboardlaw02_VecExact.f k l0 l1 a2 = some true

theorem wrap_small {i : Int} (h0 : -9223372036854775808 ≤ i) (h1 : i < 9223372036854775808) : wrap64 i = i := by
  unfold wrap64
  omega

theorem ev_rounds {g : Nat → Option Bool} (h : Ev g true) : ∃ k, g k = some true := h.rounds
theorem ev_shift {α : Type} {g : Nat → Option α} {r : α} (h : Ev (fun k => g (k + 1)) r) : Ev g r := Ev.step (fun _ => rfl) h

theorem rd_get {v : List Int} {i : Int} (h0 : 0 ≤ i) (h1 : i < v.length) : ∃ h : i.toNat < v.length, rd v i = v[i.toNat]'h := by
  refine ⟨by omega, ?_⟩
  unfold rd
  rw [List.getD_eq_getElem?_getD, List.getElem?_eq_getElem (by omega)]
  rfl

theorem take_rd {v : List Int} {i : Nat} (h : i < v.length) : v.take i ++ [rd v i] = v.take (i + 1) := by
  obtain ⟨h', e⟩ := rd_get (v := v) (i := (i : Int)) (by omega) (by omega)
  rw [e]
  simp only [Int.toNat_natCast]
  rw [List.take_succ_eq_append_getElem h]

theorem rd_append_left {a b : List Int} {i : Int} (h0 : 0 ≤ i) (h1 : i < a.length) : rd (a ++ b) i = rd a i := by
  unfold rd
  rw [List.getD_eq_getElem?_getD, List.getD_eq_getElem?_getD, List.getElem?_append_left (by omega)]

theorem rd_append_right {a b : List Int} {i : Int} (h0 : 0 ≤ i) : rd (a ++ b) ((a.length : Int) + i) = rd b i := by
  unfold rd
  rw [List.getD_eq_getElem?_getD, List.getD_eq_getElem?_getD, List.getElem?_append_right (by omega)]
  congr 2
  omega

theorem rd_map {v : List Int} (f : Int → Int) {i : Int} (h0 : 0 ≤ i) (h1 : i < v.length) : rd (v.map f) i = f (rd v i) := by
  obtain ⟨h, e⟩ := rd_get h0 h1
  obtain ⟨h', e'⟩ := rd_get (v := v.map f) h0 (by simpa using h1)
  rw [e, e']
  simp

theorem rd_mem {v : List Int} {i : Int} (h0 : 0 ≤ i) (h1 : i < v.length) : rd v i ∈ v := by
  obtain ⟨h, e⟩ := rd_get h0 h1
  rw [e]
  exact List.getElem_mem h

theorem hold_range (x : Int) : -2147483647 ≤ hold x ∧ hold x ≤ 2147483647 := by
  unfold hold mx mn
  split <;> split <;> omega
theorem hold_id {x : Int} (h0 : -2147483647 ≤ x) (h1 : x ≤ 2147483647) : hold x = x := by
  unfold hold mx mn
  split <;> split <;> omega
theorem hold_hold (x : Int) : hold (hold x) = hold x := hold_id (hold_range x).1 (hold_range x).2
theorem hold_cases (x : Int) : hold x = if x > 2147483647 then 2147483647 else if x < -2147483647 then -2147483647 else x := by
  unfold hold mx mn
  split <;> split <;> split <;> first | omega | (split <;> omega)
theorem hold_zero : hold 0 = 0 := by decide

theorem prod_range {x y : Int} (hx : -2147483647 ≤ x ∧ x ≤ 2147483647) (hy : -2147483647 ≤ y ∧ y ≤ 2147483647) : -4611686014132420609 ≤ x * y ∧ x * y ≤ 4611686014132420609 := by
  have h1 : x.natAbs ≤ 2147483647 := by omega
  have h2 : y.natAbs ≤ 2147483647 := by omega
  have h3 : (x * y).natAbs ≤ 2147483647 * 2147483647 := by rw [Int.natAbs_mul]; exact Nat.mul_le_mul h1 h2
  omega
theorem mul_wrap (a b : Int) : wrap64 (hold a * hold b) = hold a * hold b := by
  have := prod_range (hold_range a) (hold_range b)
  exact wrap_small (by omega) (by omega)
theorem tdiv_range {p : Int} (h0 : -4611686014132420609 ≤ p) (h1 : p ≤ 4611686014132420609) : -70368744144896 ≤ p.tdiv 65536 ∧ p.tdiv 65536 ≤ 70368744144896 := by
  rcases Int.le_total 0 p with h | h
  · rw [Int.tdiv_eq_ediv_of_nonneg h]; omega
  · have e : p.tdiv 65536 = -((-p).tdiv 65536) := by rw [Int.neg_tdiv]; omega
    rw [e, Int.tdiv_eq_ediv_of_nonneg (by omega)]; omega
theorem mulI_eq (a b : Int) : mulI a b = hold ((hold a * hold b).tdiv 65536) := by
  unfold mulI
  have := prod_range (hold_range a) (hold_range b)
  have h2 := tdiv_range this.1 this.2
  rw [mul_wrap, wrap_small (by omega) (by omega)]
theorem addI_eq (a b : Int) : addI a b = hold (hold a + hold b) := by
  unfold addI
  have h1 := hold_range a
  have h2 := hold_range b
  rw [wrap_small (by omega) (by omega)]
theorem mulI_comm (a b : Int) : mulI a b = mulI b a := by rw [mulI_eq, mulI_eq, Int.mul_comm]
theorem addI_comm (a b : Int) : addI a b = addI b a := by rw [addI_eq, addI_eq, Int.add_comm]
theorem mulI_range (a b : Int) : -2147483647 ≤ mulI a b ∧ mulI a b ≤ 2147483647 := by rw [mulI_eq]; exact hold_range _
theorem addI_range (a b : Int) : -2147483647 ≤ addI a b ∧ addI a b ≤ 2147483647 := by rw [addI_eq]; exact hold_range _
theorem hold_mulI (a b : Int) : hold (mulI a b) = mulI a b := hold_id (mulI_range a b).1 (mulI_range a b).2
theorem hold_addI (a b : Int) : hold (addI a b) = addI a b := hold_id (addI_range a b).1 (addI_range a b).2
theorem mulI_zero (a : Int) : mulI a 0 = 0 := by rw [mulI_eq, hold_zero, Int.mul_zero]; rfl
theorem mulI_zero_left (a : Int) : mulI 0 a = 0 := by rw [mulI_comm, mulI_zero]
theorem addI_zero (a : Int) : addI a 0 = hold a := by rw [addI_eq, hold_zero, Int.add_zero, hold_hold]
theorem addI_zero_left (a : Int) : addI 0 a = hold a := by rw [addI_comm, addI_zero]
theorem mulI_one (a : Int) : mulI a 65536 = hold a := by
  rw [mulI_eq, hold_id (x := 65536) (by omega) (by omega), Int.mul_tdiv_cancel _ (by omega), hold_hold]
theorem mulI_hold_left (a b : Int) : mulI (hold a) b = mulI a b := by rw [mulI_eq, mulI_eq, hold_hold]
theorem mulI_hold_right (a b : Int) : mulI a (hold b) = mulI a b := by rw [mulI_eq, mulI_eq, hold_hold]
theorem mulI_self (a : Int) : 0 ≤ mulI a a := by
  rw [mulI_eq]
  have h : 0 ≤ hold a * hold a := by
    rcases Int.le_total 0 (hold a) with h | h
    · exact Int.mul_nonneg h h
    · rw [← Int.neg_mul_neg]; exact Int.mul_nonneg (by omega) (by omega)
  rw [Int.tdiv_eq_ediv_of_nonneg h, hold_cases]
  split
  · omega
  · split
    · omega
    · omega
theorem addF (a b : Int) : fix_Add.f a b = some (addI a b) := rfl
theorem mulF (a b : Int) : fix_Mul.f a b = some (mulI a b) := rfl
theorem holdF (a : Int) : fix_Hold.f a = some (hold a) := rfl

/-- The products of the first numbers, added. -/
def dotN (a b : List Int) : Nat → Int
  | 0 => 0
  | n + 1 => addI (dotN a b n) (mulI (rd a n) (rd b n))
theorem dotN_range (a b : List Int) (n : Nat) : -2147483647 ≤ dotN a b n ∧ dotN a b n ≤ 2147483647 := by
  cases n with
  | zero => simp [dotN]
  | succ n => exact addI_range _ _
theorem dotN_comm (a b : List Int) : ∀ n, dotN a b n = dotN b a n := by
  intro n
  induction n with
  | zero => rfl
  | succ n ih => simp only [dotN]; rw [ih, mulI_comm]
theorem dotN_congr {a b a' b' : List Int} : ∀ n : Nat, (∀ i : Nat, i < n → rd a i = rd a' i ∧ rd b i = rd b' i) → dotN a b n = dotN a' b' n := by
  intro n
  induction n with
  | zero => intro _; rfl
  | succ n ih =>
    intro h
    simp only [dotN]
    rw [ih (fun i hi => h i (by omega)), (h n (by omega)).1, (h n (by omega)).2]
theorem dot_l0 (a b : List Int) (hl : a.length = b.length) (hn : a.length ≤ 9223372036854775806) : ∀ (d i : Nat), i + d = a.length →
    Ev (fun k => vec_Dot.l0 k b (dotN a b i) a (a.length : Int) i) (dotN a b a.length, true) := by
  intro d
  induction d with
  | zero =>
    intro i hi
    have e : i = a.length := by omega
    subst e
    refine Ev.step (f := fun _ => some _) (fun k => ?_) (Ev.now _)
    simp only [vec_Dot.l0]
    rw [if_neg (by omega)]
  | succ d ih =>
    intro i hi
    have hw : wrap64 ((i : Int) + 1) = ((i + 1 : Nat) : Int) := by rw [wrap_small (by omega) (by omega)]; omega
    refine Ev.step (fun k => ?_) (ih (i + 1) (by omega))
    simp only [vec_Dot.l0, mulF, addF, Option.bind_some]
    rw [if_pos (by omega), if_pos (by omega), if_pos (by omega), if_pos (by omega), hw]
    rfl
theorem dot_ev (a b : List Int) (hl : a.length = b.length) (hn : a.length ≤ 9223372036854775806) : Ev (fun k => vec_Dot.f k a b) (dotN a b a.length, true) := by
  unfold vec_Dot.f
  simp only [if_pos (show (a.length : Int) = (b.length : Int) by omega)]
  exact dot_l0 a b hl hn a.length 0 (by omega)
theorem dot_no (a b : List Int) (hl : a.length ≠ b.length) : Ev (fun k => vec_Dot.f k a b) (0, false) := by
  unfold vec_Dot.f
  simp only [if_neg (show ¬ (a.length : Int) = (b.length : Int) by omega)]
  exact Ev.now _

theorem rd_ext {a b : List Int} (hl : a.length = b.length) (h : ∀ i : Nat, i < a.length → rd a i = rd b i) : a = b := by
  refine List.ext_getElem hl fun i h1 h2 => ?_
  obtain ⟨_, e⟩ := rd_get (v := a) (i := (i : Int)) (by omega) (by omega)
  obtain ⟨_, e'⟩ := rd_get (v := b) (i := (i : Int)) (by omega) (by omega)
  have := h i h1
  rw [e, e'] at this
  simpa using this
theorem same_l0 (a : List Int) (hn : a.length ≤ 9223372036854775806) : ∀ (d i : Nat), i + d = a.length →
    Ev (fun k => switchboardref02_Same.l0 k a a i) true := by
  intro d
  induction d with
  | zero =>
    intro i hi
    refine Ev.step (f := fun _ => some _) (fun k => ?_) (Ev.now _)
    simp only [switchboardref02_Same.l0]
    rw [if_neg (by omega)]
  | succ d ih =>
    intro i hi
    have hw : wrap64 ((i : Int) + 1) = ((i + 1 : Nat) : Int) := by rw [wrap_small (by omega) (by omega)]; omega
    refine Ev.step (fun k => ?_) (ih (i + 1) (by omega))
    simp only [switchboardref02_Same.l0, if_true]
    rw [if_pos (by omega), if_pos (by omega), if_pos (by omega), hw]
theorem same_refl (a : List Int) (hn : a.length ≤ 9223372036854775806) : Ev (fun k => switchboardref02_Same.f k a a) true := by
  unfold switchboardref02_Same.f
  simp only [if_true]
  exact same_l0 a hn a.length 0 (by omega)
theorem same_ev {a b : List Int} (h : a = b) (hn : a.length ≤ 9223372036854775806) : Ev (fun k => switchboardref02_Same.f k a b) true := by
  subst h
  exact same_refl a hn

theorem rd_mapTo (F : Int → Int → Int) (l : List Int) {n i : Nat} (h : i < n) : rd (mapTo F l n) i = F (i : Int) (rd l (i : Int)) := by
  unfold rd mapTo
  rw [List.getD_eq_getElem?_getD, Int.toNat_natCast, List.getElem?_map, List.getElem?_range h]
  rfl
theorem mapTo_congr {F G : Int → Int → Int} {l m : List Int} {n : Nat} (h : ∀ i : Nat, i < n → F i (rd l i) = G i (rd m i)) : mapTo F l n = mapTo G m n := by
  unfold mapTo
  refine List.map_congr_left fun i hi => ?_
  exact h i (List.mem_range.1 hi)
theorem mapTo_eq {F : Int → Int → Int} {l m : List Int} (hl : l.length = m.length) (h : ∀ i : Nat, i < m.length → F i (rd l i) = rd m i) : mapTo F l l.length = m := by
  refine rd_ext (by rw [mapTo_length, hl]) fun i hi => ?_
  rw [mapTo_length] at hi
  rw [rd_mapTo F l hi]
  exact h i (by omega)
theorem add_yes {a b : List Int} (hl : a.length = b.length) (hn : a.length < 17592186044416) : vec_Add.f a b = some (mapTo (fun i x => addI x (rd b i)) a a.length, true) := by
  unfold vec_Add.f
  rw [if_pos (by omega), if_pos hn]
theorem add_no {a b : List Int} (hl : a.length ≠ b.length) : vec_Add.f a b = some ([], false) := by
  unfold vec_Add.f
  rw [if_neg (by omega)]
theorem scale_f {a : List Int} (k : Int) (hn : a.length < 17592186044416) : vec_Scale.f a k = some (mapTo (fun _ x => mulI x k) a a.length) := by
  unfold vec_Scale.f
  rw [if_pos hn]
theorem relu_f {a : List Int} (hn : a.length < 17592186044416) : vec_Relu.f a = some (mapTo (fun _ x => mx (hold x) 0) a a.length) := by
  unfold vec_Relu.f
  rw [if_pos hn]
theorem rd_replicate (n : Nat) {i : Nat} (h : i < n) : rd (List.replicate n 0) i = 0 := by
  unfold rd
  rw [List.getD_eq_getElem?_getD, Int.toNat_natCast, List.getElem?_replicate, if_pos h]
  rfl
theorem relu_range (x : Int) : 0 ≤ mx (hold x) 0 ∧ mx (hold x) 0 ≤ 2147483647 := by
  have := hold_range x
  unfold mx
  split <;> omega
theorem dotN_zero_right (a b : List Int) : ∀ n : Nat, (∀ i : Nat, i < n → rd b i = 0) → dotN a b n = 0 := by
  intro n
  induction n with
  | zero => intro _; rfl
  | succ n ih =>
    intro h
    simp only [dotN]
    rw [ih (fun i hi => h i (by omega)), h n (by omega), mulI_zero, addI_zero]
    rfl

theorem ref_hold (x : Int) : switchboardref01_Hold.f x = some (hold x) := by
  unfold switchboardref01_Hold.f
  rw [hold_cases]
  split
  · rfl
  · split <;> rfl
theorem ref_mul_j0 (x y : Int) (s : Bool) (hx : -2147483647 ≤ x ∧ x ≤ 2147483647) (hy : -2147483647 ≤ y ∧ y ≤ 2147483647) :
    Ev (fun k => switchboardref01_Mul.j0 k x y s) (hold (if s = true then -((x * y).tdiv 65536) else (x * y).tdiv 65536)) := by
  have hp := prod_range hx hy
  have ht := tdiv_range hp.1 hp.2
  refine ev_shift ?_
  by_cases c : y < 0
  · have e1 : wrap64 (-y) = -y := wrap_small (by omega) (by omega)
    have e2 : wrap64 (x * -y) = -(x * y) := by rw [Int.mul_neg]; exact wrap_small (by omega) (by omega)
    have e3 : wrap64 ((-(x * y)).tdiv 65536) = -((x * y).tdiv 65536) := by rw [Int.neg_tdiv]; exact wrap_small (by omega) (by omega)
    have e4 : wrap64 (- -((x * y).tdiv 65536)) = (x * y).tdiv 65536 := by rw [Int.neg_neg]; exact wrap_small (by omega) (by omega)
    cases s
    · simp only [switchboardref01_Mul.j0, if_pos c, if_neg (show ¬ (false = true) by decide), e1, e2, e3, e4, ref_hold, Option.bind_some]
      exact Ev.now _
    · simp only [switchboardref01_Mul.j0, if_pos c, if_true, e1, e2, e3, ref_hold, Option.bind_some]
      exact Ev.now _
  · have e2 : wrap64 (x * y) = x * y := wrap_small (by omega) (by omega)
    have e3 : wrap64 ((x * y).tdiv 65536) = (x * y).tdiv 65536 := wrap_small (by omega) (by omega)
    have e4 : wrap64 (-((x * y).tdiv 65536)) = -((x * y).tdiv 65536) := wrap_small (by omega) (by omega)
    cases s
    · simp only [switchboardref01_Mul.j0, if_neg c, if_neg (show ¬ (false = true) by decide), e2, e3, ref_hold, Option.bind_some]
      exact Ev.now _
    · simp only [switchboardref01_Mul.j0, if_neg c, if_true, e2, e3, e4, ref_hold, Option.bind_some]
      exact Ev.now _
theorem ref_mul (a b : Int) : Ev (fun k => switchboardref01_Mul.f k a b) (mulI a b) := by
  unfold switchboardref01_Mul.f
  have ha := hold_range a
  have hb := hold_range b
  rw [mulI_eq]
  simp only [ref_hold, Option.bind_some]
  by_cases c : hold a < 0
  · have e1 : wrap64 (-(hold a)) = -(hold a) := wrap_small (by omega) (by omega)
    simp only [if_pos c, e1, Bool.not_false]
    have := ref_mul_j0 (-(hold a)) (hold b) true (by omega) hb
    rw [if_pos rfl, Int.neg_mul, Int.neg_tdiv, Int.neg_neg] at this
    exact this
  · simp only [if_neg c]
    have := ref_mul_j0 (hold a) (hold b) false ha hb
    rw [if_neg (by decide)] at this
    exact this

theorem ref_dot_l0 (a b : List Int) (hl : a.length = b.length) (hn : a.length ≤ 9223372036854775806) : ∀ (d i : Nat), i + d = a.length →
    Ev (fun k => switchboardref02_Dot.l0 k a b (dotN a b i) i) (dotN a b a.length) := by
  intro d
  induction d with
  | zero =>
    intro i hi
    have e : i = a.length := by omega
    subst e
    refine ev_shift ?_
    simp only [switchboardref02_Dot.l0, if_neg (show ¬ (a.length : Int) < (a.length : Int) by omega)]
    exact Ev.now _
  | succ d ih =>
    intro i hi
    have hw : wrap64 ((i : Int) + 1) = ((i + 1 : Nat) : Int) := by rw [wrap_small (by omega) (by omega)]; omega
    have h1 := dotN_range a b i
    have h2 := mulI_range (rd a i) (rd b i)
    refine ev_shift ?_
    simp only [switchboardref02_Dot.l0, if_pos (show (i : Int) < (a.length : Int) by omega), if_pos (show (0 : Int) ≤ (i : Int) by omega), if_pos (show (i : Int) < (b.length : Int) by omega), hw]
    refine Ev.bind (ref_mul (rd a i) (rd b i)) ?_
    have e : hold (wrap64 (dotN a b i + mulI (rd a i) (rd b i))) = dotN a b (i + 1) := by
      simp only [dotN]
      rw [addI_eq, hold_id h1.1 h1.2, hold_id h2.1 h2.2, wrap_small (by omega) (by omega)]
    simp only [ref_hold, Option.bind_some, e]
    exact ih (i + 1) (by omega)
theorem ref_dot (a b : List Int) (hl : a.length = b.length) (hn : a.length ≤ 9223372036854775806) : Ev (fun k => switchboardref02_Dot.f k a b) (dotN a b a.length) :=
  ref_dot_l0 a b hl hn a.length 0 (by omega)

theorem awake_ev : Ev (fun k => switchboardlaw02_awake.f k) true :=
  Ev.of switchboardlaw02_awake.mono (k := 20) (by decide +kernel)
theorem awake2 : Ev (fun k => (switchboardlaw02_awake.f k).bind fun t => some t) true := Ev.bind awake_ev (Ev.now true)

theorem ref_add_l0 (a b : List Int) (hl : a.length = b.length) (hn : a.length ≤ 100) : ∀ (d i : Nat), i + d = a.length →
    Ev (fun k => switchboardref02_Add.l0 k a b (mapTo (fun i x => addI x (rd b i)) a i) i) (mapTo (fun i x => addI x (rd b i)) a a.length) := by
  intro d
  induction d with
  | zero =>
    intro i hi
    have e : i = a.length := by omega
    subst e
    refine ev_shift ?_
    simp only [switchboardref02_Add.l0, if_neg (show ¬ (a.length : Int) < (a.length : Int) by omega)]
    exact Ev.now _
  | succ d ih =>
    intro i hi
    have hw : wrap64 ((i : Int) + 1) = ((i + 1 : Nat) : Int) := by rw [wrap_small (by omega) (by omega)]; omega
    refine ev_shift ?_
    simp only [switchboardref02_Add.l0, if_pos (show (i : Int) < (a.length : Int) by omega), if_pos (show (0 : Int) ≤ (i : Int) by omega), if_pos (show (i : Int) < (b.length : Int) by omega), hw, ref_hold, Option.bind_some, mapTo_length,
      if_pos (show i < 17592186044416 by omega)]
    have := ih (i + 1) (by omega)
    rw [mapTo_succ] at this
    exact this
theorem ref_scale_l0 (a : List Int) (c : Int) (hn : a.length ≤ 100) : ∀ (d i : Nat), i + d = a.length →
    Ev (fun k => switchboardref02_Scale.l0 k a c (mapTo (fun _ x => mulI x c) a i) i) (mapTo (fun _ x => mulI x c) a a.length) := by
  intro d
  induction d with
  | zero =>
    intro i hi
    have e : i = a.length := by omega
    subst e
    refine ev_shift ?_
    simp only [switchboardref02_Scale.l0, if_neg (show ¬ (a.length : Int) < (a.length : Int) by omega)]
    exact Ev.now _
  | succ d ih =>
    intro i hi
    have hw : wrap64 ((i : Int) + 1) = ((i + 1 : Nat) : Int) := by rw [wrap_small (by omega) (by omega)]; omega
    refine ev_shift ?_
    simp only [switchboardref02_Scale.l0, if_pos (show (i : Int) < (a.length : Int) by omega), if_pos (show (0 : Int) ≤ (i : Int) by omega), hw, mapTo_length, if_pos (show i < 17592186044416 by omega)]
    refine Ev.bind (ref_mul (rd a i) c) ?_
    have := ih (i + 1) (by omega)
    rw [mapTo_succ] at this
    exact this
theorem ref_relu_l0 (a : List Int) (hn : a.length ≤ 100) : ∀ (d i : Nat), i + d = a.length →
    Ev (fun k => switchboardref02_Relu.l0 k a (mapTo (fun _ x => mx (hold x) 0) a i) i) (mapTo (fun _ x => mx (hold x) 0) a a.length) := by
  intro d
  induction d with
  | zero =>
    intro i hi
    have e : i = a.length := by omega
    subst e
    refine ev_shift ?_
    simp only [switchboardref02_Relu.l0, if_neg (show ¬ (a.length : Int) < (a.length : Int) by omega)]
    exact Ev.now _
  | succ d ih =>
    intro i hi
    have hw : wrap64 ((i : Int) + 1) = ((i + 1 : Nat) : Int) := by rw [wrap_small (by omega) (by omega)]; omega
    have := ih (i + 1) (by omega)
    rw [mapTo_succ] at this
    refine ev_shift ?_
    simp only [switchboardref02_Relu.l0, if_pos (show (i : Int) < (a.length : Int) by omega), if_pos (show (0 : Int) ≤ (i : Int) by omega), hw, mapTo_length, if_pos (show i < 17592186044416 by omega), ref_hold, Option.bind_some]
    by_cases c : hold (rd a i) < 0
    · simp only [if_pos c]
      rw [show mx (hold (rd a i)) 0 = 0 by unfold mx; rw [if_pos c]] at this
      exact this
    · simp only [if_neg c]
      rw [show mx (hold (rd a i)) 0 = hold (rd a i) by unfold mx; rw [if_neg c]] at this
      exact this
theorem exact_j0_true (a b : List Int) (c : Int) : Ev (fun k => switchboardlaw02_VecExact.j0 k a b c true) true := by
  refine ev_shift ?_
  simp only [switchboardlaw02_VecExact.j0, if_true]
  exact awake2
theorem exact_j0_false (a b : List Int) (c : Int) (hn : a.length ≤ 100) : Ev (fun k => switchboardlaw02_VecExact.j0 k a b c false) true := by
  have e1 : Ev (fun k => switchboardref02_Scale.f k a c) _ := ref_scale_l0 a c hn a.length 0 (by omega)
  have e2 : Ev (fun k => switchboardref02_Relu.f k a) _ := ref_relu_l0 a hn a.length 0 (by omega)
  have s1 := same_refl (mapTo (fun _ x => mulI x c) a a.length) (by rw [mapTo_length]; omega)
  have s2 := same_refl (mapTo (fun _ x => mx (hold x) 0) a a.length) (by rw [mapTo_length]; omega)
  refine ev_shift ?_
  simp only [switchboardlaw02_VecExact.j0, if_neg (show ¬ (false = true) by decide), scale_f c (show a.length < 17592186044416 by omega), relu_f (show a.length < 17592186044416 by omega), Option.bind_some]
  by_cases hl : a.length = b.length
  · simp only [add_yes hl (show a.length < 17592186044416 by omega), Option.bind_some]
    refine Ev.bind (dot_ev a b hl (by omega)) (Ev.bind e1 (Ev.bind s1 ?_))
    simp only [if_true]
    refine Ev.bind e2 (Ev.bind s2 ?_)
    simp only [Bool.not_true]
    refine ev_shift ?_
    simp only [switchboardlaw02_VecExact.j1, if_neg (show ¬ (false = true) by decide), if_pos (show (a.length : Int) = (b.length : Int) by omega)]
    refine Ev.bind (ref_dot a b hl (by omega)) ?_
    simp only [if_true]
    have e3 : Ev (fun k => switchboardref02_Add.f k a b) _ := ref_add_l0 a b hl hn a.length 0 (by omega)
    refine Ev.bind e3 (Ev.bind (same_refl _ (by rw [mapTo_length]; omega)) ?_)
    simp only [if_true]
    exact awake2
  · simp only [add_no hl, Option.bind_some]
    refine Ev.bind (dot_no a b hl) (Ev.bind e1 (Ev.bind s1 ?_))
    simp only [if_true]
    refine Ev.bind e2 (Ev.bind s2 ?_)
    simp only [Bool.not_true]
    refine ev_shift ?_
    simp only [switchboardlaw02_VecExact.j1, if_neg (show ¬ (false = true) by decide), if_neg (show ¬ (a.length : Int) = (b.length : Int) by omega), if_true, List.length_nil, Int.natCast_zero]
    exact awake2
theorem VecExact : VecExactPure := by
  intro a b c _ _ _ _ _
  refine ev_rounds ?_
  unfold switchboardlaw02_VecExact.f
  by_cases h : (a.length : Int) > 100
  · simp only [if_pos h]
    exact exact_j0_true a b c
  · simp only [if_neg h]
    by_cases h2 : (b.length : Int) > 100
    · simp only [decide_eq_true h2]
      exact exact_j0_true a b c
    · simp only [decide_eq_false h2]
      exact exact_j0_false a b c (by omega)

end Go.Proofs.Ytfdhfmnjihnonaa.Pure
