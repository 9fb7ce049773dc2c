/- Proved here: of small numbers Dot of two rows put together is both, added, and so is Add, side by side (all rows of 32 bit numbers; past 8 numbers, or of unlike lengths, the fixed answer alone). No condition. -/
import Derived.Test.YtfdhfmnjihnonaaPv2
namespace Go.Proofs.Ytfdhfmnjihnonaa.Pure
open Go.RowKit Go.Proofs.Ytfdhfmnjihnonaa.Pv Go.Proofs.YtfdhfmnjihnonaaW.PrintWords Go.Proofs.YtfdhfmnjihnonaaW.PrintLast Go.Proofs.YtfdhfmnjihnonaaW.PrintMore
set_option linter.unusedVariables false
set_option linter.unusedSimpArgs false

def VecPartsPure : Prop := ∀ (l0 : List Int) (l1 : List Int) (l2 : List Int) (l3 : List Int), l0.length ≤ maxLen → (∀ y ∈ l0, (Lit.int .i32 y).wf = true) → l1.length ≤ maxLen → (∀ y ∈ l1, (Lit.int .i32 y).wf = true) → l2.length ≤ maxLen → (∀ y ∈ l2, (Lit.int .i32 y).wf = true) → l3.length ≤ maxLen → (∀ y ∈ l3, (Lit.int .i32 y).wf = true) → ∃ k, switchboardlaw02_VecParts.f k l0 l1 l2 l3 = some true

theorem wrap_small {i : Int} (h0 : -9223372036854775808 ≤ i) (h1 : i < 9223372036854775808) : wrap64 i = i := by
  unfold wrap64
  omega

theorem ev_rounds {g : Nat → Option Bool} (h : Ev g true) : ∃ k, g k = some true := h.rounds
theorem ev_shift {α : Type} {g : Nat → Option α} {r : α} (h : Ev (fun k => g (k + 1)) r) : Ev g r := Ev.step (fun _ => rfl) h

theorem rd_get {v : List Int} {i : Int} (h0 : 0 ≤ i) (h1 : i < v.length) : ∃ h : i.toNat < v.length, rd v i = v[i.toNat]'h := by
  refine ⟨by omega, ?_⟩
  unfold rd
  rw [List.getD_eq_getElem?_getD, List.getElem?_eq_getElem (by omega)]
  rfl

theorem take_rd {v : List Int} {i : Nat} (h : i < v.length) : v.take i ++ [rd v i] = v.take (i + 1) := by
  obtain ⟨h', e⟩ := rd_get (v := v) (i := (i : Int)) (by omega) (by omega)
  rw [e]
  simp only [Int.toNat_natCast]
  rw [List.take_succ_eq_append_getElem h]

theorem rd_append_left {a b : List Int} {i : Int} (h0 : 0 ≤ i) (h1 : i < a.length) : rd (a ++ b) i = rd a i := by
  unfold rd
  rw [List.getD_eq_getElem?_getD, List.getD_eq_getElem?_getD, List.getElem?_append_left (by omega)]

theorem rd_append_right {a b : List Int} {i : Int} (h0 : 0 ≤ i) : rd (a ++ b) ((a.length : Int) + i) = rd b i := by
  unfold rd
  rw [List.getD_eq_getElem?_getD, List.getD_eq_getElem?_getD, List.getElem?_append_right (by omega)]
  congr 2
  omega

theorem rd_map {v : List Int} (f : Int → Int) {i : Int} (h0 : 0 ≤ i) (h1 : i < v.length) : rd (v.map f) i = f (rd v i) := by
  obtain ⟨h, e⟩ := rd_get h0 h1
  obtain ⟨h', e'⟩ := rd_get (v := v.map f) h0 (by simpa using h1)
  rw [e, e']
  simp

theorem rd_mem {v : List Int} {i : Int} (h0 : 0 ≤ i) (h1 : i < v.length) : rd v i ∈ v := by
  obtain ⟨h, e⟩ := rd_get h0 h1
  rw [e]
  exact List.getElem_mem h

theorem hold_range (x : Int) : -2147483647 ≤ hold x ∧ hold x ≤ 2147483647 := by
  unfold hold mx mn
  split <;> split <;> omega
theorem hold_id {x : Int} (h0 : -2147483647 ≤ x) (h1 : x ≤ 2147483647) : hold x = x := by
  unfold hold mx mn
  split <;> split <;> omega
theorem hold_hold (x : Int) : hold (hold x) = hold x := hold_id (hold_range x).1 (hold_range x).2
theorem hold_cases (x : Int) : hold x = if x > 2147483647 then 2147483647 else if x < -2147483647 then -2147483647 else x := by
  unfold hold mx mn
  split <;> split <;> split <;> first | omega | (split <;> omega)
theorem hold_zero : hold 0 = 0 := by decide

theorem prod_range {x y : Int} (hx : -2147483647 ≤ x ∧ x ≤ 2147483647) (hy : -2147483647 ≤ y ∧ y ≤ 2147483647) : -4611686014132420609 ≤ x * y ∧ x * y ≤ 4611686014132420609 := by
  have h1 : x.natAbs ≤ 2147483647 := by omega
  have h2 : y.natAbs ≤ 2147483647 := by omega
  have h3 : (x * y).natAbs ≤ 2147483647 * 2147483647 := by rw [Int.natAbs_mul]; exact Nat.mul_le_mul h1 h2
  omega
theorem mul_wrap (a b : Int) : wrap64 (hold a * hold b) = hold a * hold b := by
  have := prod_range (hold_range a) (hold_range b)
  exact wrap_small (by omega) (by omega)
theorem tdiv_range {p : Int} (h0 : -4611686014132420609 ≤ p) (h1 : p ≤ 4611686014132420609) : -70368744144896 ≤ p.tdiv 65536 ∧ p.tdiv 65536 ≤ 70368744144896 := by
  rcases Int.le_total 0 p with h | h
  · rw [Int.tdiv_eq_ediv_of_nonneg h]; omega
  · have e : p.tdiv 65536 = -((-p).tdiv 65536) := by rw [Int.neg_tdiv]; omega
    rw [e, Int.tdiv_eq_ediv_of_nonneg (by omega)]; omega
theorem mulI_eq (a b : Int) : mulI a b = hold ((hold a * hold b).tdiv 65536) := by
  unfold mulI
  have := prod_range (hold_range a) (hold_range b)
  have h2 := tdiv_range this.1 this.2
  rw [mul_wrap, wrap_small (by omega) (by omega)]
theorem addI_eq (a b : Int) : addI a b = hold (hold a + hold b) := by
  unfold addI
  have h1 := hold_range a
  have h2 := hold_range b
  rw [wrap_small (by omega) (by omega)]
theorem mulI_comm (a b : Int) : mulI a b = mulI b a := by rw [mulI_eq, mulI_eq, Int.mul_comm]
theorem addI_comm (a b : Int) : addI a b = addI b a := by rw [addI_eq, addI_eq, Int.add_comm]
theorem mulI_range (a b : Int) : -2147483647 ≤ mulI a b ∧ mulI a b ≤ 2147483647 := by rw [mulI_eq]; exact hold_range _
theorem addI_range (a b : Int) : -2147483647 ≤ addI a b ∧ addI a b ≤ 2147483647 := by rw [addI_eq]; exact hold_range _
theorem hold_mulI (a b : Int) : hold (mulI a b) = mulI a b := hold_id (mulI_range a b).1 (mulI_range a b).2
theorem hold_addI (a b : Int) : hold (addI a b) = addI a b := hold_id (addI_range a b).1 (addI_range a b).2
theorem mulI_zero (a : Int) : mulI a 0 = 0 := by rw [mulI_eq, hold_zero, Int.mul_zero]; rfl
theorem mulI_zero_left (a : Int) : mulI 0 a = 0 := by rw [mulI_comm, mulI_zero]
theorem addI_zero (a : Int) : addI a 0 = hold a := by rw [addI_eq, hold_zero, Int.add_zero, hold_hold]
theorem addI_zero_left (a : Int) : addI 0 a = hold a := by rw [addI_comm, addI_zero]
theorem mulI_one (a : Int) : mulI a 65536 = hold a := by
  rw [mulI_eq, hold_id (x := 65536) (by omega) (by omega), Int.mul_tdiv_cancel _ (by omega), hold_hold]
theorem mulI_hold_left (a b : Int) : mulI (hold a) b = mulI a b := by rw [mulI_eq, mulI_eq, hold_hold]
theorem mulI_hold_right (a b : Int) : mulI a (hold b) = mulI a b := by rw [mulI_eq, mulI_eq, hold_hold]
theorem mulI_self (a : Int) : 0 ≤ mulI a a := by
  rw [mulI_eq]
  have h : 0 ≤ hold a * hold a := by
    rcases Int.le_total 0 (hold a) with h | h
    · exact Int.mul_nonneg h h
    · rw [← Int.neg_mul_neg]; exact Int.mul_nonneg (by omega) (by omega)
  rw [Int.tdiv_eq_ediv_of_nonneg h, hold_cases]
  split
  · omega
  · split
    · omega
    · omega
theorem addF (a b : Int) : fix_Add.f a b = some (addI a b) := rfl
theorem mulF (a b : Int) : fix_Mul.f a b = some (mulI a b) := rfl
theorem holdF (a : Int) : fix_Hold.f a = some (hold a) := rfl

/-- The products of the first numbers, added. -/
def dotN (a b : List Int) : Nat → Int
  | 0 => 0
  | n + 1 => addI (dotN a b n) (mulI (rd a n) (rd b n))
theorem dotN_range (a b : List Int) (n : Nat) : -2147483647 ≤ dotN a b n ∧ dotN a b n ≤ 2147483647 := by
  cases n with
  | zero => simp [dotN]
  | succ n => exact addI_range _ _
theorem dotN_comm (a b : List Int) : ∀ n, dotN a b n = dotN b a n := by
  intro n
  induction n with
  | zero => rfl
  | succ n ih => simp only [dotN]; rw [ih, mulI_comm]
theorem dotN_congr {a b a' b' : List Int} : ∀ n : Nat, (∀ i : Nat, i < n → rd a i = rd a' i ∧ rd b i = rd b' i) → dotN a b n = dotN a' b' n := by
  intro n
  induction n with
  | zero => intro _; rfl
  | succ n ih =>
    intro h
    simp only [dotN]
    rw [ih (fun i hi => h i (by omega)), (h n (by omega)).1, (h n (by omega)).2]
theorem dot_l0 (a b : List Int) (hl : a.length = b.length) (hn : a.length ≤ 9223372036854775806) : ∀ (d i : Nat), i + d = a.length →
    Ev (fun k => vec_Dot.l0 k b (dotN a b i) a (a.length : Int) i) (dotN a b a.length, true) := by
  intro d
  induction d with
  | zero =>
    intro i hi
    have e : i = a.length := by omega
    subst e
    refine Ev.step (f := fun _ => some _) (fun k => ?_) (Ev.now _)
    simp only [vec_Dot.l0]
    rw [if_neg (by omega)]
  | succ d ih =>
    intro i hi
    have hw : wrap64 ((i : Int) + 1) = ((i + 1 : Nat) : Int) := by rw [wrap_small (by omega) (by omega)]; omega
    refine Ev.step (fun k => ?_) (ih (i + 1) (by omega))
    simp only [vec_Dot.l0, mulF, addF, Option.bind_some]
    rw [if_pos (by omega), if_pos (by omega), if_pos (by omega), if_pos (by omega), hw]
    rfl
theorem dot_ev (a b : List Int) (hl : a.length = b.length) (hn : a.length ≤ 9223372036854775806) : Ev (fun k => vec_Dot.f k a b) (dotN a b a.length, true) := by
  unfold vec_Dot.f
  simp only [if_pos (show (a.length : Int) = (b.length : Int) by omega)]
  exact dot_l0 a b hl hn a.length 0 (by omega)
theorem dot_no (a b : List Int) (hl : a.length ≠ b.length) : Ev (fun k => vec_Dot.f k a b) (0, false) := by
  unfold vec_Dot.f
  simp only [if_neg (show ¬ (a.length : Int) = (b.length : Int) by omega)]
  exact Ev.now _

theorem rd_ext {a b : List Int} (hl : a.length = b.length) (h : ∀ i : Nat, i < a.length → rd a i = rd b i) : a = b := by
  refine List.ext_getElem hl fun i h1 h2 => ?_
  obtain ⟨_, e⟩ := rd_get (v := a) (i := (i : Int)) (by omega) (by omega)
  obtain ⟨_, e'⟩ := rd_get (v := b) (i := (i : Int)) (by omega) (by omega)
  have := h i h1
  rw [e, e'] at this
  simpa using this
theorem same_l0 (a : List Int) (hn : a.length ≤ 9223372036854775806) : ∀ (d i : Nat), i + d = a.length →
    Ev (fun k => switchboardref02_Same.l0 k a a i) true := by
  intro d
  induction d with
  | zero =>
    intro i hi
    refine Ev.step (f := fun _ => some _) (fun k => ?_) (Ev.now _)
    simp only [switchboardref02_Same.l0]
    rw [if_neg (by omega)]
  | succ d ih =>
    intro i hi
    have hw : wrap64 ((i : Int) + 1) = ((i + 1 : Nat) : Int) := by rw [wrap_small (by omega) (by omega)]; omega
    refine Ev.step (fun k => ?_) (ih (i + 1) (by omega))
    simp only [switchboardref02_Same.l0, if_true]
    rw [if_pos (by omega), if_pos (by omega), if_pos (by omega), hw]
theorem same_refl (a : List Int) (hn : a.length ≤ 9223372036854775806) : Ev (fun k => switchboardref02_Same.f k a a) true := by
  unfold switchboardref02_Same.f
  simp only [if_true]
  exact same_l0 a hn a.length 0 (by omega)
theorem same_ev {a b : List Int} (h : a = b) (hn : a.length ≤ 9223372036854775806) : Ev (fun k => switchboardref02_Same.f k a b) true := by
  subst h
  exact same_refl a hn

theorem rd_mapTo (F : Int → Int → Int) (l : List Int) {n i : Nat} (h : i < n) : rd (mapTo F l n) i = F (i : Int) (rd l (i : Int)) := by
  unfold rd mapTo
  rw [List.getD_eq_getElem?_getD, Int.toNat_natCast, List.getElem?_map, List.getElem?_range h]
  rfl
theorem mapTo_congr {F G : Int → Int → Int} {l m : List Int} {n : Nat} (h : ∀ i : Nat, i < n → F i (rd l i) = G i (rd m i)) : mapTo F l n = mapTo G m n := by
  unfold mapTo
  refine List.map_congr_left fun i hi => ?_
  exact h i (List.mem_range.1 hi)
theorem mapTo_eq {F : Int → Int → Int} {l m : List Int} (hl : l.length = m.length) (h : ∀ i : Nat, i < m.length → F i (rd l i) = rd m i) : mapTo F l l.length = m := by
  refine rd_ext (by rw [mapTo_length, hl]) fun i hi => ?_
  rw [mapTo_length] at hi
  rw [rd_mapTo F l hi]
  exact h i (by omega)
theorem add_yes {a b : List Int} (hl : a.length = b.length) (hn : a.length < 17592186044416) : vec_Add.f a b = some (mapTo (fun i x => addI x (rd b i)) a a.length, true) := by
  unfold vec_Add.f
  rw [if_pos (by omega), if_pos hn]
theorem add_no {a b : List Int} (hl : a.length ≠ b.length) : vec_Add.f a b = some ([], false) := by
  unfold vec_Add.f
  rw [if_neg (by omega)]
theorem rd_replicate (n : Nat) {i : Nat} (h : i < n) : rd (List.replicate n 0) i = 0 := by
  unfold rd
  rw [List.getD_eq_getElem?_getD, Int.toNat_natCast, List.getElem?_replicate, if_pos h]
  rfl
theorem dotN_zero_right (a b : List Int) : ∀ n : Nat, (∀ i : Nat, i < n → rd b i = 0) → dotN a b n = 0 := by
  intro n
  induction n with
  | zero => intro _; rfl
  | succ n ih =>
    intro h
    simp only [dotN]
    rw [ih (fun i hi => h i (by omega)), h n (by omega), mulI_zero, addI_zero]
    rfl

theorem awake_ev : Ev (fun k => switchboardlaw02_awake.f k) true :=
  Ev.of switchboardlaw02_awake.mono (k := 20) (by decide +kernel)
theorem awake2 : Ev (fun k => (switchboardlaw02_awake.f k).bind fun t => some t) true := Ev.bind awake_ev (Ev.now true)

theorem wf32 {x : Int} (h : (Lit.int .i32 x).wf = true) : -2147483648 ≤ x ∧ x ≤ 2147483647 := by
  simp [Lit.wf, IntKind.min, IntKind.max, IntKind.signed, IntKind.bits] at h
  omega
theorem little_l0 (v : List Int) (hn : v.length ≤ 8) (hv : ∀ x ∈ v, -2147483648 ≤ x ∧ x ≤ 2147483647) : ∀ (d i : Nat), i + d = v.length →
    Ev (fun k => switchboardlaw02_little.l0 k ((v.take i).map (fun x => x.tmod 1048576)) v (v.length : Int) i) (v.map (fun x => x.tmod 1048576)) := by
  intro d
  induction d with
  | zero =>
    intro i hi
    have e : i = v.length := by omega
    subst e
    refine ev_shift ?_
    simp only [switchboardlaw02_little.l0, if_neg (show ¬ (v.length : Int) < (v.length : Int) by omega), List.take_length]
    exact Ev.now _
  | succ d ih =>
    intro i hi
    have hw : wrap64 ((i : Int) + 1) = ((i + 1 : Nat) : Int) := by rw [wrap_small (by omega) (by omega)]; omega
    have hm := hv _ (rd_mem (v := v) (i := (i : Int)) (by omega) (by omega))
    have hl : ((v.take i).map (fun x => x.tmod 1048576)).length < 17592186044416 := by rw [List.length_map, List.length_take]; omega
    refine ev_shift ?_
    simp only [switchboardlaw02_little.l0, if_pos (show (i : Int) < (v.length : Int) by omega), if_pos (show (0 : Int) ≤ (i : Int) by omega), if_pos hl, hw, wrap_small (i := rd v i) (by omega) (by omega)]
    have := ih (i + 1) (by omega)
    rw [← take_rd (by omega), List.map_append] at this
    exact this
theorem little_ev (v : List Int) (hn : v.length ≤ 8) (hv : ∀ x ∈ v, (Lit.int .i32 x).wf = true) : Ev (fun k => switchboardlaw02_little.f k v) (v.map (fun x => x.tmod 1048576)) := by
  have := little_l0 v hn (fun x hx => wf32 (hv x hx)) v.length 0 (by omega)
  exact this
/-- All numbers are below 16 One. -/
def Small (l : List Int) : Prop := ∀ x ∈ l, -1048576 < x ∧ x < 1048576
theorem small_little (v : List Int) : Small (v.map (fun x => x.tmod 1048576)) := by
  intro x hx
  obtain ⟨y, _, rfl⟩ := List.mem_map.1 hx
  have h1 := Int.tmod_lt_of_pos y (show (0 : Int) < 1048576 by omega)
  have h2 : -1048576 < y.tmod 1048576 := by
    rcases Int.le_total 0 y with h | h
    · have := Int.tmod_nonneg 1048576 h; omega
    · have := Int.neg_tmod y 1048576
      have h3 := Int.tmod_lt_of_pos (-y) (show (0 : Int) < 1048576 by omega)
      omega
  exact ⟨h2, h1⟩
theorem small_append {a b : List Int} (ha : Small a) (hb : Small b) : Small (a ++ b) := by
  intro x hx
  rcases List.mem_append.1 hx with h | h
  · exact ha x h
  · exact hb x h
theorem mul_small {x y : Int} (hx : -1048576 < x ∧ x < 1048576) (hy : -1048576 < y ∧ y < 1048576) : -16777216 ≤ mulI x y ∧ mulI x y ≤ 16777216 := by
  have h1 : x.natAbs ≤ 1048576 := by omega
  have h2 : y.natAbs ≤ 1048576 := by omega
  have h3 : (x * y).natAbs ≤ 1048576 * 1048576 := by rw [Int.natAbs_mul]; exact Nat.mul_le_mul h1 h2
  rw [mulI_eq, hold_id (x := x) (by omega) (by omega), hold_id (x := y) (by omega) (by omega)]
  generalize x * y = p at *
  have h4 : -16777216 ≤ p.tdiv 65536 ∧ p.tdiv 65536 ≤ 16777216 := by
    rcases Int.le_total 0 p with h | h
    · rw [Int.tdiv_eq_ediv_of_nonneg h]; omega
    · have e : p.tdiv 65536 = -((-p).tdiv 65536) := by rw [Int.neg_tdiv]; omega
      rw [e, Int.tdiv_eq_ediv_of_nonneg (by omega)]; omega
  rw [hold_id (by omega) (by omega)]
  exact h4
theorem small_rd {a : List Int} (ha : Small a) {i : Nat} (hi : i < a.length) : -1048576 < rd a i ∧ rd a i < 1048576 := ha _ (rd_mem (by omega) (by omega))
theorem addI_plain {s t : Int} (h1 : -1000000000 ≤ s ∧ s ≤ 1000000000) (h2 : -1000000000 ≤ t ∧ t ≤ 1000000000) : addI s t = s + t := by
  rw [addI_eq, hold_id (x := s) (by omega) (by omega), hold_id (x := t) (by omega) (by omega), hold_id (by omega) (by omega)]
theorem dot_small {a b : List Int} (ha : Small a) (hb : Small b) (hl : a.length = b.length) (hn : a.length ≤ 16) : ∀ n : Nat, n ≤ a.length → -(16777216 * (n : Int)) ≤ dotN a b n ∧ dotN a b n ≤ 16777216 * (n : Int) := by
  intro n
  induction n with
  | zero => intro _; simp [dotN]
  | succ n ih =>
    intro h
    have h1 := ih (by omega)
    have h2 := mul_small (small_rd ha (i := n) (by omega)) (small_rd hb (i := n) (by omega))
    simp only [dotN]
    rw [addI_plain (by omega) (by omega)]
    omega
theorem dot_append {a b c d : List Int} (ha : Small a) (hb : Small b) (hc : Small c) (hd : Small d) (hl : a.length = b.length) (hm : c.length = d.length) (hn : a.length ≤ 8) (hk : c.length ≤ 8) :
    dotN (a ++ c) (b ++ d) (a ++ c).length = dotN a b a.length + dotN c d c.length := by
  have key : ∀ n : Nat, n ≤ c.length → dotN (a ++ c) (b ++ d) (a.length + n) = dotN a b a.length + dotN c d n := by
    intro n
    induction n with
    | zero =>
      intro _
      simp only [dotN, Nat.add_zero, Int.add_zero]
      refine dotN_congr a.length fun i hi => ⟨rd_append_left (by omega) (by omega), rd_append_left (by omega) (by omega)⟩
    | succ n ih =>
      intro h
      have e1 : rd (a ++ c) ((a.length + n : Nat) : Int) = rd c n := by rw [show ((a.length + n : Nat) : Int) = (a.length : Int) + (n : Int) by omega]; exact rd_append_right (by omega)
      have e2 : rd (b ++ d) ((a.length + n : Nat) : Int) = rd d n := by rw [show ((a.length + n : Nat) : Int) = (b.length : Int) + (n : Int) by omega]; exact rd_append_right (by omega)
      have b1 := dot_small ha hb hl (by omega) a.length (by omega)
      have b2 := dot_small hc hd hm (by omega) n (by omega)
      have b3 := mul_small (small_rd hc (i := n) (by omega)) (small_rd hd (i := n) (by omega))
      have e3 : dotN (a ++ c) (b ++ d) (a.length + (n + 1)) = addI (dotN (a ++ c) (b ++ d) (a.length + n)) (mulI (rd (a ++ c) ((a.length + n : Nat) : Int)) (rd (b ++ d) ((a.length + n : Nat) : Int))) := rfl
      rw [e3, ih (by omega), e1, e2]
      simp only [dotN]
      rw [addI_plain (by omega) (by omega), addI_plain (by omega) (by omega)]
      omega
  rw [List.length_append]
  exact key c.length (by omega)
theorem add_append {a b c d : List Int} (hl : a.length = b.length) (hm : c.length = d.length) :
    mapTo (fun i x => addI x (rd (b ++ d) i)) (a ++ c) (a ++ c).length = mapTo (fun i x => addI x (rd b i)) a a.length ++ mapTo (fun i x => addI x (rd d i)) c c.length := by
  refine mapTo_eq (by rw [List.length_append, List.length_append, mapTo_length, mapTo_length]) fun i hi => ?_
  rw [List.length_append, mapTo_length, mapTo_length] at hi
  by_cases h : i < a.length
  · rw [rd_append_left (by omega) (by omega), rd_append_left (by omega) (by omega), rd_append_left (by omega) (by rw [mapTo_length]; omega), rd_mapTo _ _ h]
  · obtain ⟨j, rfl⟩ : ∃ j, i = a.length + j := ⟨i - a.length, by omega⟩
    have e0 : ((a.length + j : Nat) : Int) = (a.length : Int) + (j : Int) := by omega
    have e1 : rd (mapTo (fun i x => addI x (rd b i)) a a.length ++ mapTo (fun i x => addI x (rd d i)) c c.length) ((a.length + j : Nat) : Int) = rd (mapTo (fun i x => addI x (rd d i)) c c.length) j := by
      have := rd_append_right (a := mapTo (fun i x => addI x (rd b i)) a a.length) (b := mapTo (fun i x => addI x (rd d i)) c c.length) (i := (j : Int)) (by omega)
      rw [mapTo_length] at this
      rw [e0, this]
    have e2 : rd (a ++ c) ((a.length + j : Nat) : Int) = rd c j := by rw [e0]; exact rd_append_right (by omega)
    have e3 : rd (b ++ d) ((a.length + j : Nat) : Int) = rd d j := by rw [show ((a.length + j : Nat) : Int) = (b.length : Int) + (j : Int) by omega]; exact rd_append_right (by omega)
    rw [e1, e2, e3, rd_mapTo _ _ (by omega)]
theorem parts_true (a b c d : List Int) : Ev (fun k => switchboardlaw02_VecParts.j0 k a b c d true) true := by
  refine ev_shift ?_
  simp only [switchboardlaw02_VecParts.j0, if_true]
  exact awake2
theorem parts_false (a b c d : List Int) (ha : ∀ x ∈ a, (Lit.int .i32 x).wf = true) (hb : ∀ x ∈ b, (Lit.int .i32 x).wf = true) (hc : ∀ x ∈ c, (Lit.int .i32 x).wf = true) (hd : ∀ x ∈ d, (Lit.int .i32 x).wf = true)
    (hl : a.length = b.length) (hm : c.length = d.length) (hn : a.length ≤ 8) (hk : c.length ≤ 8) : Ev (fun k => switchboardlaw02_VecParts.j0 k a b c d false) true := by
  have ea := little_ev a hn ha
  have eb := little_ev b (by omega) hb
  have ec := little_ev c hk hc
  have ed := little_ev d (by omega) hd
  have sa := small_little a
  have sb := small_little b
  have sc := small_little c
  have sd := small_little d
  have la : (a.map (fun x => x.tmod 1048576)).length = a.length := List.length_map _
  have lb : (b.map (fun x => x.tmod 1048576)).length = b.length := List.length_map _
  have lc : (c.map (fun x => x.tmod 1048576)).length = c.length := List.length_map _
  have ld : (d.map (fun x => x.tmod 1048576)).length = d.length := List.length_map _
  generalize a.map (fun x => x.tmod 1048576) = w at *
  generalize b.map (fun x => x.tmod 1048576) = x at *
  generalize c.map (fun x => x.tmod 1048576) = y at *
  generalize d.map (fun x => x.tmod 1048576) = z at *
  have lwx : w.length = x.length := by omega
  have lyz : y.length = z.length := by omega
  have b1 := dot_small sa sb lwx (by omega) w.length (by omega)
  have b2 := dot_small sc sd lyz (by omega) y.length (by omega)
  refine ev_shift ?_
  simp only [switchboardlaw02_VecParts.j0, if_neg (show ¬ (false = true) by decide)]
  refine Ev.bind ea (Ev.bind eb (Ev.bind ec (Ev.bind ed ?_)))
  refine Ev.bind (dot_ev w x lwx (by omega)) (Ev.bind (dot_ev y z lyz (by omega)) ?_)
  simp only [Option.bind_some, List.nil_append, List.length_nil, if_pos (show 0 + w.length < 17592186044416 by omega), if_pos (show w.length + y.length < 17592186044416 by omega), if_pos (show 0 + x.length < 17592186044416 by omega), if_pos (show x.length + z.length < 17592186044416 by omega)]
  have hd1 := dot_ev (w ++ y) (x ++ z) (by rw [List.length_append, List.length_append]; omega) (by rw [List.length_append]; omega)
  rw [dot_append sa sb sc sd lwx lyz (by omega) (by omega)] at hd1
  refine Ev.bind hd1 ?_
  simp only [add_yes lwx (show w.length < 17592186044416 by omega), add_yes lyz (show y.length < 17592186044416 by omega), add_yes (show (w ++ y).length = (x ++ z).length by rw [List.length_append, List.length_append]; omega) (show (w ++ y).length < 17592186044416 by rw [List.length_append]; omega), add_append lwx lyz,
    Option.bind_some, List.nil_append, List.length_nil, if_true, wrap_small (i := dotN w x w.length + dotN y z y.length) (by omega) (by omega), mapTo_length,
    if_pos (show 0 + w.length < 17592186044416 by omega), if_pos (show w.length + y.length < 17592186044416 by omega)]
  refine Ev.bind (same_refl _ (by rw [List.length_append, mapTo_length, mapTo_length]; omega)) ?_
  simp only [if_true]
  exact awake2
theorem VecParts : VecPartsPure := by
  intro a b c d _ ha _ hb _ hc _ hd
  refine ev_rounds ?_
  unfold switchboardlaw02_VecParts.f
  by_cases h1 : (a.length : Int) = (b.length : Int)
  · by_cases h2 : (c.length : Int) = (d.length : Int)
    · by_cases h3 : (a.length : Int) > 8
      · simp only [if_pos h1, if_pos h2, if_pos h3]
        exact parts_true a b c d
      · simp only [if_pos h1, if_pos h2, if_neg h3]
        by_cases h4 : (c.length : Int) > 8
        · simp only [decide_eq_true h4]
          exact parts_true a b c d
        · simp only [decide_eq_false h4]
          exact parts_false a b c d ha hb hc hd (by omega) (by omega) (by omega) (by omega)
    · simp only [if_pos h1, if_neg h2]
      exact parts_true a b c d
  · simp only [if_neg h1]
    exact parts_true a b c d

end Go.Proofs.Ytfdhfmnjihnonaa.Pure
