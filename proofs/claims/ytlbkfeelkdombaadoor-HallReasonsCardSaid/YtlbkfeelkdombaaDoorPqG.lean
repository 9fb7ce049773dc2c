/- Own text, by hand: what the hall's functions answer, as plain functions. -/
import Derived.Test.YtlbkfeelkdombaaDoorPq0
import Derived.Test.YtlbkfeelkdombaaDoorPq1
import Derived.Test.YtlbkfeelkdombaaDoorPq2
import Derived.Test.YtlbkfeelkdombaaDoorPq3
import Derived.Test.YtlbkfeelkdombaaDoorPq4
import Derived.Test.YtlbkfeelkdombaaDoorPq5
namespace Go.Proofs.YtlbkfeelkdombaaDoor.Pq
open Go.RowKit Go.Proofs.YtlbkfeelkdombaaDoorW.PrintWords Go.Proofs.YtlbkfeelkdombaaDoorW.PrintLast Go.Proofs.YtlbkfeelkdombaaDoorW.PrintMore
attribute [local go_sem] max2_int min2_int max_two min_two max_three min_three max_four min_four
set_option linter.unusedVariables false
set_option linter.unusedSimpArgs false

theorem wrap_small {i : Int} (h0 : -9223372036854775808 ≤ i) (h1 : i < 9223372036854775808) : wrap64 i = i := by
  unfold wrap64
  omega

theorem ev_rounds {g : Nat → Option Bool} (h : Ev g true) : ∃ k, g k = some true := h.rounds
theorem ev_shift {α : Type} {g : Nat → Option α} {r : α} (h : Ev (fun k => g (k + 1)) r) : Ev g r := Ev.step (fun _ => rfl) h

theorem rd_get {v : List Int} {i : Int} (h0 : 0 ≤ i) (h1 : i < v.length) : ∃ h : i.toNat < v.length, rd v i = v[i.toNat]'h := by
  refine ⟨by omega, ?_⟩
  unfold rd
  rw [List.getD_eq_getElem?_getD, List.getElem?_eq_getElem (by omega)]
  rfl

theorem take_rd {v : List Int} {i : Nat} (h : i < v.length) : v.take i ++ [rd v i] = v.take (i + 1) := by
  obtain ⟨h', e⟩ := rd_get (v := v) (i := (i : Int)) (by omega) (by omega)
  rw [e]
  simp only [Int.toNat_natCast]
  rw [List.take_succ_eq_append_getElem h]

theorem rd_append_left {a b : List Int} {i : Int} (h0 : 0 ≤ i) (h1 : i < a.length) : rd (a ++ b) i = rd a i := by
  unfold rd
  rw [List.getD_eq_getElem?_getD, List.getD_eq_getElem?_getD, List.getElem?_append_left (by omega)]

theorem rd_append_right {a b : List Int} {i : Int} (h0 : 0 ≤ i) : rd (a ++ b) ((a.length : Int) + i) = rd b i := by
  unfold rd
  rw [List.getD_eq_getElem?_getD, List.getD_eq_getElem?_getD, List.getElem?_append_right (by omega)]
  congr 2
  omega

theorem rd_map {v : List Int} (f : Int → Int) {i : Int} (h0 : 0 ≤ i) (h1 : i < v.length) : rd (v.map f) i = f (rd v i) := by
  obtain ⟨h, e⟩ := rd_get h0 h1
  obtain ⟨h', e'⟩ := rd_get (v := v.map f) h0 (by simpa using h1)
  rw [e, e']
  simp

theorem rd_mem {v : List Int} {i : Int} (h0 : 0 ≤ i) (h1 : i < v.length) : rd v i ∈ v := by
  obtain ⟨h, e⟩ := rd_get h0 h1
  rw [e]
  exact List.getElem_mem h

/-- The entry at a place. -/
theorem rd44 {l : List S44} {i : Nat} (h : i < l.length) : rd_T44 l (i : Int) = l[i] := by
  unfold rd_T44
  rw [Int.toNat_natCast, List.getD_eq_getElem?_getD, List.getElem?_eq_getElem h]
  rfl
/-- The ids of those that wait. -/
def openOf (l : List S44) : List Int := (l.filter (fun x => !x.f2)).map (·.f0)
theorem open_cons_no {x : S44} {r : List S44} (hb : x.f2 = false) : openOf (x :: r) = x.f0 :: openOf r := by simp [openOf, hb]
theorem open_cons_yes {x : S44} {r : List S44} (hb : x.f2 = true) : openOf (x :: r) = openOf r := by simp [openOf, hb]
theorem open_l0 (l : List S44) (hl : l.length < 1000) : ∀ (d i : Nat) (acc : List Int), i + d = l.length → acc.length ≤ i → Ev (fun k => hall_Open.l0 k acc l (l.length : Int) (i : Int)) (acc ++ openOf (l.drop i)) := by
  intro d
  induction d with
  | zero =>
    intro i acc hi ha
    refine ev_shift ?_
    simp only [hall_Open.l0, if_neg (show ¬ (i : Int) < (l.length : Int) by omega)]
    rw [List.drop_of_length_le (by omega)]
    simpa [openOf] using Ev.now acc
  | succ d ih =>
    intro i acc hi ha
    have hlt : i < l.length := by omega
    have hw : wrap64 ((i : Int) + 1) = ((i + 1 : Nat) : Int) := by rw [wrap_small (by omega) (by omega)]; omega
    refine ev_shift ?_
    simp only [hall_Open.l0, if_pos (show (i : Int) < (l.length : Int) by omega), if_pos (show (0 : Int) ≤ (i : Int) by omega), rd44 hlt, hw]
    rw [List.drop_eq_getElem_cons hlt]
    cases hb : l[i].f2
    · simp only [if_neg (show ¬ (false = true) by decide), if_pos (show acc.length < 17592186044416 by omega)]
      have h := ih (i + 1) (acc ++ [l[i].f0]) (by omega) (by simp; omega)
      rw [open_cons_no hb]
      simpa using h
    · simp only [if_true]
      have h := ih (i + 1) acc (by omega) (by omega)
      rw [open_cons_yes hb]
      exact h
theorem open_ev (l : List S44) (hl : l.length < 1000) : Ev (fun k => hall_Open.f k l) (openOf l) := by
  have h := open_l0 l hl l.length 0 [] (by omega) (by simp)
  unfold hall_Open.f
  simpa using h
theorem cloneE_f {l : List S44} (h : l.length < 2199023255552) : hall_Entry_25.f l = some l := by
  unfold hall_Entry_25.f
  simp only [Option.bind_some, List.length_nil, Nat.zero_add, List.nil_append, if_pos h]
theorem cloneT_f {l : List (List Int)} (h : l.length < 5864062014805) : slices_Clone_int_int.f l = some l := by
  unfold slices_Clone_int_int.f
  simp only [Option.bind_some, List.length_nil, Nat.zero_add, List.nil_append, if_pos h]
/-- The place of the first one of whom something holds: there is none. -/
theorem idx_none (p : S44 → Bool) : ∀ (l : List S44) (i : Nat), (∀ x ∈ l, p x = false) → idxFrom31 p l i = -1 := by
  intro l
  induction l with
  | nil => intro i _; rfl
  | cons x r ih =>
    intro i h
    simp only [idxFrom31, h x (by simp), if_neg (show ¬ (false = true) by decide)]
    exact ih (i + 1) (fun y hy => h y (by simp [hy]))
/-- The place of the first one of whom something holds. -/
theorem idx_first (p : S44 → Bool) : ∀ (l : List S44) (i : Nat), (∃ x ∈ l, p x = true) → ∃ (k : Nat) (h : k < l.length), idxFrom31 p l i = ((i + k : Nat) : Int) ∧ p l[k] = true ∧ ∀ (j : Nat) (hj : j < l.length), j < k → p l[j] = false := by
  intro l
  induction l with
  | nil => intro i h; obtain ⟨x, hx, _⟩ := h; cases hx
  | cons x r ih =>
    intro i h
    by_cases hp : p x = true
    · refine ⟨0, by simp, ?_, hp, fun j _ hj => by omega⟩
      simp only [idxFrom31, if_pos hp]
      rfl
    · have h' : ∃ y ∈ r, p y = true := by
        obtain ⟨y, hy, hpy⟩ := h
        rcases List.mem_cons.1 hy with rfl | hy
        · exact absurd hpy hp
        · exact ⟨y, hy, hpy⟩
      obtain ⟨k, hk, e, h1, h2⟩ := ih (i + 1) h'
      refine ⟨k + 1, by simp; omega, ?_, ?_, ?_⟩
      · simp only [idxFrom31, if_neg hp, e]
        congr 1
        omega
      · simpa using h1
      · intro j hj hjk
        cases j with
        | zero => simpa using hp
        | succ j => simpa using h2 j (by simpa using hj) (by omega)
theorem idB_false {x : S44} {a : Int} : idB x a false = decide (x.f0 = a) := by
  unfold idB
  by_cases h : x.f0 = a <;> simp [h]
theorem idB_true {x : S44} {a : Int} : idB x a true = (decide (x.f0 = a) && !x.f2) := by
  unfold idB
  by_cases h : x.f0 = a <;> simp [h]
/-- A batch of one token of one number. -/
def mkE (id x : Int) : S44 := ⟨id, [[x]], false, []⟩
/-- What is admitted of right tokens: there is one of the id, too many wait, or it is taken. -/
theorem admit_ev (l : List S44) (hl : l.length < 1000) {id x : Int} (h1 : 1 ≤ id) (h2 : id ≤ 2147483647) (hr : hall_Reason.f 1 [tinyY] [[x]] = some 0) :
    Ev (fun k => hall_Admit.f k l 1 [tinyY] id [[x]]) (if (∃ y ∈ l, y.f0 = id) then (l, 5) else if 4 ≤ (openOf l).length then (l, 8) else (l ++ [mkE id x], 0)) := by
  unfold hall_Admit.f
  simp only [if_neg (show ¬ id < 1 by omega), decide_eq_false (show ¬ id > 2147483647 by omega)]
  refine ev_shift ?_
  simp only [hall_Admit.j0, if_neg (show ¬ (false = true) by decide), hall_find.f, Option.bind_some]
  by_cases he : ∃ y ∈ l, y.f0 = id
  · obtain ⟨k, _, e, _, _⟩ := idx_first (fun y => idB y id false) l 0 (by obtain ⟨y, hy, e⟩ := he; exact ⟨y, hy, by rw [idB_false]; simpa using e⟩)
    rw [if_pos he]
    simp only [e, if_pos (show ((0 + k : Nat) : Int) ≥ 0 by omega)]
    exact Ev.now _
  · have e : idxFrom31 (fun y => idB y id false) l 0 = -1 := idx_none _ _ _ (fun y hy => by rw [idB_false]; exact decide_eq_false (fun e => he ⟨y, hy, e⟩))
    rw [if_neg he]
    simp only [e, if_neg (show ¬ ((-1 : Int) ≥ 0) by decide), hr, Option.bind_some, if_true]
    refine Ev.bind (open_ev l hl) ?_
    by_cases h4 : 4 ≤ (openOf l).length
    · simp only [if_pos (show ((openOf l).length : Int) ≥ 4 by omega), if_pos h4]
      exact Ev.now _
    · simp only [if_neg (show ¬ ((openOf l).length : Int) ≥ 4 by omega), if_neg h4, cloneE_f (show l.length < 2199023255552 by omega), cloneT_f (show [[x]].length < 5864062014805 by simp), Option.bind_some, if_pos (show l.length < 2199023255552 by omega)]
      exact Ev.now _
theorem openOf_none {l : List S44} (h : ∀ y ∈ l, y.f2 = false) : openOf l = l.map (·.f0) := by
  unfold openOf
  rw [List.filter_eq_self.2 (fun y hy => by rw [h y hy]; rfl)]
/-- What is finished: there is none, or the first one that waits. -/
theorem finish_none {l : List S44} {id : Int} {t : List (List Int)} (h : ¬ ∃ y ∈ l, y.f0 = id ∧ y.f2 = false) : hall_Finish.f l id t = some (l, 4) := by
  have e : idxFrom31 (fun y => idB y id true) l 0 = -1 := idx_none _ _ _ (fun y hy => by
    rw [idB_true]
    cases hb : y.f2
    · rw [decide_eq_false (fun e => h ⟨y, hy, e, hb⟩)]; rfl
    · simp)
  unfold hall_Finish.f hall_find.f
  simp only [e, Option.bind_some, if_pos (show (-1 : Int) < 0 by decide)]
theorem finish_some {l : List S44} (hl : l.length < 1000) {id : Int} {t : List (List Int)} (ht : t.length < 1000) (h : ∃ y ∈ l, y.f0 = id ∧ y.f2 = false) :
    ∃ (k : Nat) (hk : k < l.length), l[k].f0 = id ∧ l[k].f2 = false ∧ (∀ (j : Nat) (hj : j < l.length), j < k → ¬ (l[j].f0 = id ∧ l[j].f2 = false)) ∧ hall_Finish.f l id t = some (l.set k ⟨l[k].f0, l[k].f1, true, t⟩, 0) := by
  obtain ⟨k, hk, e, h1, h2⟩ := idx_first (fun y => idB y id true) l 0 (by obtain ⟨y, hy, e1, e2⟩ := h; exact ⟨y, hy, by rw [idB_true, e2]; simp [e1]⟩)
  rw [idB_true] at h1
  simp only [Bool.and_eq_true, decide_eq_true_eq, Bool.not_eq_true'] at h1
  refine ⟨k, hk, h1.1, h1.2, fun j hj hjk hc => ?_, ?_⟩
  · have := h2 j hj hjk
    rw [idB_true, hc.2] at this
    simp [hc.1] at this
  · unfold hall_Finish.f hall_find.f
    rw [Nat.zero_add] at e
    simp only [e, Option.bind_some, if_neg (show ¬ ((k : Nat) : Int) < 0 by omega), cloneE_f (show l.length < 2199023255552 by omega), cloneT_f (show t.length < 5864062014805 by omega), if_pos (show (0 : Int) ≤ ((k : Nat) : Int) by omega), if_pos (show ((k : Nat) : Int) < (l.length : Int) by omega), rd44 hk, Int.toNat_natCast]
    have hk2 : k < (l.set k (⟨l[k].f0, l[k].f1, true, l[k].f3⟩ : S44)).length := by simpa using hk
    rw [rd44 hk2]
    simp

section
variable {P : Program} {ops : Array Oper} {o : Oper} {a : Act} {Q : Exit → Act → World → Prop} {Kc : Act → World → Prop}
/-- A literal row, as one step of a region that draws. -/
theorem lit_step {W : World} (hw : Region.wanted o (yielded ops a.tmps) = true) {N : Tmp} (_hd : o.dst = some N) {cs : Array Value} {t : TypeId} {n : Nat}
    (hrun : (execOp a.eval o).run P W = .ok (.value (.slice (some ⟨W.heap.size, 0, none⟩) n n)) (W.alloc (.cells cs t (0, 0))))
    (h : ∀ g, g = W.heap.size → ∀ w1, w1.heap[g]? = some (.cells cs t (0, 0)) → Below W.heap.size W w1 → Kc (a.put o.dst (.slice (some ⟨g, 0, none⟩) n n)) w1) : if Region.wanted o (yielded ops a.tmps) = true then Oper.wp P o a W Kc Q else Kc (a.put o.dst undef) W :=
  event_step hw hrun (h _ rfl _ (blk_new W _) (below_alloc (Below.refl _ _) _))
end
/-- A row of one row of one number, in two blocks. -/
theorem row2_V {W : World} {b g1 g2 : Nat} {x : Int} (hb1 : W.heap[g1]? = some (.cells #[.int .i64 x] 3 (0, 0))) (hb2 : W.heap[g2]? = some (.cells #[.slice (some ⟨g1, 0, none⟩) 1 1] 42 (0, 0))) :
    Kd.V (Kd.slice 3 (Kd.int .i64)) 42 W b (fun k => k = g1 ∨ k = g2) (.slice (some ⟨g2, 0, none⟩) 1 1) [[x]] :=
  Kd.V_mk (xs := [[x]]) (Nat.le_refl _) (fun W' hW => C_one (cs := [Value.slice (some ⟨g1, 0, none⟩) 1 1]) ((hW _ (.inr rfl) (blk_lt hb2)).trans hb2) ⟨_, _, rfl, Nat.le_refl _, C_one (cs := [Value.int .i64 x]) ((hW _ (.inl rfl) (blk_lt hb1)).trans hb1) rfl rfl⟩ rfl)
/-- A hall's variable in memory. -/
structure HW (w W : World) (gh : Nat) (cs : Array Value) : Prop where
  hb : Below w.heap.size w W
  lo : w.heap.size ≤ gh
  box : W.heap[gh]? = some (.cells cs 24 (0, 0))
theorem HW.below {w W W' : World} {gh : Nat} {cs : Array Value} (h : HW w W gh cs) (hb : Below W.heap.size W W') : HW w W' gh cs := ⟨below_step h.hb hb, h.lo, blk_below h.box hb⟩
theorem HW.far {w W : World} {gh : Nat} {cs : Array Value} (h : HW w W gh cs) {g : Nat} (j : Nat) (u : Value) (hg : w.heap.size ≤ g) (hne : gh ≠ g) : HW w (W.setCell ⟨g, j, none⟩ u) gh cs := ⟨below_set h.hb hg, h.lo, (Below.heap_setCell W ⟨g, j, none⟩ u gh (by show gh ≠ g; exact hne)).trans h.box⟩
theorem HW.put {w W : World} {gh : Nat} {v : Value} (h : HW w W gh #[v]) (u : Value) : HW w (W.setCell ⟨gh, 0, none⟩ u) gh #[u] := ⟨below_set h.hb h.lo, h.lo, blk_put h.box 0 u rfl⟩
theorem HW.grown {w W W' : World} {gh : Nat} {cs : Array Value} (h : HW w W gh cs) {row : Option Nat} (hg : W.grownBy W' row) (hne : some gh ≠ row) (hb : Below w.heap.size w W') : HW w W' gh cs := ⟨hb, h.lo, blk_grown h.box hg hne⟩
theorem info_int : (Tryd.prog.info? 3).map (fun i => (i.zero, i.size, i.bytes)) = some (some (.int .i64 0), 1, 8) := by kernel_rfl

theorem rdL_get {m : List (List Int)} {i : Nat} (h : i < m.length) : rd_L1 m (i : Int) = m[i] := by
  unfold rd_L1
  rw [Int.toNat_natCast, List.getD_eq_getElem?_getD, List.getElem?_eq_getElem h]
  rfl
theorem rdL_mem {m : List (List Int)} {i : Nat} (h : i < m.length) : rd_L1 m (i : Int) ∈ m := by
  rw [rdL_get h]
  exact List.getElem_mem h
/-- Rows by a row, those in order from place i on; 'none': one is not as long. -/

theorem small_j1_false (m : List (List Int)) (i : Int) : Ev (fun k => switchboardref03_Small.j1 k m i false) (decide ((m.length : Int) ≤ 30)) := by
  refine ev_shift ?_
  simp only [switchboardref03_Small.j1, if_neg (show ¬ (false = true) by decide)]
  exact Ev.now _
/-- Rows are few, and short. -/
def Few (m : List (List Int)) : Prop := m.length ≤ 30 ∧ ∀ r ∈ m, r.length ≤ 30
theorem small_l0 (m : List (List Int)) : ∀ (d i : Nat), i + d = 30 → (∀ j : Nat, j < i → j < m.length → (rd_L1 m (j : Int)).length ≤ 30) →
    ∃ b : Bool, Ev (fun k => switchboardref03_Small.l0 k m i) b ∧ (b = true → Few m) := by
  intro d
  induction d with
  | zero =>
    intro i hi hq
    by_cases h : (i : Int) < (m.length : Int)
    · refine ⟨decide ((m.length : Int) ≤ 30), ?_, ?_⟩
      · refine ev_shift ?_
        simp only [switchboardref03_Small.l0, if_pos h, decide_eq_false (show ¬ (i : Int) < 30 by omega)]
        exact small_j1_false m i
      · intro hb
        have := of_decide_eq_true hb
        omega
    · refine ⟨decide ((m.length : Int) ≤ 30), ?_, ?_⟩
      · refine ev_shift ?_
        simp only [switchboardref03_Small.l0, if_neg h]
        exact small_j1_false m i
      · intro hb
        refine ⟨by omega, fun r hr => ?_⟩
        obtain ⟨j, hj, rfl⟩ := List.getElem_of_mem hr
        have := hq j (by omega) hj
        rwa [rdL_get hj] at this
  | succ d ih =>
    intro i hi hq
    have hw : wrap64 ((i : Int) + 1) = ((i + 1 : Nat) : Int) := by rw [wrap_small (by omega) (by omega)]; omega
    by_cases h : (i : Int) < (m.length : Int)
    · by_cases h2 : ((rd_L1 m (i : Int)).length : Int) > 30
      · refine ⟨false, ?_, fun hb => by cases hb⟩
        refine ev_shift ?_
        simp only [switchboardref03_Small.l0, if_pos h, decide_eq_true (show (i : Int) < 30 by omega)]
        refine ev_shift ?_
        simp only [switchboardref03_Small.j1, if_true, if_pos (show (0 : Int) ≤ (i : Int) by omega), if_pos h, if_pos h2]
        exact Ev.now _
      · obtain ⟨b, hb, hq2⟩ := ih (i + 1) (by omega) (fun j hj hl => by
          by_cases e : j < i
          · exact hq j e hl
          · have : j = i := by omega
            subst this
            omega)
        refine ⟨b, ?_, hq2⟩
        refine ev_shift ?_
        simp only [switchboardref03_Small.l0, if_pos h, decide_eq_true (show (i : Int) < 30 by omega)]
        refine ev_shift ?_
        simp only [switchboardref03_Small.j1, if_true, if_pos (show (0 : Int) ≤ (i : Int) by omega), if_pos h, if_neg h2, hw]
        exact hb
    · refine ⟨decide ((m.length : Int) ≤ 30), ?_, ?_⟩
      · refine ev_shift ?_
        simp only [switchboardref03_Small.l0, if_neg h]
        exact small_j1_false m i
      · intro hb
        refine ⟨of_decide_eq_true hb |> fun z => by omega, fun r hr => ?_⟩
        obtain ⟨j, hj, rfl⟩ := List.getElem_of_mem hr
        have := hq j (by omega) hj
        rwa [rdL_get hj] at this
theorem small_ev (m : List (List Int)) : ∃ b : Bool, Ev (fun k => switchboardref03_Small.f k m) b ∧ (b = true → Few m) :=
  small_l0 m 30 0 (by omega) (fun j hj => by omega)

theorem notHeld_eq (x : Int) : notHeld x = (decide (x > 2147483647) || decide (x < -2147483647)) := by
  unfold notHeld holdR mx mn
  rw [Bool.eq_iff_iff]
  simp only [decide_eq_true_eq, Bool.or_eq_true]
  split <;> split <;> omega

theorem ref_right_l1 (m : List (List Int)) (c : Int) (i : Nat) (hi : i < m.length) (rest : Bool) (hrow : (rd_L1 m (i : Int)).length ≤ 9223372036854775806) (hm : m.length ≤ 9223372036854775806)
    (hr : Ev (fun k => switchboardref03_Right.l0 k m c ((i + 1 : Nat) : Int)) rest) : ∀ (d j : Nat), j + d = (rd_L1 m (i : Int)).length →
    Ev (fun k => switchboardref03_Right.l1 k m c i j) (!(((rd_L1 m (i : Int)).drop j).any notHeld) && rest) := by
  intro d
  have hwi : wrap64 ((i : Int) + 1) = ((i + 1 : Nat) : Int) := by rw [wrap_small (by omega) (by omega)]; omega
  induction d with
  | zero =>
    intro j hj
    refine ev_shift ?_
    simp only [switchboardref03_Right.l1, if_pos (show (0 : Int) ≤ (i : Int) by omega), if_pos (show (i : Int) < (m.length : Int) by omega), if_neg (show ¬ (j : Int) < ((rd_L1 m (i : Int)).length : Int) by omega), hwi]
    rw [List.drop_eq_nil_of_le (by omega)]
    exact hr
  | succ d ih =>
    intro j hj
    have hwj : wrap64 ((j : Int) + 1) = ((j + 1 : Nat) : Int) := by rw [wrap_small (by omega) (by omega)]; omega
    obtain ⟨h', e⟩ := rd_get (v := rd_L1 m (i : Int)) (i := (j : Int)) (by omega) (by omega)
    have hd : (rd_L1 m (i : Int)).drop j = rd (rd_L1 m (i : Int)) (j : Int) :: (rd_L1 m (i : Int)).drop (j + 1) := by
      rw [e]
      simp only [Int.toNat_natCast]
      exact List.drop_eq_getElem_cons _
    rw [hd, List.any_cons, notHeld_eq]
    refine ev_shift ?_
    simp only [switchboardref03_Right.l1, if_pos (show (0 : Int) ≤ (i : Int) by omega), if_pos (show (i : Int) < (m.length : Int) by omega), if_pos (show (j : Int) < ((rd_L1 m (i : Int)).length : Int) by omega), if_pos (show (0 : Int) ≤ (j : Int) by omega), hwj]
    by_cases h1 : rd (rd_L1 m (i : Int)) (j : Int) > 2147483647
    · simp only [if_pos h1, decide_eq_true h1, Bool.true_or, Bool.not_true, Bool.false_and]
      exact Ev.now _
    · by_cases h2 : rd (rd_L1 m (i : Int)) (j : Int) < -2147483647
      · simp only [if_neg h1, if_pos h2, decide_eq_true h2, Bool.or_true, Bool.true_or, Bool.not_true, Bool.false_and]
        exact Ev.now _
      · simp only [if_neg h1, if_neg h2, decide_eq_false h1, decide_eq_false h2, Bool.or_false, Bool.false_or]
        exact ih (j + 1) (by omega)
theorem ref_right_l0 (m : List (List Int)) (c : Int) (hm : m.length ≤ 9223372036854775806) (hl : ∀ r ∈ m, r.length ≤ 9223372036854775806) : ∀ (d i : Nat), i + d = m.length →
    Ev (fun k => switchboardref03_Right.l0 k m c i) (!((m.drop i).any (rowWrong c))) := by
  intro d
  induction d with
  | zero =>
    intro i hi
    refine ev_shift ?_
    simp only [switchboardref03_Right.l0, if_neg (show ¬ (i : Int) < (m.length : Int) by omega)]
    rw [List.drop_eq_nil_of_le (by omega)]
    exact Ev.now _
  | succ d ih =>
    intro i hi
    have hil : i < m.length := by omega
    have hd : m.drop i = rd_L1 m (i : Int) :: m.drop (i + 1) := by rw [rdL_get hil]; exact List.drop_eq_getElem_cons hil
    rw [hd, List.any_cons]
    refine ev_shift ?_
    simp only [switchboardref03_Right.l0, if_pos (show (i : Int) < (m.length : Int) by omega), if_pos (show (0 : Int) ≤ (i : Int) by omega)]
    by_cases h : ((rd_L1 m (i : Int)).length : Int) = c
    · simp only [if_pos h]
      have := ref_right_l1 m c i hil _ (hl _ (rdL_mem hil)) hm (ih (i + 1) (by omega)) _ 0 (by omega : 0 + (rd_L1 m (i : Int)).length = _)
      have e : (!(rowWrong c (rd_L1 m (i : Int)) || (m.drop (i + 1)).any (rowWrong c))) = (!(((rd_L1 m (i : Int)).drop 0).any notHeld) && !((m.drop (i + 1)).any (rowWrong c))) := by
        unfold rowWrong
        rw [decide_eq_false (show ¬ ¬ ((rd_L1 m (i : Int)).length : Int) = c from fun hc => hc h), Bool.false_or, Bool.not_or]
        rfl
      rw [e]
      exact this
    · simp only [if_neg h]
      have e : rowWrong c (rd_L1 m (i : Int)) = true := by
        unfold rowWrong
        rw [decide_eq_true h, Bool.true_or]
      rw [e, Bool.true_or]
      exact Ev.now _
theorem ref_right (m : List (List Int)) (rows c : Int) (hm : m.length ≤ 9223372036854775806) (hl : ∀ r ∈ m, r.length ≤ 9223372036854775806) :
    Ev (fun k => switchboardref03_Right.f k m rows c) (decide ((m.length : Int) = rows) && !(m.any (rowWrong c))) := by
  unfold switchboardref03_Right.f
  by_cases h : (m.length : Int) = rows
  · simp only [if_pos h, decide_eq_true h, Bool.true_and]
    exact ref_right_l0 m c hm hl m.length 0 (by omega)
  · simp only [if_neg h, decide_eq_false h, Bool.false_and]
    exact Ev.now _

def matR (m : List (List Int)) (r c : Int) : Bool := decide ((m.length : Int) = r) && !(m.any (rowWrong c))
theorem matR_f (m : List (List Int)) (r c : Int) : mat_Right.f m r c = some (matR m r c) := rfl
theorem matR_true {m : List (List Int)} {r c : Int} (h : matR m r c = true) : (m.length : Int) = r ∧ ∀ x ∈ m, (x.length : Int) = c ∧ ∀ y ∈ x, -2147483647 ≤ y ∧ y ≤ 2147483647 := by
  unfold matR at h
  rw [Bool.and_eq_true, decide_eq_true_eq, Bool.not_eq_true', List.any_eq_false] at h
  refine ⟨h.1, fun x hx => ?_⟩
  have := h.2 x hx
  unfold rowWrong at this
  rw [Bool.or_eq_true, decide_eq_true_eq, List.any_eq_true] at this
  refine ⟨Classical.byContradiction fun hc => this (.inl hc), fun y hy => ?_⟩
  refine Classical.byContradiction fun hc => this (.inr ⟨y, hy, ?_⟩)
  rw [notHeld_eq, Bool.or_eq_true, decide_eq_true_eq, decide_eq_true_eq]
  omega
theorem matR_mk {m : List (List Int)} {r c : Int} (h1 : (m.length : Int) = r) (h2 : ∀ x ∈ m, (x.length : Int) = c ∧ ∀ y ∈ x, -2147483647 ≤ y ∧ y ≤ 2147483647) : matR m r c = true := by
  unfold matR
  rw [Bool.and_eq_true, decide_eq_true_eq, Bool.not_eq_true', List.any_eq_false]
  refine ⟨h1, fun x hx => ?_⟩
  obtain ⟨h3, h4⟩ := h2 x hx
  unfold rowWrong
  rw [Bool.or_eq_true, decide_eq_true_eq, List.any_eq_true]
  intro hc
  rcases hc with hc | ⟨y, hy, hc⟩
  · exact hc h3
  · have := h4 y hy
    rw [notHeld_eq, Bool.or_eq_true, decide_eq_true_eq, decide_eq_true_eq] at hc
    omega
/-- Is an expert right, for tokens of d numbers? -/
def erB (a b : List (List Int)) (d : Int) : Bool := decide (1 ≤ d) && (decide (d ≤ 8) && (decide (1 ≤ (a.length : Int)) && (decide ((a.length : Int) ≤ 8) && (matR a a.length d && matR b d a.length))))
theorem right_f (a b : List (List Int)) (d : Int) : expert_Right.f a b d = some (erB a b d) := by
  unfold expert_Right.f erB
  by_cases h1 : 1 ≤ d
  · rw [if_pos h1, decide_eq_true h1, Bool.true_and]
    by_cases h2 : d ≤ 8
    · rw [if_pos h2, decide_eq_true h2, Bool.true_and]
      by_cases h3 : 1 ≤ (a.length : Int)
      · rw [if_pos h3, decide_eq_true h3, Bool.true_and]
        by_cases h4 : (a.length : Int) ≤ 8
        · rw [if_pos h4, decide_eq_true h4, Bool.true_and, matR_f, matR_f]
          simp only [Option.bind_some]
          cases matR a a.length d
          · rfl
          · rfl
        · rw [if_neg h4, decide_eq_false h4, Bool.false_and]
      · rw [if_neg h3, decide_eq_false h3, Bool.false_and]
    · rw [if_neg h2, decide_eq_false h2, Bool.false_and]
  · rw [if_neg h1, decide_eq_false h1, Bool.false_and]
theorem erB_true {a b : List (List Int)} {d : Int} (h : erB a b d = true) : 1 ≤ d ∧ d ≤ 8 ∧ 1 ≤ a.length ∧ a.length ≤ 8 ∧ (∀ x ∈ a, (x.length : Int) = d ∧ ∀ y ∈ x, -2147483647 ≤ y ∧ y ≤ 2147483647) ∧ (b.length : Int) = d ∧ (∀ x ∈ b, x.length = a.length ∧ ∀ y ∈ x, -2147483647 ≤ y ∧ y ≤ 2147483647) := by
  unfold erB at h
  simp only [Bool.and_eq_true, decide_eq_true_eq] at h
  obtain ⟨h1, h2, h3, h4, h5, h6⟩ := h
  have h5 := matR_true h5
  have h6 := matR_true h6
  exact ⟨h1, h2, by omega, by omega, h5.2, h6.1, fun x hx => ⟨by have := (h6.2 x hx).1; omega, (h6.2 x hx).2⟩⟩

theorem rdE_get {l : List S70} {t : Nat} (h : t < l.length) : rd_T70 l (t : Int) = l[t] := by
  unfold rd_T70
  rw [Int.toNat_natCast, List.getD_eq_getElem?_getD, List.getElem?_eq_getElem h]
  rfl
theorem rdY_get {l : List S73} {t : Nat} (h : t < l.length) : rd_T73 l (t : Int) = l[t] := by
  unfold rd_T73
  rw [Int.toNat_natCast, List.getD_eq_getElem?_getD, List.getElem?_eq_getElem h]
  rfl
theorem rdE_mem {l : List S70} {t : Nat} (h : t < l.length) : rd_T70 l (t : Int) ∈ l := by rw [rdE_get h]; exact List.getElem_mem h
theorem rdY_mem {l : List S73} {t : Nat} (h : t < l.length) : rd_T73 l (t : Int) ∈ l := by rw [rdY_get h]; exact List.getElem_mem h
/-- A model is short enough to be gone through. -/
def FewX (y : S70) : Prop := Few y.f0 ∧ Few y.f1
def FewY (x : S73) : Prop := x.f1.length ≤ 9 ∧ Few x.f0 ∧ ∀ y ∈ x.f1, FewX y
def FewM (l : List S73) : Prop := l.length ≤ 5 ∧ ∀ x ∈ l, FewY x
theorem msmall_l1 (l : List S73) (i : Nat) (hi : i < 5) (e : List S70) (he : e.length ≤ 9) (R : Prop) (hr : ∃ b : Bool, Ev (fun k => switchboardref15_Small.l0 k l (l.length : Int) ((i + 1 : Nat) : Int)) b ∧ (b = true → R)) : ∀ (d j : Nat), j + d = e.length →
    ∃ b : Bool, Ev (fun k => switchboardref15_Small.l1 k l (l.length : Int) (i : Int) e (e.length : Int) (j : Int)) b ∧ (b = true → R ∧ ∀ y ∈ e.drop j, FewX y) := by
  have hw1 : wrap64 ((i : Int) + 1) = ((i + 1 : Nat) : Int) := by rw [wrap_small (by omega) (by omega)]; omega
  intro d
  induction d with
  | zero =>
    intro j hj
    obtain ⟨b, hb, hq⟩ := hr
    refine ⟨b, ?_, fun h => ⟨hq h, fun y hy => ?_⟩⟩
    · refine ev_shift ?_
      simp only [switchboardref15_Small.l1, if_neg (show ¬ (j : Int) < (e.length : Int) by omega), hw1]
      exact hb
    · rw [List.drop_eq_nil_of_le (by omega)] at hy
      cases hy
  | succ d ih =>
    intro j hj
    have hw : wrap64 ((j : Int) + 1) = ((j + 1 : Nat) : Int) := by rw [wrap_small (by omega) (by omega)]; omega
    obtain ⟨b0, hb0, hq0⟩ := small_ev (rd_T70 e (j : Int)).f0
    obtain ⟨b1, hb1, hq1⟩ := small_ev (rd_T70 e (j : Int)).f1
    obtain ⟨b, hb, hq⟩ := ih (j + 1) (by omega)
    cases b0
    · refine ⟨false, ?_, fun h => by cases h⟩
      refine ev_shift ?_
      simp only [switchboardref15_Small.l1, if_pos (show (j : Int) < (e.length : Int) by omega), if_pos (show (0 : Int) ≤ (j : Int) by omega)]
      refine Ev.bind hb0 ?_
      simp only [if_neg (show ¬ (false = true) by decide)]
      exact Ev.now _
    · cases b1
      · refine ⟨false, ?_, fun h => by cases h⟩
        refine ev_shift ?_
        simp only [switchboardref15_Small.l1, if_pos (show (j : Int) < (e.length : Int) by omega), if_pos (show (0 : Int) ≤ (j : Int) by omega)]
        refine Ev.bind hb0 ?_
        simp only [if_true]
        refine Ev.bind hb1 ?_
        simp only [if_neg (show ¬ (false = true) by decide)]
        exact Ev.now _
      · refine ⟨b, ?_, fun h => ⟨(hq h).1, fun y hy => ?_⟩⟩
        · refine ev_shift ?_
          simp only [switchboardref15_Small.l1, if_pos (show (j : Int) < (e.length : Int) by omega), if_pos (show (0 : Int) ≤ (j : Int) by omega)]
          refine Ev.bind hb0 ?_
          simp only [if_true]
          refine Ev.bind hb1 ?_
          simp only [if_true, hw]
          exact hb
        · rw [List.drop_eq_getElem_cons (by omega), List.mem_cons] at hy
          rcases hy with rfl | hy
          · rw [rdE_get (by omega)] at hq0 hq1
            exact ⟨hq0 rfl, hq1 rfl⟩
          · exact (hq h).2 y hy
theorem msmall_l0 (l : List S73) (hl : l.length ≤ 5) : ∀ (d i : Nat), i + d = l.length →
    ∃ b : Bool, Ev (fun k => switchboardref15_Small.l0 k l (l.length : Int) (i : Int)) b ∧ (b = true → ∀ x ∈ l.drop i, FewY x) := by
  intro d
  induction d with
  | zero =>
    intro i hi
    refine ⟨true, ?_, fun _ x hx => ?_⟩
    · refine ev_shift ?_
      simp only [switchboardref15_Small.l0, if_neg (show ¬ (i : Int) < (l.length : Int) by omega)]
      exact Ev.now _
    · rw [List.drop_eq_nil_of_le (by omega)] at hx
      cases hx
  | succ d ih =>
    intro i hi
    have hj1 : Ev (fun k => switchboardref15_Small.j1 k l (l.length : Int) (i : Int) true (rd_T73 l (i : Int)).f0 (rd_T73 l (i : Int)).f1 (rd_T73 l (i : Int)).f2) false := by
      refine ev_shift ?_
      simp only [switchboardref15_Small.j1, if_true]
      exact Ev.now _
    by_cases h9 : ((rd_T73 l (i : Int)).f1.length : Int) > 9
    · refine ⟨false, ?_, fun h => by cases h⟩
      refine ev_shift ?_
      simp only [switchboardref15_Small.l0, if_pos (show (i : Int) < (l.length : Int) by omega), if_pos (show (0 : Int) ≤ (i : Int) by omega), if_pos h9]
      exact hj1
    · obtain ⟨b0, hb0, hq0⟩ := small_ev (rd_T73 l (i : Int)).f0
      cases b0
      · refine ⟨false, ?_, fun h => by cases h⟩
        refine ev_shift ?_
        simp only [switchboardref15_Small.l0, if_pos (show (i : Int) < (l.length : Int) by omega), if_pos (show (0 : Int) ≤ (i : Int) by omega), if_neg h9]
        refine Ev.bind hb0 ?_
        simp only [Bool.not_false]
        exact hj1
      · obtain ⟨b, hb, hq⟩ := msmall_l1 l i (by omega) (rd_T73 l (i : Int)).f1 (by omega) _ (ih (i + 1) (by omega)) (rd_T73 l (i : Int)).f1.length 0 (by omega)
        refine ⟨b, ?_, fun h x hx => ?_⟩
        · refine ev_shift ?_
          simp only [switchboardref15_Small.l0, if_pos (show (i : Int) < (l.length : Int) by omega), if_pos (show (0 : Int) ≤ (i : Int) by omega), if_neg h9]
          refine Ev.bind hb0 ?_
          simp only [Bool.not_true]
          refine ev_shift ?_
          simp only [switchboardref15_Small.j1, if_neg (show ¬ (false = true) by decide)]
          exact hb
        · rw [List.drop_eq_getElem_cons (by omega), List.mem_cons] at hx
          rcases hx with rfl | hx
          · rw [rdY_get (by omega)] at hq hq0 h9
            exact ⟨by omega, hq0 rfl, by simpa using (hq h).2⟩
          · exact (hq h).1 x hx
theorem msmall_ev (n : Int) (l : List S73) : ∃ b : Bool, Ev (fun k => switchboardref15_Small.f k n l) b ∧ (b = true → FewM l) := by
  by_cases h : (l.length : Int) > 5
  · refine ⟨false, ?_, fun h => by cases h⟩
    unfold switchboardref15_Small.f
    simp only [if_pos h]
    exact Ev.now _
  · obtain ⟨b, hb, hq⟩ := msmall_l0 l (by omega) l.length 0 (by omega)
    refine ⟨b, ?_, fun h2 => ⟨by omega, by simpa using hq h2⟩⟩
    unfold switchboardref15_Small.f
    simp only [if_neg h]
    exact hb
/-- Rows of a row: so many, of so many numbers, none past Top. -/
def RowsOk (m : List (List Int)) (a b : Int) : Prop := (m.length : Int) = a ∧ m.any (rowWrong b) = false
theorem rowsOk_mat {m : List (List Int)} {a b : Int} (h : RowsOk m a b) : matOk m a b = true := by
  unfold matOk
  rw [decide_eq_true h.1, h.2]
  rfl
def GoodX (n : Int) (y : S70) : Prop := 1 ≤ (y.f0.length : Int) ∧ (y.f0.length : Int) ≤ 8 ∧ RowsOk y.f0 (y.f0.length : Int) n ∧ RowsOk y.f1 n (y.f0.length : Int)
def GoodY (n : Int) (x : S73) : Prop := 1 ≤ (x.f1.length : Int) ∧ (x.f1.length : Int) ≤ 8 ∧ RowsOk x.f0 (x.f1.length : Int) n ∧ 1 ≤ x.f2 ∧ x.f2 ≤ 32 ∧ ∀ y ∈ x.f1, GoodX n y
def GoodM (n : Int) (l : List S73) : Prop := 1 ≤ n ∧ n ≤ 8 ∧ 1 ≤ (l.length : Int) ∧ (l.length : Int) ≤ 4 ∧ ∀ x ∈ l, GoodY n x
theorem ref_right_few (m : List (List Int)) (a b : Int) (hm : Few m) : ∃ t : Bool, Ev (fun k => switchboardref03_Right.f k m a b) t ∧ (t = true → RowsOk m a b) := by
  have hn := hm.1
  refine ⟨_, ref_right m a b (by omega) (fun r hr => by have := hm.2 r hr; omega), fun h => ?_⟩
  rw [Bool.and_eq_true] at h
  exact ⟨of_decide_eq_true h.1, by simpa using h.2⟩
theorem ref11_right (y : S70) (n : Int) (hy : FewX y) (h1 : 1 ≤ n) (h8 : n ≤ 8) : ∃ t : Bool, Ev (fun k => switchboardref11_Right.f k y.f0 y.f1 n) t ∧ (t = true → GoodX n y) := by
  have hj : ∃ t : Bool, Ev (fun k => switchboardref11_Right.j0 k n (y.f0.length : Int) false y.f0 y.f1) t ∧ (t = true → RowsOk y.f0 (y.f0.length : Int) n ∧ RowsOk y.f1 n (y.f0.length : Int)) := by
    obtain ⟨t0, h0, q0⟩ := ref_right_few y.f0 (y.f0.length : Int) n hy.1
    obtain ⟨t1, h1, q1⟩ := ref_right_few y.f1 n (y.f0.length : Int) hy.2
    cases t0
    · refine ⟨false, ?_, fun h => by cases h⟩
      refine ev_shift ?_
      simp only [switchboardref11_Right.j0, if_neg (show ¬ (false = true) by decide)]
      refine Ev.bind h0 ?_
      simp only [if_neg (show ¬ (false = true) by decide)]
      exact Ev.now _
    · refine ⟨t1, ?_, fun h => ⟨q0 rfl, q1 h⟩⟩
      refine ev_shift ?_
      simp only [switchboardref11_Right.j0, if_neg (show ¬ (false = true) by decide)]
      refine Ev.bind h0 ?_
      simp only [if_true]
      exact Ev.bind h1 (Ev.now _)
  have hno : Ev (fun k => switchboardref11_Right.j0 k n (y.f0.length : Int) true y.f0 y.f1) false := by
    refine ev_shift ?_
    simp only [switchboardref11_Right.j0, if_true]
    exact Ev.now _
  unfold switchboardref11_Right.f
  simp only [if_neg (show ¬ n < 1 by omega), if_neg (show ¬ n > 8 by omega)]
  by_cases h2 : (y.f0.length : Int) < 1
  · simp only [if_pos h2]
    exact ⟨false, hno, fun h => by cases h⟩
  · simp only [if_neg h2]
    by_cases h3 : (y.f0.length : Int) > 8
    · simp only [decide_eq_true h3]
      exact ⟨false, hno, fun h => by cases h⟩
    · simp only [decide_eq_false h3]
      obtain ⟨t, ht, q⟩ := hj
      exact ⟨t, ht, fun h => ⟨by omega, by omega, (q h).1, (q h).2⟩⟩
theorem mright_l1 (n : Int) (h1 : 1 ≤ n) (h8 : n ≤ 8) (l : List S73) (i : Nat) (hi : i < 5) (e : List S70) (he : e.length ≤ 9) (hf : ∀ y ∈ e, FewX y) (R : Prop) (hr : ∃ b : Bool, Ev (fun k => switchboardref15_Right.l0 k l (l.length : Int) ((i + 1 : Nat) : Int) n l) b ∧ (b = true → R)) : ∀ (d j : Nat), j + d = e.length →
    ∃ b : Bool, Ev (fun k => switchboardref15_Right.l1 k l (l.length : Int) (i : Int) e (e.length : Int) (j : Int) n l) b ∧ (b = true → R ∧ ∀ y ∈ e.drop j, GoodX n y) := by
  have hw1 : wrap64 ((i : Int) + 1) = ((i + 1 : Nat) : Int) := by rw [wrap_small (by omega) (by omega)]; omega
  intro d
  induction d with
  | zero =>
    intro j hj
    obtain ⟨b, hb, hq⟩ := hr
    refine ⟨b, ?_, fun h => ⟨hq h, fun y hy => ?_⟩⟩
    · refine ev_shift ?_
      simp only [switchboardref15_Right.l1, if_neg (show ¬ (j : Int) < (e.length : Int) by omega), hw1]
      exact hb
    · rw [List.drop_eq_nil_of_le (by omega)] at hy
      cases hy
  | succ d ih =>
    intro j hj
    have hw : wrap64 ((j : Int) + 1) = ((j + 1 : Nat) : Int) := by rw [wrap_small (by omega) (by omega)]; omega
    obtain ⟨b0, hb0, hq0⟩ := ref11_right (rd_T70 e (j : Int)) n (hf _ (rdE_mem (by omega))) h1 h8
    obtain ⟨b, hb, hq⟩ := ih (j + 1) (by omega)
    cases b0
    · refine ⟨false, ?_, fun h => by cases h⟩
      refine ev_shift ?_
      simp only [switchboardref15_Right.l1, if_pos (show (j : Int) < (e.length : Int) by omega), if_pos (show (0 : Int) ≤ (j : Int) by omega)]
      refine Ev.bind hb0 ?_
      simp only [if_neg (show ¬ (false = true) by decide)]
      exact Ev.now _
    · refine ⟨b, ?_, fun h => ⟨(hq h).1, fun y hy => ?_⟩⟩
      · refine ev_shift ?_
        simp only [switchboardref15_Right.l1, if_pos (show (j : Int) < (e.length : Int) by omega), if_pos (show (0 : Int) ≤ (j : Int) by omega)]
        refine Ev.bind hb0 ?_
        simp only [if_true, hw]
        exact hb
      · rw [List.drop_eq_getElem_cons (by omega), List.mem_cons] at hy
        rcases hy with rfl | hy
        · rw [rdE_get (by omega)] at hq0
          exact hq0 rfl
        · exact (hq h).2 y hy
theorem mright_l0 (n : Int) (h1 : 1 ≤ n) (h8 : n ≤ 8) (l : List S73) (hl : l.length ≤ 5) (hf : ∀ x ∈ l, FewY x) : ∀ (d i : Nat), i + d = l.length →
    ∃ b : Bool, Ev (fun k => switchboardref15_Right.l0 k l (l.length : Int) (i : Int) n l) b ∧ (b = true → ∀ x ∈ l.drop i, GoodY n x) := by
  intro d
  induction d with
  | zero =>
    intro i hi
    refine ⟨true, ?_, fun _ x hx => ?_⟩
    · refine ev_shift ?_
      simp only [switchboardref15_Right.l0, if_neg (show ¬ (i : Int) < (l.length : Int) by omega)]
      exact Ev.now _
    · rw [List.drop_eq_nil_of_le (by omega)] at hx
      cases hx
  | succ d ih =>
    intro i hi
    have hfi := hf _ (rdY_mem (l := l) (t := i) (by omega))
    have hj : Ev (fun k => switchboardref15_Right.j2 k l (l.length : Int) (i : Int) true n l (rd_T73 l (i : Int)).f0 (rd_T73 l (i : Int)).f1 (rd_T73 l (i : Int)).f2) false := by
      refine ev_shift ?_
      simp only [switchboardref15_Right.j2, if_true]
      exact Ev.now _
    have hs : ∀ {r : Bool}, Ev (fun k => if ((rd_T73 l (i : Int)).f1.length : Int) < 1 then switchboardref15_Right.j2 k l (l.length : Int) (i : Int) true n l (rd_T73 l (i : Int)).f0 (rd_T73 l (i : Int)).f1 (rd_T73 l (i : Int)).f2 else if ((rd_T73 l (i : Int)).f1.length : Int) > 8 then switchboardref15_Right.j2 k l (l.length : Int) (i : Int) true n l (rd_T73 l (i : Int)).f0 (rd_T73 l (i : Int)).f1 (rd_T73 l (i : Int)).f2 else (switchboardref03_Right.f k (rd_T73 l (i : Int)).f0 ((rd_T73 l (i : Int)).f1.length : Int) n).bind fun t245 => if t245 = true then (if (rd_T73 l (i : Int)).f2 < 1 then switchboardref15_Right.j2 k l (l.length : Int) (i : Int) true n l (rd_T73 l (i : Int)).f0 (rd_T73 l (i : Int)).f1 (rd_T73 l (i : Int)).f2 else switchboardref15_Right.j2 k l (l.length : Int) (i : Int) (decide ((rd_T73 l (i : Int)).f2 > 32)) n l (rd_T73 l (i : Int)).f0 (rd_T73 l (i : Int)).f1 (rd_T73 l (i : Int)).f2) else switchboardref15_Right.j2 k l (l.length : Int) (i : Int) true n l (rd_T73 l (i : Int)).f0 (rd_T73 l (i : Int)).f1 (rd_T73 l (i : Int)).f2) r →
        Ev (fun k => switchboardref15_Right.l0 k l (l.length : Int) (i : Int) n l) r := fun h => by
      refine ev_shift ?_
      simp only [switchboardref15_Right.l0, if_pos (show (i : Int) < (l.length : Int) by omega), if_pos (show (0 : Int) ≤ (i : Int) by omega)]
      exact h
    by_cases h2 : ((rd_T73 l (i : Int)).f1.length : Int) < 1
    · exact ⟨false, hs (by simp only [if_pos h2]; exact hj), fun h => by cases h⟩
    · by_cases h3 : ((rd_T73 l (i : Int)).f1.length : Int) > 8
      · exact ⟨false, hs (by simp only [if_neg h2, if_pos h3]; exact hj), fun h => by cases h⟩
      · obtain ⟨t, ht, q⟩ := ref_right_few (rd_T73 l (i : Int)).f0 ((rd_T73 l (i : Int)).f1.length : Int) n hfi.2.1
        cases t
        · refine ⟨false, hs ?_, fun h => by cases h⟩
          simp only [if_neg h2, if_neg h3]
          refine Ev.bind ht ?_
          simp only [if_neg (show ¬ (false = true) by decide)]
          exact hj
        · by_cases h4 : (rd_T73 l (i : Int)).f2 < 1
          · refine ⟨false, hs ?_, fun h => by cases h⟩
            simp only [if_neg h2, if_neg h3]
            refine Ev.bind ht ?_
            simp only [if_true, if_pos h4]
            exact hj
          · by_cases h5 : (rd_T73 l (i : Int)).f2 > 32
            · refine ⟨false, hs ?_, fun h => by cases h⟩
              simp only [if_neg h2, if_neg h3]
              refine Ev.bind ht ?_
              simp only [if_true, if_neg h4, decide_eq_true h5]
              exact hj
            · obtain ⟨b, hb, hq⟩ := mright_l1 n h1 h8 l i (by omega) (rd_T73 l (i : Int)).f1 hfi.1 hfi.2.2 _ (ih (i + 1) (by omega)) (rd_T73 l (i : Int)).f1.length 0 (by omega)
              refine ⟨b, hs ?_, fun h x hx => ?_⟩
              · simp only [if_neg h2, if_neg h3]
                refine Ev.bind ht ?_
                simp only [if_true, if_neg h4, decide_eq_false h5]
                refine ev_shift ?_
                simp only [switchboardref15_Right.j2, if_neg (show ¬ (false = true) by decide)]
                exact hb
              · rw [List.drop_eq_getElem_cons (by omega), List.mem_cons] at hx
                rcases hx with rfl | hx
                · rw [rdY_get (by omega)] at hq q h2 h3 h4 h5
                  exact ⟨by omega, by omega, q rfl, by omega, by omega, by simpa using (hq h).2⟩
                · exact (hq h).1 x hx
theorem mright_ev (n : Int) (l : List S73) (hf : FewM l) : ∃ b : Bool, Ev (fun k => switchboardref15_Right.f k n l) b ∧ (b = true → GoodM n l) := by
  have hno : Ev (fun k => switchboardref15_Right.j0 k true n l) false := by
    refine ev_shift ?_
    simp only [switchboardref15_Right.j0, if_true]
    exact Ev.now _
  have hl := hf.1
  unfold switchboardref15_Right.f
  by_cases h1 : n < 1
  · simp only [if_pos h1]; exact ⟨false, hno, fun h => by cases h⟩
  · by_cases h2 : n > 8
    · simp only [if_neg h1, if_pos h2]; exact ⟨false, hno, fun h => by cases h⟩
    · by_cases h3 : (l.length : Int) < 1
      · simp only [if_neg h1, if_neg h2, if_pos h3]; exact ⟨false, hno, fun h => by cases h⟩
      · by_cases h4 : (l.length : Int) > 4
        · simp only [if_neg h1, if_neg h2, if_neg h3, decide_eq_true h4]; exact ⟨false, hno, fun h => by cases h⟩
        · simp only [if_neg h1, if_neg h2, if_neg h3, decide_eq_false h4]
          obtain ⟨b, hb, hq⟩ := mright_l0 n (by omega) (by omega) l hl hf.2 l.length 0 (by omega)
          refine ⟨b, ?_, fun h => ⟨by omega, by omega, by omega, by omega, by simpa using hq h⟩⟩
          refine ev_shift ?_
          simp only [switchboardref15_Right.j0, if_neg (show ¬ (false = true) by decide)]
          exact hb
/-- Tokens that a model of n numbers takes. -/
def GoodT (n : Int) (v : List (List Int)) : Prop := 1 ≤ (v.length : Int) ∧ (v.length : Int) ≤ 16 ∧ v.any (rowWrong n) = false
theorem mtokens_ev (n : Int) (l : List S73) (v : List (List Int)) (hf : Few v) : ∃ b : Bool, Ev (fun k => switchboardref15_Tokens.f k n l v) b ∧ (b = true → GoodT n v) := by
  unfold switchboardref15_Tokens.f
  by_cases h1 : (v.length : Int) > 0
  · by_cases h2 : (v.length : Int) < 17
    · obtain ⟨t, ht, q⟩ := ref_right_few v (v.length : Int) n hf
      refine ⟨t, ?_, fun h => ⟨by omega, by omega, (q h).2⟩⟩
      simp only [if_pos h1, if_pos h2]
      exact Ev.bind ht (Ev.now _)
    · refine ⟨false, ?_, fun h => by cases h⟩
      simp only [if_pos h1, if_neg h2]
      exact Ev.now _
  · refine ⟨false, ?_, fun h => by cases h⟩
    simp only [if_neg h1]
    exact Ev.now _

theorem rowsOk_matR {m : List (List Int)} {a b : Int} (h : RowsOk m a b) : matR m a b = true := by
  unfold matR
  rw [decide_eq_true h.1, h.2]
  rfl
theorem goodX_er {n : Int} {y : S70} (hn : 1 ≤ n ∧ n ≤ 8) (h : GoodX n y) : erB y.f0 y.f1 n = true := by
  unfold erB
  rw [rowsOk_matR h.2.2.1, rowsOk_matR h.2.2.2, decide_eq_true hn.1, decide_eq_true hn.2, decide_eq_true h.1, decide_eq_true h.2.1]
  rfl
theorem expOk_good {n : Int} {y : S70} (hn : 1 ≤ n ∧ n ≤ 8) (h : GoodX n y) : expBad n y = false := by
  unfold expBad expOk
  rw [right_f, goodX_er hn h]
  rfl
theorem modelOk_good {n : Int} {l : List S73} (h : GoodM n l) : modelOk n l = true := by
  obtain ⟨h1, h2, h3, h4, h5⟩ := h
  unfold modelOk
  rw [if_pos h1, if_pos h2, if_pos (by omega), if_pos (by omega)]
  have : l.any (layBad n) = false := by
    rw [List.any_eq_false]
    intro x hx
    obtain ⟨a1, a2, a3, a4, a5, a6⟩ := h5 x hx
    have hb : x.f1.any (expBad n) = false := by
      rw [List.any_eq_false]
      intro y hy
      rw [expOk_good ⟨h1, h2⟩ (a6 y hy)]
      decide
    unfold layBad layerOk
    rw [if_pos (by omega), if_pos (by omega), if_pos (rowsOk_mat a3), if_pos (by omega), if_pos (by omega), hb]
    decide
  rw [this]
  rfl
theorem tokOk_good {n : Int} {T : List (List Int)} (h : GoodT n T) : tokOk n T = true := by
  unfold tokOk
  rw [if_pos (by have := h.1; omega), if_pos (by have := h.2.1; omega), h.2.2]
  rfl
theorem rowWrong_length {c : Int} {r : List Int} (h : rowWrong c r = false) : (r.length : Int) = c := by
  unfold rowWrong at h
  rw [Bool.or_eq_false_iff] at h
  simpa using h.1
/-- Tokens of which one is longer by a number are not right. -/
theorem tokOk_bad {n : Int} {T : List (List Int)} (h : GoodT n T) {j : Nat} (hj : j < T.length) (x : Int) : tokOk n (T.set j (T[j] ++ [x])) = false := by
  have h1 := h.1
  have h2 := h.2.1
  unfold tokOk
  rw [List.length_set, if_pos (by omega), if_pos (by omega)]
  have hl : ((T[j]).length : Int) = n := rowWrong_length (by
    have := h.2.2
    rw [List.any_eq_false] at this
    simpa using this _ (List.getElem_mem hj))
  have : (T.set j (T[j] ++ [x])).any (rowWrong n) = true := by
    rw [List.any_eq_true]
    refine ⟨_, List.mem_set hj _, ?_⟩
    unfold rowWrong
    rw [Bool.or_eq_true]
    exact .inl (decide_eq_true (by rw [List.length_append]; simp; omega))
  rw [this]
  rfl
/-- A right token, many times. -/
theorem good_many {n : Int} {T : List (List Int)} (h : GoodT n T) {x : List Int} (hx : x ∈ T) {k : Nat} (h1 : 1 ≤ k) (h16 : k ≤ 16) : tokOk n (List.replicate k x) = true := by
  refine tokOk_good ⟨by simp; omega, by simp; omega, ?_⟩
  rw [List.any_eq_false]
  intro y hy
  have := h.2.2
  rw [List.any_eq_false] at this
  rw [(List.mem_replicate.1 hy).2]
  exact this x hx


end Go.Proofs.YtlbkfeelkdombaaDoor.Pq
