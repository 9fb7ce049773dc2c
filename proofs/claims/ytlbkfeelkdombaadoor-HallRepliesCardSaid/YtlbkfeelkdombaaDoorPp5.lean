/- Own text, by hand: what the hall's functions answer, as plain functions. -/
import Derived.Test.YtlbkfeelkdombaaDoorPp0
import Derived.Test.YtlbkfeelkdombaaDoorPp1
import Derived.Test.YtlbkfeelkdombaaDoorPp2
import Derived.Test.YtlbkfeelkdombaaDoorPp3
import Derived.Test.YtlbkfeelkdombaaDoorPp4
namespace Go.Proofs.YtlbkfeelkdombaaDoor.Pp
open Go.RowKit Go.Proofs.YtlbkfeelkdombaaDoorW.PrintWords Go.Proofs.YtlbkfeelkdombaaDoorW.PrintLast Go.Proofs.YtlbkfeelkdombaaDoorW.PrintMore
attribute [local go_sem] max2_int min2_int max_two min_two max_three min_three max_four min_four
set_option linter.unusedVariables false
set_option linter.unusedSimpArgs false

theorem wrap_small {i : Int} (h0 : -9223372036854775808 ≤ i) (h1 : i < 9223372036854775808) : wrap64 i = i := by
  unfold wrap64
  omega

theorem ev_rounds {g : Nat → Option Bool} (h : Ev g true) : ∃ k, g k = some true := h.rounds
theorem ev_shift {α : Type} {g : Nat → Option α} {r : α} (h : Ev (fun k => g (k + 1)) r) : Ev g r := Ev.step (fun _ => rfl) h

theorem rd_get {v : List Int} {i : Int} (h0 : 0 ≤ i) (h1 : i < v.length) : ∃ h : i.toNat < v.length, rd v i = v[i.toNat]'h := by
  refine ⟨by omega, ?_⟩
  unfold rd
  rw [List.getD_eq_getElem?_getD, List.getElem?_eq_getElem (by omega)]
  rfl

theorem take_rd {v : List Int} {i : Nat} (h : i < v.length) : v.take i ++ [rd v i] = v.take (i + 1) := by
  obtain ⟨h', e⟩ := rd_get (v := v) (i := (i : Int)) (by omega) (by omega)
  rw [e]
  simp only [Int.toNat_natCast]
  rw [List.take_succ_eq_append_getElem h]

theorem rd_append_left {a b : List Int} {i : Int} (h0 : 0 ≤ i) (h1 : i < a.length) : rd (a ++ b) i = rd a i := by
  unfold rd
  rw [List.getD_eq_getElem?_getD, List.getD_eq_getElem?_getD, List.getElem?_append_left (by omega)]

theorem rd_append_right {a b : List Int} {i : Int} (h0 : 0 ≤ i) : rd (a ++ b) ((a.length : Int) + i) = rd b i := by
  unfold rd
  rw [List.getD_eq_getElem?_getD, List.getD_eq_getElem?_getD, List.getElem?_append_right (by omega)]
  congr 2
  omega

theorem rd_map {v : List Int} (f : Int → Int) {i : Int} (h0 : 0 ≤ i) (h1 : i < v.length) : rd (v.map f) i = f (rd v i) := by
  obtain ⟨h, e⟩ := rd_get h0 h1
  obtain ⟨h', e'⟩ := rd_get (v := v.map f) h0 (by simpa using h1)
  rw [e, e']
  simp

theorem rd_mem {v : List Int} {i : Int} (h0 : 0 ≤ i) (h1 : i < v.length) : rd v i ∈ v := by
  obtain ⟨h, e⟩ := rd_get h0 h1
  rw [e]
  exact List.getElem_mem h

/-- The entry at a place. -/
theorem rd44 {l : List S44} {i : Nat} (h : i < l.length) : rd_T44 l (i : Int) = l[i] := by
  unfold rd_T44
  rw [Int.toNat_natCast, List.getD_eq_getElem?_getD, List.getElem?_eq_getElem h]
  rfl
/-- The ids of those that wait. -/
def openOf (l : List S44) : List Int := (l.filter (fun x => !x.f2)).map (·.f0)
theorem open_cons_no {x : S44} {r : List S44} (hb : x.f2 = false) : openOf (x :: r) = x.f0 :: openOf r := by simp [openOf, hb]
theorem open_cons_yes {x : S44} {r : List S44} (hb : x.f2 = true) : openOf (x :: r) = openOf r := by simp [openOf, hb]
theorem open_l0 (l : List S44) (hl : l.length < 1000) : ∀ (d i : Nat) (acc : List Int), i + d = l.length → acc.length ≤ i → Ev (fun k => hall_Open.l0 k acc l (l.length : Int) (i : Int)) (acc ++ openOf (l.drop i)) := by
  intro d
  induction d with
  | zero =>
    intro i acc hi ha
    refine ev_shift ?_
    simp only [hall_Open.l0, if_neg (show ¬ (i : Int) < (l.length : Int) by omega)]
    rw [List.drop_of_length_le (by omega)]
    simpa [openOf] using Ev.now acc
  | succ d ih =>
    intro i acc hi ha
    have hlt : i < l.length := by omega
    have hw : wrap64 ((i : Int) + 1) = ((i + 1 : Nat) : Int) := by rw [wrap_small (by omega) (by omega)]; omega
    refine ev_shift ?_
    simp only [hall_Open.l0, if_pos (show (i : Int) < (l.length : Int) by omega), if_pos (show (0 : Int) ≤ (i : Int) by omega), rd44 hlt, hw]
    rw [List.drop_eq_getElem_cons hlt]
    cases hb : l[i].f2
    · simp only [if_neg (show ¬ (false = true) by decide), if_pos (show acc.length < 17592186044416 by omega)]
      have h := ih (i + 1) (acc ++ [l[i].f0]) (by omega) (by simp; omega)
      rw [open_cons_no hb]
      simpa using h
    · simp only [if_true]
      have h := ih (i + 1) acc (by omega) (by omega)
      rw [open_cons_yes hb]
      exact h
theorem open_ev (l : List S44) (hl : l.length < 1000) : Ev (fun k => hall_Open.f k l) (openOf l) := by
  have h := open_l0 l hl l.length 0 [] (by omega) (by simp)
  unfold hall_Open.f
  simpa using h
theorem cloneE_f {l : List S44} (h : l.length < 2199023255552) : hall_Entry_25.f l = some l := by
  unfold hall_Entry_25.f
  simp only [Option.bind_some, List.length_nil, Nat.zero_add, List.nil_append, if_pos h]
theorem cloneT_f {l : List (List Int)} (h : l.length < 5864062014805) : slices_Clone_int_int.f l = some l := by
  unfold slices_Clone_int_int.f
  simp only [Option.bind_some, List.length_nil, Nat.zero_add, List.nil_append, if_pos h]
/-- The place of the first one of whom something holds: there is none. -/
theorem idx_none (p : S44 → Bool) : ∀ (l : List S44) (i : Nat), (∀ x ∈ l, p x = false) → idxFrom31 p l i = -1 := by
  intro l
  induction l with
  | nil => intro i _; rfl
  | cons x r ih =>
    intro i h
    simp only [idxFrom31, h x (by simp), if_neg (show ¬ (false = true) by decide)]
    exact ih (i + 1) (fun y hy => h y (by simp [hy]))
/-- The place of the first one of whom something holds. -/
theorem idx_first (p : S44 → Bool) : ∀ (l : List S44) (i : Nat), (∃ x ∈ l, p x = true) → ∃ (k : Nat) (h : k < l.length), idxFrom31 p l i = ((i + k : Nat) : Int) ∧ p l[k] = true ∧ ∀ (j : Nat) (hj : j < l.length), j < k → p l[j] = false := by
  intro l
  induction l with
  | nil => intro i h; obtain ⟨x, hx, _⟩ := h; cases hx
  | cons x r ih =>
    intro i h
    by_cases hp : p x = true
    · refine ⟨0, by simp, ?_, hp, fun j _ hj => by omega⟩
      simp only [idxFrom31, if_pos hp]
      rfl
    · have h' : ∃ y ∈ r, p y = true := by
        obtain ⟨y, hy, hpy⟩ := h
        rcases List.mem_cons.1 hy with rfl | hy
        · exact absurd hpy hp
        · exact ⟨y, hy, hpy⟩
      obtain ⟨k, hk, e, h1, h2⟩ := ih (i + 1) h'
      refine ⟨k + 1, by simp; omega, ?_, ?_, ?_⟩
      · simp only [idxFrom31, if_neg hp, e]
        congr 1
        omega
      · simpa using h1
      · intro j hj hjk
        cases j with
        | zero => simpa using hp
        | succ j => simpa using h2 j (by simpa using hj) (by omega)
theorem idB_false {x : S44} {a : Int} : idB x a false = decide (x.f0 = a) := by
  unfold idB
  by_cases h : x.f0 = a <;> simp [h]
theorem idB_true {x : S44} {a : Int} : idB x a true = (decide (x.f0 = a) && !x.f2) := by
  unfold idB
  by_cases h : x.f0 = a <;> simp [h]
/-- A batch of one token of one number. -/
def mkE (id x : Int) : S44 := ⟨id, [[x]], false, []⟩
/-- What is admitted of right tokens: there is one of the id, too many wait, or it is taken. -/
theorem admit_ev (l : List S44) (hl : l.length < 1000) {id x : Int} (h1 : 1 ≤ id) (h2 : id ≤ 2147483647) (hr : hall_Reason.f 1 [tinyY] [[x]] = some 0) :
    Ev (fun k => hall_Admit.f k l 1 [tinyY] id [[x]]) (if (∃ y ∈ l, y.f0 = id) then (l, 5) else if 4 ≤ (openOf l).length then (l, 8) else (l ++ [mkE id x], 0)) := by
  unfold hall_Admit.f
  simp only [if_neg (show ¬ id < 1 by omega), decide_eq_false (show ¬ id > 2147483647 by omega)]
  refine ev_shift ?_
  simp only [hall_Admit.j0, if_neg (show ¬ (false = true) by decide), hall_find.f, Option.bind_some]
  by_cases he : ∃ y ∈ l, y.f0 = id
  · obtain ⟨k, _, e, _, _⟩ := idx_first (fun y => idB y id false) l 0 (by obtain ⟨y, hy, e⟩ := he; exact ⟨y, hy, by rw [idB_false]; simpa using e⟩)
    rw [if_pos he]
    simp only [e, if_pos (show ((0 + k : Nat) : Int) ≥ 0 by omega)]
    exact Ev.now _
  · have e : idxFrom31 (fun y => idB y id false) l 0 = -1 := idx_none _ _ _ (fun y hy => by rw [idB_false]; exact decide_eq_false (fun e => he ⟨y, hy, e⟩))
    rw [if_neg he]
    simp only [e, if_neg (show ¬ ((-1 : Int) ≥ 0) by decide), hr, Option.bind_some, if_true]
    refine Ev.bind (open_ev l hl) ?_
    by_cases h4 : 4 ≤ (openOf l).length
    · simp only [if_pos (show ((openOf l).length : Int) ≥ 4 by omega), if_pos h4]
      exact Ev.now _
    · simp only [if_neg (show ¬ ((openOf l).length : Int) ≥ 4 by omega), if_neg h4, cloneE_f (show l.length < 2199023255552 by omega), cloneT_f (show [[x]].length < 5864062014805 by simp), Option.bind_some, if_pos (show l.length < 2199023255552 by omega)]
      exact Ev.now _
theorem openOf_none {l : List S44} (h : ∀ y ∈ l, y.f2 = false) : openOf l = l.map (·.f0) := by
  unfold openOf
  rw [List.filter_eq_self.2 (fun y hy => by rw [h y hy]; rfl)]
/-- What is finished: there is none, or the first one that waits. -/
theorem finish_none {l : List S44} {id : Int} {t : List (List Int)} (h : ¬ ∃ y ∈ l, y.f0 = id ∧ y.f2 = false) : hall_Finish.f l id t = some (l, 4) := by
  have e : idxFrom31 (fun y => idB y id true) l 0 = -1 := idx_none _ _ _ (fun y hy => by
    rw [idB_true]
    cases hb : y.f2
    · rw [decide_eq_false (fun e => h ⟨y, hy, e, hb⟩)]; rfl
    · simp)
  unfold hall_Finish.f hall_find.f
  simp only [e, Option.bind_some, if_pos (show (-1 : Int) < 0 by decide)]
theorem finish_some {l : List S44} (hl : l.length < 1000) {id : Int} {t : List (List Int)} (ht : t.length < 1000) (h : ∃ y ∈ l, y.f0 = id ∧ y.f2 = false) :
    ∃ (k : Nat) (hk : k < l.length), l[k].f0 = id ∧ l[k].f2 = false ∧ (∀ (j : Nat) (hj : j < l.length), j < k → ¬ (l[j].f0 = id ∧ l[j].f2 = false)) ∧ hall_Finish.f l id t = some (l.set k ⟨l[k].f0, l[k].f1, true, t⟩, 0) := by
  obtain ⟨k, hk, e, h1, h2⟩ := idx_first (fun y => idB y id true) l 0 (by obtain ⟨y, hy, e1, e2⟩ := h; exact ⟨y, hy, by rw [idB_true, e2]; simp [e1]⟩)
  rw [idB_true] at h1
  simp only [Bool.and_eq_true, decide_eq_true_eq, Bool.not_eq_true'] at h1
  refine ⟨k, hk, h1.1, h1.2, fun j hj hjk hc => ?_, ?_⟩
  · have := h2 j hj hjk
    rw [idB_true, hc.2] at this
    simp [hc.1] at this
  · unfold hall_Finish.f hall_find.f
    rw [Nat.zero_add] at e
    simp only [e, Option.bind_some, if_neg (show ¬ ((k : Nat) : Int) < 0 by omega), cloneE_f (show l.length < 2199023255552 by omega), cloneT_f (show t.length < 5864062014805 by omega), if_pos (show (0 : Int) ≤ ((k : Nat) : Int) by omega), if_pos (show ((k : Nat) : Int) < (l.length : Int) by omega), rd44 hk, Int.toNat_natCast]
    have hk2 : k < (l.set k (⟨l[k].f0, l[k].f1, true, l[k].f3⟩ : S44)).length := by simpa using hk
    rw [rd44 hk2]
    simp
theorem same2_l0 (a : List Int) (hn : a.length ≤ 1000) : ∀ (d i : Nat), i + d = a.length → Ev (fun k => switchboardref02_Same.l0 k a a i) true := by
  intro d
  induction d with
  | zero =>
    intro i hi
    refine Ev.step (f := fun _ => some _) (fun k => ?_) (Ev.now _)
    simp only [switchboardref02_Same.l0]
    rw [if_neg (by omega)]
  | succ d ih =>
    intro i hi
    have hw : wrap64 ((i : Int) + 1) = ((i + 1 : Nat) : Int) := by rw [wrap_small (by omega) (by omega)]; omega
    refine Ev.step (fun k => ?_) (ih (i + 1) (by omega))
    simp only [switchboardref02_Same.l0, if_true]
    rw [if_pos (by omega), if_pos (by omega), if_pos (by omega), hw]
theorem same2_ev {a b : List Int} (h : a = b) (hn : a.length ≤ 1000) : Ev (fun k => switchboardref02_Same.f k a b) true := by
  subst h
  unfold switchboardref02_Same.f
  simp only [if_true]
  exact same2_l0 a hn a.length 0 (by omega)

section
variable {P : Program} {ops : Array Oper} {o : Oper} {a : Act} {Q : Exit → Act → World → Prop} {Kc : Act → World → Prop}
/-- A literal row, as one step of a region that draws. -/
theorem lit_step {W : World} (hw : Region.wanted o (yielded ops a.tmps) = true) {N : Tmp} (_hd : o.dst = some N) {cs : Array Value} {t : TypeId} {n : Nat}
    (hrun : (execOp a.eval o).run P W = .ok (.value (.slice (some ⟨W.heap.size, 0, none⟩) n n)) (W.alloc (.cells cs t (0, 0))))
    (h : ∀ g, g = W.heap.size → ∀ w1, w1.heap[g]? = some (.cells cs t (0, 0)) → Below W.heap.size W w1 → Kc (a.put o.dst (.slice (some ⟨g, 0, none⟩) n n)) w1) : if Region.wanted o (yielded ops a.tmps) = true then Oper.wp P o a W Kc Q else Kc (a.put o.dst undef) W :=
  event_step hw hrun (h _ rfl _ (blk_new W _) (below_alloc (Below.refl _ _) _))
end
/-- A row of one row of one number, in two blocks. -/
theorem row2_V {W : World} {b g1 g2 : Nat} {x : Int} (hb1 : W.heap[g1]? = some (.cells #[.int .i64 x] 3 (0, 0))) (hb2 : W.heap[g2]? = some (.cells #[.slice (some ⟨g1, 0, none⟩) 1 1] 42 (0, 0))) :
    Kd.V (Kd.slice 3 (Kd.int .i64)) 42 W b (fun k => k = g1 ∨ k = g2) (.slice (some ⟨g2, 0, none⟩) 1 1) [[x]] :=
  Kd.V_mk (xs := [[x]]) (Nat.le_refl _) (fun W' hW => C_one (cs := [Value.slice (some ⟨g1, 0, none⟩) 1 1]) ((hW _ (.inr rfl) (blk_lt hb2)).trans hb2) ⟨_, _, rfl, Nat.le_refl _, C_one (cs := [Value.int .i64 x]) ((hW _ (.inl rfl) (blk_lt hb1)).trans hb1) rfl rfl⟩ rfl)
/-- A hall's variable in memory. -/
structure HW (w W : World) (gh : Nat) (cs : Array Value) : Prop where
  hb : Below w.heap.size w W
  lo : w.heap.size ≤ gh
  box : W.heap[gh]? = some (.cells cs 24 (0, 0))
theorem HW.below {w W W' : World} {gh : Nat} {cs : Array Value} (h : HW w W gh cs) (hb : Below W.heap.size W W') : HW w W' gh cs := ⟨below_step h.hb hb, h.lo, blk_below h.box hb⟩
theorem HW.far {w W : World} {gh : Nat} {cs : Array Value} (h : HW w W gh cs) {g : Nat} (j : Nat) (u : Value) (hg : w.heap.size ≤ g) (hne : gh ≠ g) : HW w (W.setCell ⟨g, j, none⟩ u) gh cs := ⟨below_set h.hb hg, h.lo, (Below.heap_setCell W ⟨g, j, none⟩ u gh (by show gh ≠ g; exact hne)).trans h.box⟩
theorem HW.put {w W : World} {gh : Nat} {v : Value} (h : HW w W gh #[v]) (u : Value) : HW w (W.setCell ⟨gh, 0, none⟩ u) gh #[u] := ⟨below_set h.hb h.lo, h.lo, blk_put h.box 0 u rfl⟩
theorem HW.grown {w W W' : World} {gh : Nat} {cs : Array Value} (h : HW w W gh cs) {row : Option Nat} (hg : W.grownBy W' row) (hne : some gh ≠ row) (hb : Below w.heap.size w W') : HW w W' gh cs := ⟨hb, h.lo, blk_grown h.box hg hne⟩
theorem info_int : (Tryd.prog.info? 3).map (fun i => (i.zero, i.size, i.bytes)) = some (some (.int .i64 0), 1, 8) := by kernel_rfl

theorem rdL_get {m : List (List Int)} {i : Nat} (h : i < m.length) : rd_L1 m (i : Int) = m[i] := by
  unfold rd_L1
  rw [Int.toNat_natCast, List.getD_eq_getElem?_getD, List.getElem?_eq_getElem h]
  rfl
theorem rdL_mem {m : List (List Int)} {i : Nat} (h : i < m.length) : rd_L1 m (i : Int) ∈ m := by
  rw [rdL_get h]
  exact List.getElem_mem h
/-- Rows by a row, those in order from place i on; 'none': one is not as long. -/

theorem small_j1_false (m : List (List Int)) (i : Int) : Ev (fun k => switchboardref03_Small.j1 k m i false) (decide ((m.length : Int) ≤ 30)) := by
  refine ev_shift ?_
  simp only [switchboardref03_Small.j1, if_neg (show ¬ (false = true) by decide)]
  exact Ev.now _
/-- Rows are few, and short. -/
def Few (m : List (List Int)) : Prop := m.length ≤ 30 ∧ ∀ r ∈ m, r.length ≤ 30
theorem small_l0 (m : List (List Int)) : ∀ (d i : Nat), i + d = 30 → (∀ j : Nat, j < i → j < m.length → (rd_L1 m (j : Int)).length ≤ 30) →
    ∃ b : Bool, Ev (fun k => switchboardref03_Small.l0 k m i) b ∧ (b = true → Few m) := by
  intro d
  induction d with
  | zero =>
    intro i hi hq
    by_cases h : (i : Int) < (m.length : Int)
    · refine ⟨decide ((m.length : Int) ≤ 30), ?_, ?_⟩
      · refine ev_shift ?_
        simp only [switchboardref03_Small.l0, if_pos h, decide_eq_false (show ¬ (i : Int) < 30 by omega)]
        exact small_j1_false m i
      · intro hb
        have := of_decide_eq_true hb
        omega
    · refine ⟨decide ((m.length : Int) ≤ 30), ?_, ?_⟩
      · refine ev_shift ?_
        simp only [switchboardref03_Small.l0, if_neg h]
        exact small_j1_false m i
      · intro hb
        refine ⟨by omega, fun r hr => ?_⟩
        obtain ⟨j, hj, rfl⟩ := List.getElem_of_mem hr
        have := hq j (by omega) hj
        rwa [rdL_get hj] at this
  | succ d ih =>
    intro i hi hq
    have hw : wrap64 ((i : Int) + 1) = ((i + 1 : Nat) : Int) := by rw [wrap_small (by omega) (by omega)]; omega
    by_cases h : (i : Int) < (m.length : Int)
    · by_cases h2 : ((rd_L1 m (i : Int)).length : Int) > 30
      · refine ⟨false, ?_, fun hb => by cases hb⟩
        refine ev_shift ?_
        simp only [switchboardref03_Small.l0, if_pos h, decide_eq_true (show (i : Int) < 30 by omega)]
        refine ev_shift ?_
        simp only [switchboardref03_Small.j1, if_true, if_pos (show (0 : Int) ≤ (i : Int) by omega), if_pos h, if_pos h2]
        exact Ev.now _
      · obtain ⟨b, hb, hq2⟩ := ih (i + 1) (by omega) (fun j hj hl => by
          by_cases e : j < i
          · exact hq j e hl
          · have : j = i := by omega
            subst this
            omega)
        refine ⟨b, ?_, hq2⟩
        refine ev_shift ?_
        simp only [switchboardref03_Small.l0, if_pos h, decide_eq_true (show (i : Int) < 30 by omega)]
        refine ev_shift ?_
        simp only [switchboardref03_Small.j1, if_true, if_pos (show (0 : Int) ≤ (i : Int) by omega), if_pos h, if_neg h2, hw]
        exact hb
    · refine ⟨decide ((m.length : Int) ≤ 30), ?_, ?_⟩
      · refine ev_shift ?_
        simp only [switchboardref03_Small.l0, if_neg h]
        exact small_j1_false m i
      · intro hb
        refine ⟨of_decide_eq_true hb |> fun z => by omega, fun r hr => ?_⟩
        obtain ⟨j, hj, rfl⟩ := List.getElem_of_mem hr
        have := hq j (by omega) hj
        rwa [rdL_get hj] at this
theorem small_ev (m : List (List Int)) : ∃ b : Bool, Ev (fun k => switchboardref03_Small.f k m) b ∧ (b = true → Few m) :=
  small_l0 m 30 0 (by omega) (fun j hj => by omega)

theorem rd_ext {a b : List Int} (hl : a.length = b.length) (h : ∀ i : Nat, i < a.length → rd a i = rd b i) : a = b := by
  refine List.ext_getElem hl fun i h1 h2 => ?_
  obtain ⟨_, e⟩ := rd_get (v := a) (i := (i : Int)) (by omega) (by omega)
  obtain ⟨_, e'⟩ := rd_get (v := b) (i := (i : Int)) (by omega) (by omega)
  have := h i h1
  rw [e, e'] at this
  simpa using this
theorem same_l0 (a : List Int) (hn : a.length ≤ 9223372036854775806) : ∀ (d i : Nat), i + d = a.length →
    Ev (fun k => switchboardref02_Same.l0 k a a i) true := by
  intro d
  induction d with
  | zero =>
    intro i hi
    refine Ev.step (f := fun _ => some _) (fun k => ?_) (Ev.now _)
    simp only [switchboardref02_Same.l0]
    rw [if_neg (by omega)]
  | succ d ih =>
    intro i hi
    have hw : wrap64 ((i : Int) + 1) = ((i + 1 : Nat) : Int) := by rw [wrap_small (by omega) (by omega)]; omega
    refine Ev.step (fun k => ?_) (ih (i + 1) (by omega))
    simp only [switchboardref02_Same.l0, if_true]
    rw [if_pos (by omega), if_pos (by omega), if_pos (by omega), hw]
theorem same_refl (a : List Int) (hn : a.length ≤ 9223372036854775806) : Ev (fun k => switchboardref02_Same.f k a a) true := by
  unfold switchboardref02_Same.f
  simp only [if_true]
  exact same_l0 a hn a.length 0 (by omega)
theorem same_ev {a b : List Int} (h : a = b) (hn : a.length ≤ 9223372036854775806) : Ev (fun k => switchboardref02_Same.f k a b) true := by
  subst h
  exact same_refl a hn

theorem same15_l0 (a : List (List Int)) (ha : a.length ≤ 60) (hr : ∀ r ∈ a, r.length ≤ 60) : ∀ (d i : Nat), i + d = a.length → Ev (fun k => switchboardref15_Same.l0 k a a (i : Int)) true := by
  intro d
  induction d with
  | zero =>
    intro i hi
    refine ev_shift ?_
    simp only [switchboardref15_Same.l0, if_neg (show ¬ (i : Int) < (a.length : Int) by omega)]
    exact Ev.now _
  | succ d ih =>
    intro i hi
    have hw1 : wrap64 ((i : Int) + 1) = ((i + 1 : Nat) : Int) := by rw [wrap_small (by omega) (by omega)]; omega
    have := hr _ (rdL_mem (m := a) (i := i) (by omega))
    refine ev_shift ?_
    simp only [switchboardref15_Same.l0, if_pos (show (i : Int) < (a.length : Int) by omega), if_pos (show (0 : Int) ≤ (i : Int) by omega)]
    refine Ev.bind (same_refl _ (by omega)) ?_
    simp only [if_true, hw1]
    exact ih (i + 1) (by omega)
theorem same15 {a b : List (List Int)} (h : a = b) (ha : a.length ≤ 60) (hr : ∀ r ∈ a, r.length ≤ 60) : Ev (fun k => switchboardref15_Same.f k a b) true := by
  subst h
  unfold switchboardref15_Same.f
  simp only [if_true]
  exact same15_l0 a ha hr a.length 0 (by omega)

/-- An entry as the document's. -/
def conv (x : S44) : S65 := ⟨x.f0, x.f1, x.f2, x.f3⟩
/-- Rows of which the reference says that they are few, and short. -/
def SmallE (m : List (List Int)) : Prop := ∃ k, switchboardref03_Small.f k m = some true
theorem SmallE.few {m : List (List Int)} (h : SmallE m) : Few m := by
  obtain ⟨b, he, hq⟩ := small_ev m
  obtain ⟨k, hk⟩ := h
  obtain ⟨k', hk'⟩ := he.rounds
  obtain ⟨q, h1, h2⟩ := together (g := fun k => switchboardref03_Small.f k m) (f := fun k => switchboardref03_Small.f k m) (fun _ => switchboardref03_Small.mono _ _) (fun _ => switchboardref03_Small.mono _ _) ⟨k, hk⟩ ⟨k', hk'⟩
  rw [h1] at h2
  exact hq (Option.some.inj h2).symm
theorem small_uniq {m : List (List Int)} {k k' : Nat} {a b : Bool} (h : switchboardref03_Small.f k m = some a) (h' : switchboardref03_Small.f k' m = some b) : a = b := by
  obtain ⟨q, h1, h2⟩ := together (g := fun k => switchboardref03_Small.f k m) (f := fun k => switchboardref03_Small.f k m) (fun _ => switchboardref03_Small.mono _ _) (fun _ => switchboardref03_Small.mono _ _) ⟨k, h⟩ ⟨k', h'⟩
  rw [h1] at h2
  exact Option.some.inj h2
theorem small_nil : SmallE [] := ⟨2, by simp [switchboardref03_Small.f, switchboardref03_Small.l0, switchboardref03_Small.j1]⟩
theorem rd65 {l : List S65} {i : Nat} (h : i < l.length) : rd_T65 l (i : Int) = l[i] := by
  unfold rd_T65
  rw [Int.toNat_natCast, List.getD_eq_getElem?_getD, List.getElem?_eq_getElem h]
  rfl
/-- The first one of an id that waits gets its answer. -/
def fin65 (id : Int) (t : List (List Int)) : List S65 → List S65 × Bool
  | [] => ([], false)
  | x :: r => if x.f0 = id ∧ x.f2 = false then ((⟨x.f0, x.f1, true, t⟩ : S65) :: r, true) else (x :: (fin65 id t r).1, (fin65 id t r).2)
theorem finish24_yes (id : Int) (t : List (List Int)) (L : List S65) (hl : L.length ≤ 30) : ∀ (d i : Nat) (acc : List S65), i + d = L.length → acc.length ≤ i → Ev (fun k => switchboardref24_Finish.l0 k id t true (i : Int) L acc) (acc ++ L.drop i, 0) := by
  intro d
  induction d with
  | zero =>
    intro i acc hi ha
    refine ev_shift ?_
    simp only [switchboardref24_Finish.l0, if_neg (show ¬ (i : Int) < (L.length : Int) by omega), if_true]
    rw [List.drop_of_length_le (by omega), List.append_nil]
    exact Ev.now _
  | succ d ih =>
    intro i acc hi ha
    have hlt : i < L.length := by omega
    have hw : wrap64 ((i : Int) + 1) = ((i + 1 : Nat) : Int) := by rw [wrap_small (by omega) (by omega)]; omega
    have hn := ih (i + 1) (acc ++ [L[i]]) (by omega) (by simp; omega)
    rw [List.append_assoc, List.singleton_append, ← List.drop_eq_getElem_cons hlt] at hn
    refine ev_shift ?_
    simp only [switchboardref24_Finish.l0, if_pos (show (i : Int) < (L.length : Int) by omega), if_pos (show (0 : Int) ≤ (i : Int) by omega), rd65 hlt, hw, if_true, if_pos (show acc.length < 2199023255552 by omega), ite_self]
    exact hn
theorem finish24_ev (id : Int) (t : List (List Int)) (L : List S65) (hl : L.length ≤ 30) : ∀ (d i : Nat) (acc : List S65), i + d = L.length → acc.length ≤ i → Ev (fun k => switchboardref24_Finish.l0 k id t false (i : Int) L acc) (if (fin65 id t (L.drop i)).2 = true then (acc ++ (fin65 id t (L.drop i)).1, 0) else (L, 4)) := by
  intro d
  induction d with
  | zero =>
    intro i acc hi ha
    refine ev_shift ?_
    simp only [switchboardref24_Finish.l0, if_neg (show ¬ (i : Int) < (L.length : Int) by omega), if_neg (show ¬ (false = true) by decide)]
    rw [List.drop_of_length_le (by omega)]
    exact Ev.now _
  | succ d ih =>
    intro i acc hi ha
    have hlt : i < L.length := by omega
    have hw : wrap64 ((i : Int) + 1) = ((i + 1 : Nat) : Int) := by rw [wrap_small (by omega) (by omega)]; omega
    have hn := ih (i + 1) (acc ++ [L[i]]) (by omega) (by simp; omega)
    rw [List.append_assoc, List.singleton_append] at hn
    refine ev_shift ?_
    simp only [switchboardref24_Finish.l0, if_pos (show (i : Int) < (L.length : Int) by omega), if_pos (show (0 : Int) ≤ (i : Int) by omega), rd65 hlt, hw, if_neg (show ¬ (false = true) by decide), if_pos (show acc.length < 2199023255552 by omega)]
    rw [List.drop_eq_getElem_cons hlt]
    by_cases h0 : L[i].f0 = id
    · cases h2 : L[i].f2
      · have hy := finish24_yes id t L hl d (i + 1) (acc ++ [⟨L[i].f0, L[i].f1, true, t⟩]) (by omega) (by simp; omega)
        rw [List.append_assoc, List.singleton_append] at hy
        have hf : fin65 id t (L[i] :: L.drop (i + 1)) = ((⟨L[i].f0, L[i].f1, true, t⟩ : S65) :: L.drop (i + 1), true) := by simp [fin65, h0, h2]
        simp only [hf, if_pos h0, h2, if_neg (show ¬ (false = true) by decide), if_true]
        exact hy
      · simp only [fin65, if_pos h0, h2, if_true, if_neg (show ¬ (L[i].f0 = id ∧ true = false) by simp)]
        rw [show (⟨L[i].f0, L[i].f1, true, L[i].f3⟩ : S65) = L[i] by rw [← h2]]
        exact hn
    · simp only [fin65, if_neg h0, if_neg (show ¬ (L[i].f0 = id ∧ L[i].f2 = false) from fun h => h0 h.1)]
      exact hn
theorem fin65_none {id : Int} {t : List (List Int)} : ∀ {L : List S65}, (∀ y ∈ L, ¬ (y.f0 = id ∧ y.f2 = false)) → (fin65 id t L).2 = false
  | [], _ => rfl
  | x :: r, h => by
    simp only [fin65, if_neg (h x (by simp))]
    exact fin65_none (fun y hy => h y (by simp [hy]))
theorem fin65_some {id : Int} {t : List (List Int)} : ∀ {L : List S65} {k : Nat} (hk : k < L.length), L[k].f0 = id → L[k].f2 = false → (∀ (j : Nat) (hj : j < L.length), j < k → ¬ (L[j].f0 = id ∧ L[j].f2 = false)) → fin65 id t L = (L.set k ⟨L[k].f0, L[k].f1, true, t⟩, true)
  | [], _, hk, _, _, _ => by simp at hk
  | x :: r, 0, _, h0, h2, _ => by
    simp only [List.getElem_cons_zero] at h0 h2
    simp only [fin65, if_pos (show x.f0 = id ∧ x.f2 = false from ⟨h0, h2⟩), List.set_cons_zero, List.getElem_cons_zero]
  | x :: r, k + 1, hk, h0, h2, hf => by
    simp only [List.getElem_cons_succ] at h0 h2
    have hx := hf 0 (by simp) (by omega)
    simp only [List.getElem_cons_zero] at hx
    simp only [fin65, if_neg hx, List.set_cons_succ, List.getElem_cons_succ]
    rw [fin65_some (t := t) (by simpa using hk) h0 h2 (fun j hj hjk => by
      have := hf (j + 1) (by simpa using hj) (by omega)
      simpa using this)]
/-- What is finished, by both: the same. -/
theorem finish_both {l : List S44} (hl : l.length ≤ 30) (hs : ∀ x ∈ l, SmallE x.f1 ∧ SmallE x.f3) (id : Int) {t : List (List Int)} (ht : SmallE t) :
    ∃ (r : List S44) (e : Int) (kk : Nat), hall_Finish.f l id t = some (r, e) ∧ switchboardref24_Finish.f kk (l.map conv) id t = some (r.map conv, e) ∧ r.length ≤ 30 ∧ ∀ x ∈ r, SmallE x.f1 ∧ SmallE x.f3 := by
  obtain ⟨kk, hk⟩ := (finish24_ev id t (l.map conv) (by simpa using hl) (l.map conv).length 0 [] (by omega) (by simp)).rounds
  rw [List.drop_zero, List.nil_append] at hk
  have htf := ht.few.1
  by_cases he : ∃ y ∈ l, y.f0 = id ∧ y.f2 = false
  · obtain ⟨k, hkl, e1, e2, e3, e4⟩ := finish_some (l := l) (by omega) (id := id) (t := t) (by omega) he
    have hf := fin65_some (id := id) (t := t) (L := l.map conv) (k := k) (by simpa using hkl) (by simpa [conv] using e1) (by simpa [conv] using e2) (fun j hj hjk => by
      have := e3 j (by simpa using hj) hjk
      simpa [conv] using this)
    rw [hf, if_pos rfl] at hk
    refine ⟨_, 0, kk, e4, ?_, by simpa using hl, ?_⟩
    · unfold switchboardref24_Finish.f
      rw [List.map_set]
      simpa [conv] using hk
    · intro x hx
      rcases List.mem_or_eq_of_mem_set hx with hx | rfl
      · exact hs x hx
      · exact ⟨(hs _ (List.getElem_mem hkl)).1, ht⟩
  · have hf : (fin65 id t (l.map conv)).2 = false := fin65_none (fun y hy hc => by
      obtain ⟨z, hz, rfl⟩ := List.mem_map.1 hy
      exact he ⟨z, hz, hc.1, hc.2⟩)
    rw [hf, if_neg (by decide)] at hk
    exact ⟨l, 4, kk, finish_none he, hk, hl, hs⟩
/-- What is replied. -/
def rep44 (id : Int) : List S44 → List (List Int) × Int
  | [] => ([], 4)
  | x :: r => if x.f0 = id then (if x.f2 = true then (x.f3, 0) else ([], 8)) else rep44 id r
theorem reply24_ev (id : Int) (l : List S44) (hl : l.length ≤ 30) : ∀ (d i : Nat), i + d = l.length → Ev (fun k => switchboardref24_Reply.l0 k id (i : Int) (l.map conv)) (rep44 id (l.drop i)) := by
  intro d
  induction d with
  | zero =>
    intro i hi
    refine ev_shift ?_
    simp only [switchboardref24_Reply.l0, List.length_map, if_neg (show ¬ (i : Int) < (l.length : Int) by omega)]
    rw [List.drop_of_length_le (by omega)]
    exact Ev.now _
  | succ d ih =>
    intro i hi
    have hlt : i < l.length := by omega
    have hw : wrap64 ((i : Int) + 1) = ((i + 1 : Nat) : Int) := by rw [wrap_small (by omega) (by omega)]; omega
    have hn := ih (i + 1) (by omega)
    refine ev_shift ?_
    simp only [switchboardref24_Reply.l0, List.length_map, if_pos (show (i : Int) < (l.length : Int) by omega), if_pos (show (0 : Int) ≤ (i : Int) by omega), rd65 (show i < (l.map conv).length by simpa using hlt), List.getElem_map, hw]
    rw [List.drop_eq_getElem_cons hlt]
    by_cases h0 : (conv l[i]).f0 = id
    · cases h2 : (conv l[i]).f2
      · have hr : rep44 id (l[i] :: l.drop (i + 1)) = ([], 8) := by
          have h0' : l[i].f0 = id := h0
          have h2' : l[i].f2 = false := h2
          simp [rep44, h0', h2']
        simp only [hr, if_pos h0, if_neg (show ¬ (false = true) by decide)]
        exact Ev.now _
      · have hr : rep44 id (l[i] :: l.drop (i + 1)) = (l[i].f3, 0) := by
          have h0' : l[i].f0 = id := h0
          have h2' : l[i].f2 = true := h2
          simp [rep44, h0', h2']
        simp only [hr, if_pos h0, if_true]
        exact Ev.now _
    · have hr : rep44 id (l[i] :: l.drop (i + 1)) = rep44 id (l.drop (i + 1)) := by
        have h0' : ¬ l[i].f0 = id := h0
        simp [rep44, h0']
      simp only [hr, if_neg h0]
      exact hn
theorem reply_from (id : Int) (w : List S44) (hs : ∀ x ∈ w, x.f3.length ≤ 30) (hw : w.length ≤ 30) : ∀ (d i : Nat), i + d = w.length →
    ((idxFrom31 (fun y => idB y id false) (w.drop i) i = -1 ∧ rep44 id (w.drop i) = ([], 4)) ∨ ∃ (k : Nat) (hk : k < w.length), idxFrom31 (fun y => idB y id false) (w.drop i) i = (k : Int) ∧ rep44 id (w.drop i) = if w[k].f2 = true then (w[k].f3, 0) else ([], 8)) := by
  intro d
  induction d with
  | zero =>
    intro i hi
    rw [List.drop_of_length_le (by omega)]
    exact .inl ⟨rfl, rfl⟩
  | succ d ih =>
    intro i hi
    have hlt : i < w.length := by omega
    rw [List.drop_eq_getElem_cons hlt]
    simp only [idxFrom31, rep44, idB_false]
    by_cases h0 : w[i].f0 = id
    · refine .inr ⟨i, hlt, by simp [h0], by simp only [if_pos h0]⟩
    · simp only [decide_eq_false h0, if_neg (show ¬ (false = true) by decide), if_neg h0]
      have hn := ih (i + 1) (by omega)
      simp only [idB_false] at hn
      exact hn
theorem reply_both {l : List S44} (hl : l.length ≤ 30) (hs : ∀ x ∈ l, SmallE x.f1 ∧ SmallE x.f3) (id : Int) :
    ∃ (r : List (List Int)) (e : Int) (kk : Nat), hall_Reply.f l id = some (r, e) ∧ switchboardref24_Reply.f kk (l.map conv) id = some (r, e) ∧ r.length ≤ 60 ∧ ∀ x ∈ r, x.length ≤ 60 := by
  obtain ⟨kk, hk⟩ := (reply24_ev id l hl l.length 0 (by omega)).rounds
  have hf : ∀ x ∈ l, x.f3.length ≤ 30 := fun x hx => (hs x hx).2.few.1
  have hq := reply_from id l hf hl l.length 0 (by omega)
  rw [List.drop_zero] at hq hk
  unfold hall_Reply.f hall_find.f
  simp only [Option.bind_some]
  rcases hq with ⟨e1, e2⟩ | ⟨k, hkl, e1, e2⟩
  · rw [e2] at hk
    refine ⟨[], 4, kk, ?_, hk, by simp, by simp⟩
    simp only [e1, if_pos (show (-1 : Int) < 0 by decide)]
  · rw [e2] at hk
    simp only [e1, if_neg (show ¬ ((k : Nat) : Int) < 0 by omega), if_pos (show (0 : Int) ≤ ((k : Nat) : Int) by omega), if_pos (show ((k : Nat) : Int) < (l.length : Int) by omega), rd44 hkl]
    cases hb : l[k].f2
    · rw [hb, if_neg (by decide)] at hk
      simp only [if_neg (show ¬ (false = true) by decide)]
      exact ⟨_, _, kk, rfl, hk, by simp, by simp⟩
    · rw [hb, if_pos rfl] at hk
      have h3 := (hs _ (List.getElem_mem hkl)).2.few
      simp only [if_true, cloneT_f (show l[k].f3.length < 5864062014805 by have := h3.1; omega), Option.bind_some]
      exact ⟨_, _, kk, rfl, hk, by have := h3.1; omega, fun x hx => by have := h3.2 x hx; omega⟩


end Go.Proofs.YtlbkfeelkdombaaDoor.Pp
