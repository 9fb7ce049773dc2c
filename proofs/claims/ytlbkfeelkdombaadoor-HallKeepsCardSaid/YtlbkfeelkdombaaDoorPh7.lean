/- Own text, by hand: what HallKeeps' arrays tell, as plain functions. -/
import Derived.Test.YtlbkfeelkdombaaDoorPh0
import Derived.Test.YtlbkfeelkdombaaDoorPh1
import Derived.Test.YtlbkfeelkdombaaDoorPh2
import Derived.Test.YtlbkfeelkdombaaDoorPh3
import Derived.Test.YtlbkfeelkdombaaDoorPh4
import Derived.Test.YtlbkfeelkdombaaDoorPh5
namespace Go.Proofs.YtlbkfeelkdombaaDoor.Ph
open Go.RowKit Go.Proofs.YtlbkfeelkdombaaDoorW.PrintWords Go.Proofs.YtlbkfeelkdombaaDoorW.PrintLast Go.Proofs.YtlbkfeelkdombaaDoorW.PrintMore
attribute [local go_sem] max2_int min2_int max_two min_two max_three min_three max_four min_four
set_option linter.unusedVariables false
set_option linter.unusedSimpArgs false

/-- An array's cells. -/
def bcells (xs : List Bool) : Array Value := (xs.map (fun x => Value.bool x)).toArray
theorem bcells_get {xs : List Bool} {j : Nat} (h : j < xs.length) : (bcells xs)[j]? = some (.bool (xs.getD j false)) := by
  unfold bcells
  simp [h]
theorem bcells_set (xs : List Bool) (j : Nat) (x : Bool) : (bcells xs).setIfInBounds j (.bool x) = bcells (xs.set j x) := by
  unfold bcells
  rw [List.map_set]
  simp
theorem getD_set_at (xs : List Bool) {t : Nat} (h : t < xs.length) (x : Bool) : (xs.set t x).getD t false = x := by
  rw [List.getD_eq_getElem?_getD, List.getElem?_set_self h]
  rfl
theorem getD_set_far (xs : List Bool) {s t : Nat} (h : s ≠ t) (x : Bool) : (xs.set t x).getD s false = xs.getD s false := by
  rw [List.getD_eq_getElem?_getD, List.getD_eq_getElem?_getD, List.getElem?_set_ne (by omega)]
/-- What the two arrays tell of the hall. -/
structure KInv (l : List S44) (op dn : List Bool) : Prop where
  lop : op.length = 9
  ldn : dn.length = 9
  row : ∀ y ∈ l, ∃ t : Nat, 1 ≤ t ∧ t ≤ 8 ∧ y.f0 = (t : Int) ∧ op.getD t false = !y.f2 ∧ dn.getD t false = y.f2 ∧ (y.f2 = true → y.f3 = [[100 + (t : Int)]])
  no : ∀ t : Nat, 1 ≤ t → t ≤ 8 → (∀ y ∈ l, y.f0 ≠ (t : Int)) → op.getD t false = false ∧ dn.getD t false = false
  nd : (l.map (·.f0)).Nodup
theorem KInv.start : KInv [] (List.replicate 9 false) (List.replicate 9 false) := by
  refine ⟨List.length_replicate, List.length_replicate, fun y hy => (by cases hy), fun t _ h8 _ => ?_, List.nodup_nil⟩
  rw [List.getD_eq_getElem?_getD, List.getElem?_replicate, if_pos (by omega)]
  exact ⟨rfl, rfl⟩
theorem KInv.at_ {l : List S44} {op dn : List Bool} (h : KInv l op dn) {y : S44} (hy : y ∈ l) {t : Nat} (e : y.f0 = (t : Int)) : op.getD t false = (!y.f2) ∧ dn.getD t false = y.f2 ∧ (y.f2 = true → y.f3 = [[100 + (t : Int)]]) := by
  obtain ⟨s, _, _, h3, h4, h5, h6⟩ := h.row y hy
  obtain rfl : s = t := by omega
  exact ⟨h4, h5, h6⟩
theorem open_append (a b : List S44) : openOf (a ++ b) = openOf a ++ openOf b := by simp [openOf]
theorem reason_z (z : Int) (h1 : 1 ≤ z) (h8 : z ≤ 8) : hall_Reason.f 1 [tinyY] [[z]] = some 0 := by
  have : z = 1 ∨ z = 2 ∨ z = 3 ∨ z = 4 ∨ z = 5 ∨ z = 6 ∨ z = 7 ∨ z = 8 := by omega
  rcases this with h | h | h | h | h | h | h | h
  all_goals (clear h1 h8; subst h; show hall_Reason.f 1 [tinyY] [[_]] = some 0; kernel_rfl)
theorem KInv.admit {l : List S44} {op dn : List Bool} (h : KInv l op dn) (hl : l.length < 1000) {m : Nat} (h1 : 1 ≤ m) (h8 : m ≤ 8) :
    ∃ (kk : Nat) (l' : List S44) (e : Int), hall_Admit.f kk l 1 [tinyY] (m : Int) [[(m : Int)]] = some (l', e) ∧
      ((e = 5 ∧ l' = l ∧ (op.getD m false = true ∧ dn.getD m false = false ∨ op.getD m false = false ∧ dn.getD m false = true)) ∨ (e = 8 ∧ l' = l ∧ op.getD m false = false ∧ dn.getD m false = false ∧ 4 ≤ (openOf l).length) ∨
       (e = 0 ∧ op.getD m false = false ∧ dn.getD m false = false ∧ (openOf l).length < 4 ∧ l'.length = l.length + 1 ∧ KInv l' (op.set m true) dn ∧ (openOf l').length = (openOf l).length + 1)) := by
  have hr := reason_z (m : Int) (by omega) (by omega)
  obtain ⟨kk, ha⟩ := (admit_ev l hl (id := (m : Int)) (x := (m : Int)) (by omega) (by omega) hr).rounds
  by_cases he : ∃ y ∈ l, y.f0 = (m : Int)
  · rw [if_pos he] at ha
    obtain ⟨y, hy, e⟩ := he
    obtain ⟨h4, h5, _⟩ := h.at_ hy e
    refine ⟨kk, l, 5, ha, .inl ⟨rfl, rfl, ?_⟩⟩
    cases hb : y.f2
    · exact .inl ⟨by rw [h4, hb]; rfl, by rw [h5, hb]⟩
    · exact .inr ⟨by rw [h4, hb]; rfl, by rw [h5, hb]⟩
  · rw [if_neg he] at ha
    have hno : ∀ y ∈ l, y.f0 ≠ (m : Int) := fun y hy e => he ⟨y, hy, e⟩
    obtain ⟨n1, n2⟩ := h.no m h1 h8 hno
    by_cases h4 : 4 ≤ (openOf l).length
    · rw [if_pos h4] at ha
      exact ⟨kk, l, 8, ha, .inr (.inl ⟨rfl, rfl, n1, n2, h4⟩)⟩
    · rw [if_neg h4] at ha
      refine ⟨kk, _, 0, ha, .inr (.inr ⟨rfl, n1, n2, by omega, by simp, ⟨by simpa using h.lop, h.ldn, ?_, ?_, ?_⟩, by rw [open_append]; simp [openOf, mkE]⟩)⟩
      · intro y hy
        rcases List.mem_append.1 hy with hy | hy
        · obtain ⟨t, t1, t8, e, a, b, c⟩ := h.row y hy
          have hne : t ≠ m := fun e' => hno y hy (by rw [e, e'])
          exact ⟨t, t1, t8, e, by rw [getD_set_far _ hne]; exact a, b, c⟩
        · rw [List.mem_singleton] at hy
          subst hy
          exact ⟨m, h1, h8, rfl, getD_set_at _ (by rw [h.lop]; omega) _, n2, fun hc => by cases hc⟩
      · intro t t1 t8 ht
        have hne : t ≠ m := fun e' => ht (mkE m m) (by simp) (by rw [e']; rfl)
        obtain ⟨a, b⟩ := h.no t t1 t8 (fun y hy => ht y (by simp [hy]))
        exact ⟨by rw [getD_set_far _ hne]; exact a, b⟩
      · rw [List.map_append]
        refine List.nodup_append.2 ⟨h.nd, by simp, ?_⟩
        intro a ha b hb hab
        simp [mkE] at hb
        obtain ⟨y, hy, e⟩ := List.mem_map.1 ha
        exact hno y hy (by rw [e, hab, hb])
theorem open_set {l : List S44} {k : Nat} (hk : k < l.length) {y : S44} (h1 : l[k].f2 = false) (h2 : y.f2 = true) : (openOf (l.set k y)).length + 1 = (openOf l).length := by
  induction l generalizing k with
  | nil => simp at hk
  | cons x r ih =>
    cases k with
    | zero =>
      simp only [List.getElem_cons_zero] at h1
      rw [List.set_cons_zero, open_cons_yes h2, open_cons_no h1]
      simp
    | succ k =>
      simp only [List.getElem_cons_succ] at h1
      have := ih (by simpa using hk) h1
      rw [List.set_cons_succ]
      cases hb : x.f2
      · rw [open_cons_no hb, open_cons_no hb]
        simp
        omega
      · rw [open_cons_yes hb, open_cons_yes hb]
        exact this
theorem KInv.finish {l : List S44} {op dn : List Bool} (h : KInv l op dn) (hl : l.length < 1000) {m : Nat} (h1 : 1 ≤ m) (h8 : m ≤ 8) :
    ∃ (l' : List S44) (e : Int), hall_Finish.f l (m : Int) [[100 + (m : Int)]] = some (l', e) ∧ l'.length = l.length ∧
      ((e = 4 ∧ l' = l ∧ op.getD m false = false) ∨ (e = 0 ∧ op.getD m false = true ∧ KInv l' (op.set m false) (dn.set m true) ∧ (openOf l').length + 1 = (openOf l).length)) := by
  by_cases he : ∃ y ∈ l, y.f0 = (m : Int) ∧ y.f2 = false
  · obtain ⟨k, hk, e1, e2, _, e4⟩ := finish_some hl (t := [[100 + (m : Int)]]) (by simp) he
    have hmem := List.getElem_mem hk
    obtain ⟨a4, a5, _⟩ := h.at_ hmem e1
    have hids : (l.set k (⟨l[k].f0, l[k].f1, true, [[100 + (m : Int)]]⟩ : S44)).map (·.f0) = l.map (·.f0) := by
      apply List.ext_getElem
      · simp
      · intro i h1 h2
        simp only [List.getElem_map, List.getElem_set]
        split
        · next h => subst h; rfl
        · rfl
    have huniq : ∀ (j : Nat) (hj : j < l.length), l[j].f0 = (m : Int) → j = k := by
      intro j hj e
      have := h.nd
      rw [List.nodup_iff_pairwise_ne, List.pairwise_iff_getElem] at this
      rcases Nat.lt_trichotomy j k with hlt | heq | hgt
      · have h_ := this j k (by simpa using hj) (by simpa using hk) hlt
        simp only [List.getElem_map] at h_
        exact absurd (e.trans e1.symm) h_
      · exact heq
      · have h_ := this k j (by simpa using hk) (by simpa using hj) hgt
        simp only [List.getElem_map] at h_
        exact absurd (e1.trans e.symm) h_
    refine ⟨_, 0, e4, by simp, .inr ⟨rfl, by rw [a4, e2]; rfl, ⟨by simpa using h.lop, by simpa using h.ldn, ?_, ?_, by rw [hids]; exact h.nd⟩, open_set hk e2 rfl⟩⟩
    · intro y hy
      obtain ⟨j, hj, hjy⟩ := List.getElem_of_mem hy
      rw [List.length_set] at hj
      by_cases hjk : k = j
      · subst hjk
        rw [List.getElem_set_self] at hjy
        subst hjy
        exact ⟨m, h1, h8, e1, getD_set_at _ (by rw [h.lop]; omega) _, getD_set_at _ (by rw [h.ldn]; omega) _, fun _ => rfl⟩
      · rw [List.getElem_set_ne hjk] at hjy
        obtain ⟨t, t1, t8, e, a, b, c⟩ := h.row y (by rw [← hjy]; exact List.getElem_mem hj)
        have hne : t ≠ m := fun e' => hjk (huniq j hj (by rw [hjy, e, e'])).symm
        exact ⟨t, t1, t8, e, by rw [getD_set_far _ hne]; exact a, by rw [getD_set_far _ hne]; exact b, c⟩
    · intro t t1 t8 ht
      have hid : ∀ y ∈ l, y.f0 ≠ (t : Int) := by
        intro y hy e
        have : (t : Int) ∈ (l.set k (⟨l[k].f0, l[k].f1, true, [[100 + (m : Int)]]⟩ : S44)).map (·.f0) := by rw [hids]; exact List.mem_map.2 ⟨y, hy, e⟩
        obtain ⟨z, hz, e'⟩ := List.mem_map.1 this
        exact ht z hz e'
      have hne : t ≠ m := fun e' => hid _ hmem (by rw [e1, e'])
      rw [getD_set_far _ hne, getD_set_far _ hne]
      exact h.no t t1 t8 hid
  · refine ⟨l, 4, finish_none he, rfl, .inl ⟨rfl, rfl, ?_⟩⟩
    by_cases hm : ∃ y ∈ l, y.f0 = (m : Int)
    · obtain ⟨y, hy, e⟩ := hm
      have hb : y.f2 = true := by
        cases hb : y.f2
        · exact absurd ⟨y, hy, e, hb⟩ he
        · rfl
      rw [(h.at_ hy e).1, hb]
      rfl
    · exact (h.no m h1 h8 (fun y hy e => hm ⟨y, hy, e⟩)).1
theorem KInv.reply {l : List S44} {op dn : List Bool} (h : KInv l op dn) {n : Nat} (h1 : 1 ≤ n) (h8 : n ≤ 8) :
    ∃ (r : List (List Int)) (e : Int), hall_Reply.f l (n : Int) = some (r, e) ∧
      ((op.getD n false = false ∧ dn.getD n false = true ∧ e = 0 ∧ r = [[100 + (n : Int)]]) ∨ (op.getD n false = true ∧ dn.getD n false = false ∧ e = 8 ∧ r = []) ∨ (op.getD n false = false ∧ dn.getD n false = false ∧ e = 4 ∧ r = [])) := by
  unfold hall_Reply.f hall_find.f
  simp only [Option.bind_some]
  by_cases he : ∃ y ∈ l, y.f0 = (n : Int)
  · obtain ⟨k, hk, e, e1, _⟩ := idx_first (fun y => idB y (n : Int) false) l 0 (by obtain ⟨y, hy, e⟩ := he; exact ⟨y, hy, by rw [idB_false]; exact decide_eq_true e⟩)
    rw [idB_false, decide_eq_true_eq] at e1
    rw [Nat.zero_add] at e
    simp only [e, if_neg (show ¬ ((k : Nat) : Int) < 0 by omega), if_pos (show (0 : Int) ≤ ((k : Nat) : Int) by omega), if_pos (show ((k : Nat) : Int) < (l.length : Int) by omega), rd44 hk]
    obtain ⟨a, b, c⟩ := h.at_ (List.getElem_mem hk) e1
    cases hb : l[k].f2
    · simp only [if_neg (show ¬ (false = true) by decide)]
      exact ⟨_, _, rfl, .inr (.inl ⟨by rw [a, hb]; rfl, by rw [b, hb], rfl, rfl⟩)⟩
    · simp only [if_true, cloneT_f (show l[k].f3.length < 5864062014805 by rw [c hb]; simp), Option.bind_some]
      exact ⟨_, _, rfl, .inl ⟨by rw [a, hb]; rfl, by rw [b, hb], rfl, c hb⟩⟩
  · have e : idxFrom31 (fun y => idB y (n : Int) false) l 0 = -1 := idx_none _ _ _ (fun y hy => by rw [idB_false]; exact decide_eq_false (fun e => he ⟨y, hy, e⟩))
    simp only [e, if_pos (show (-1 : Int) < 0 by decide)]
    obtain ⟨a, b⟩ := h.no n h1 h8 (fun y hy e => he ⟨y, hy, e⟩)
    exact ⟨_, _, rfl, .inr (.inr ⟨a, b, rfl, rfl⟩)⟩
/-- The hall's variable and the two arrays in memory. -/
structure KW (w W : World) (hc : Value) (op dn : List Bool) : Prop where
  hb : Below w.heap.size w W
  h : W.heap[w.heap.size]? = some (.cells #[hc] 24 (0, 0))
  o : W.heap[w.heap.size + 1]? = some (.cells (bcells op) 51 (0, 0))
  d : W.heap[w.heap.size + 1 + 1]? = some (.cells (bcells dn) 51 (0, 0))
theorem KW.below {w W W' : World} {hc : Value} {op dn : List Bool} (h : KW w W hc op dn) (hb : Below W.heap.size W W') : KW w W' hc op dn := ⟨below_step h.hb hb, blk_below h.h hb, blk_below h.o hb, blk_below h.d hb⟩
theorem KW.size {w W : World} {hc : Value} {op dn : List Bool} (h : KW w W hc op dn) : w.heap.size + 3 ≤ W.heap.size := by
  have := blk_lt h.d
  omega
theorem far_at {W : World} {g i : Nat} (j : Nat) (u : Value) (h : i ≠ g) : (W.setCell ⟨g, j, none⟩ u).heap[i]? = W.heap[i]? := Below.heap_setCell W ⟨g, j, none⟩ u i h
theorem KW.far {w W : World} {hc : Value} {op dn : List Bool} (h : KW w W hc op dn) {g : Nat} (j : Nat) (u : Value) (hg : w.heap.size + 3 ≤ g) : KW w (W.setCell ⟨g, j, none⟩ u) hc op dn := ⟨below_set h.hb (by omega), (far_at j u (by omega)).trans h.h, (far_at j u (by omega)).trans h.o, (far_at j u (by omega)).trans h.d⟩
theorem KW.puth {w W : World} {hc : Value} {op dn : List Bool} (h : KW w W hc op dn) (u : Value) : KW w (W.setCell ⟨w.heap.size, 0, none⟩ u) u op dn := ⟨below_set h.hb (Nat.le_refl _), blk_put h.h 0 u rfl, (far_at 0 u (by omega)).trans h.o, (far_at 0 u (by omega)).trans h.d⟩
theorem KW.puto {w W : World} {hc : Value} {op dn : List Bool} (h : KW w W hc op dn) (j : Nat) (x : Bool) : KW w (W.setCell ⟨w.heap.size + 1, j, none⟩ (.bool x)) hc (op.set j x) dn := ⟨below_set h.hb (by omega), (far_at j _ (by omega)).trans h.h, blk_put h.o j _ (bcells_set op j x), (far_at j _ (by omega)).trans h.d⟩
theorem KW.putd {w W : World} {hc : Value} {op dn : List Bool} (h : KW w W hc op dn) (j : Nat) (x : Bool) : KW w (W.setCell ⟨w.heap.size + 1 + 1, j, none⟩ (.bool x)) hc op (dn.set j x) := ⟨below_set h.hb (by omega), (far_at j _ (by omega)).trans h.h, (far_at j _ (by omega)).trans h.o, blk_put h.d j _ (bcells_set dn j x)⟩


end Go.Proofs.YtlbkfeelkdombaaDoor.Ph
