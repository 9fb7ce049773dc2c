/- Proved here: what is found in any ledger, and entered, is what the document tells (all ledgers, keys and rows; past 60 entries of 30 numbers the fixed answer alone). No condition. -/
import Derived.Test.YtcbngoldidhfmaaPr5
namespace Go.Proofs.Ytcbngoldidhfmaa.Pure
open Go.RowKit Go.Proofs.Ytcbngoldidhfmaa.Pr Go.Proofs.YtcbngoldidhfmaaW.PrintWords Go.Proofs.YtcbngoldidhfmaaW.PrintLast Go.Proofs.YtcbngoldidhfmaaW.PrintMore
set_option linter.unusedVariables false
set_option linter.unusedSimpArgs false

def LedgerExactPure : Prop := ∀ (l0 : List S29) (a1_0 : Int) (a1_1 : Int) (a1_2 : Int) (a1_3 : Int) (l2 : List Int), l0.length ≤ maxLen → (∀ y ∈ l0, (((Lit.int .i64 y.f0.f0).wf = true) ∧ ((Lit.int .i64 y.f0.f1).wf = true) ∧ ((Lit.int .i64 y.f0.f2).wf = true) ∧ ((Lit.int .i64 y.f0.f3).wf = true)) ∧ (y.f1.length ≤ maxLen ∧ ∀ y1 ∈ y.f1, (Lit.int .i64 y1).wf = true)) → ((Lit.int .i64 a1_0).wf = true) → ((Lit.int .i64 a1_1).wf = true) → ((Lit.int .i64 a1_2).wf = true) → ((Lit.int .i64 a1_3).wf = true) → l2.length ≤ maxLen → (∀ y ∈ l2, (Lit.int .i64 y).wf = true) → ∃ k, switchboardlaw12_LedgerExact.f k l0 a1_0 a1_1 a1_2 a1_3 l2 = some true

theorem wrap_small {i : Int} (h0 : -9223372036854775808 ≤ i) (h1 : i < 9223372036854775808) : wrap64 i = i := by
  unfold wrap64
  omega

theorem ev_rounds {g : Nat → Option Bool} (h : Ev g true) : ∃ k, g k = some true := h.rounds
theorem ev_shift {α : Type} {g : Nat → Option α} {r : α} (h : Ev (fun k => g (k + 1)) r) : Ev g r := Ev.step (fun _ => rfl) h

theorem rd_get {v : List Int} {i : Int} (h0 : 0 ≤ i) (h1 : i < v.length) : ∃ h : i.toNat < v.length, rd v i = v[i.toNat]'h := by
  refine ⟨by omega, ?_⟩
  unfold rd
  rw [List.getD_eq_getElem?_getD, List.getElem?_eq_getElem (by omega)]
  rfl

theorem take_rd {v : List Int} {i : Nat} (h : i < v.length) : v.take i ++ [rd v i] = v.take (i + 1) := by
  obtain ⟨h', e⟩ := rd_get (v := v) (i := (i : Int)) (by omega) (by omega)
  rw [e]
  simp only [Int.toNat_natCast]
  rw [List.take_succ_eq_append_getElem h]

theorem rd_append_left {a b : List Int} {i : Int} (h0 : 0 ≤ i) (h1 : i < a.length) : rd (a ++ b) i = rd a i := by
  unfold rd
  rw [List.getD_eq_getElem?_getD, List.getD_eq_getElem?_getD, List.getElem?_append_left (by omega)]

theorem rd_append_right {a b : List Int} {i : Int} (h0 : 0 ≤ i) : rd (a ++ b) ((a.length : Int) + i) = rd b i := by
  unfold rd
  rw [List.getD_eq_getElem?_getD, List.getD_eq_getElem?_getD, List.getElem?_append_right (by omega)]
  congr 2
  omega

theorem rd_map {v : List Int} (f : Int → Int) {i : Int} (h0 : 0 ≤ i) (h1 : i < v.length) : rd (v.map f) i = f (rd v i) := by
  obtain ⟨h, e⟩ := rd_get h0 h1
  obtain ⟨h', e'⟩ := rd_get (v := v.map f) h0 (by simpa using h1)
  rw [e, e']
  simp

theorem rd_mem {v : List Int} {i : Int} (h0 : 0 ≤ i) (h1 : i < v.length) : rd v i ∈ v := by
  obtain ⟨h, e⟩ := rd_get h0 h1
  rw [e]
  exact List.getElem_mem h

theorem rd_ext {a b : List Int} (hl : a.length = b.length) (h : ∀ i : Nat, i < a.length → rd a i = rd b i) : a = b := by
  refine List.ext_getElem hl fun i h1 h2 => ?_
  obtain ⟨_, e⟩ := rd_get (v := a) (i := (i : Int)) (by omega) (by omega)
  obtain ⟨_, e'⟩ := rd_get (v := b) (i := (i : Int)) (by omega) (by omega)
  have := h i h1
  rw [e, e'] at this
  simpa using this
theorem same_l0 (a : List Int) (hn : a.length ≤ 9223372036854775806) : ∀ (d i : Nat), i + d = a.length →
    Ev (fun k => switchboardref02_Same.l0 k a a i) true := by
  intro d
  induction d with
  | zero =>
    intro i hi
    refine Ev.step (f := fun _ => some _) (fun k => ?_) (Ev.now _)
    simp only [switchboardref02_Same.l0]
    rw [if_neg (by omega)]
  | succ d ih =>
    intro i hi
    have hw : wrap64 ((i : Int) + 1) = ((i + 1 : Nat) : Int) := by rw [wrap_small (by omega) (by omega)]; omega
    refine Ev.step (fun k => ?_) (ih (i + 1) (by omega))
    simp only [switchboardref02_Same.l0, if_true]
    rw [if_pos (by omega), if_pos (by omega), if_pos (by omega), hw]
theorem same_refl (a : List Int) (hn : a.length ≤ 9223372036854775806) : Ev (fun k => switchboardref02_Same.f k a a) true := by
  unfold switchboardref02_Same.f
  simp only [if_true]
  exact same_l0 a hn a.length 0 (by omega)
theorem same_ev {a b : List Int} (h : a = b) (hn : a.length ≤ 9223372036854775806) : Ev (fun k => switchboardref02_Same.f k a b) true := by
  subst h
  exact same_refl a hn

theorem awake_f : switchboardlaw12_awake.f = some true := by decide +kernel
theorem awake2 : Ev (fun _ => (switchboardlaw12_awake.f).bind fun t => some t) true := by
  rw [awake_f]
  exact Ev.now true
theorem idx_none {α : Type} (p : α → Bool) : ∀ (l : List α) (i : Nat), idxFrom12 p l i = -1 → ∀ x ∈ l, p x = false := by
  intro l
  induction l with
  | nil => intro _ _ x hx; cases hx
  | cons y r ih =>
    intro i h x hx
    by_cases hy : p y = true
    · simp only [idxFrom12, if_pos hy] at h
      omega
    · have hs : idxFrom12 p (y :: r) i = idxFrom12 p r (i + 1) := by simp only [idxFrom12]; rw [if_neg hy]
      rw [hs] at h
      rcases List.mem_cons.1 hx with rfl | hx
      · exact Bool.eq_false_iff.mpr hy
      · exact ih (i + 1) h x hx
theorem idx_some {α : Type} (p : α → Bool) (l : List α) {x : α} (hx : x ∈ l) (hp : p x = true) : ∃ k, k < l.length ∧ idxFrom12 p l 0 = (k : Int) := by
  rcases idxSpec9 p l 0 with h | ⟨k, hk, h⟩
  · rw [idx_none p l 0 h x hx] at hp
    cases hp
  · exact ⟨k, hk, by rw [h, Nat.zero_add]⟩
theorem cloneI_f {l : List Int} (h : l.length < 17592186044416) : slices_Clone_int_int.f l = some l := by
  unfold slices_Clone_int_int.f
  simp only [Option.bind_some, List.length_nil, Nat.zero_add, List.nil_append, if_pos h]
theorem rdE_get {l : List S29} {i : Nat} (h : i < l.length) : rd_T29 l i = l[i] := by
  unfold rd_T29
  rw [Int.toNat_natCast, List.getD_eq_getElem?_getD, List.getElem?_eq_getElem h]
  rfl
theorem find_hit {l : List S29} (hs : ∀ x ∈ l, x.f1.length ≤ 30) {x : S29} (hx : x ∈ l) : ∃ v, ledger_Find.f l x.f0.f0 x.f0.f1 x.f0.f2 x.f0.f3 = some (v, true) := by
  obtain ⟨k, hk, e⟩ := idx_some (fun y => keyB y x.f0.f0 x.f0.f1 x.f0.f2 x.f0.f3) l hx (by simp [keyB])
  unfold ledger_Find.f
  rw [e, if_neg (by omega), rdE_get hk, cloneI_f (by have := hs l[k] (List.getElem_mem hk); omega)]
  exact ⟨_, rfl⟩
theorem enter_hit {l : List S29} (hs : ∀ x ∈ l, x.f1.length ≤ 30) {x : S29} (hx : x ∈ l) (v : List Int) : ledger_Enter.f l x.f0.f0 x.f0.f1 x.f0.f2 x.f0.f3 v = some (l, false) := by
  obtain ⟨w, h⟩ := find_hit hs hx
  unfold ledger_Enter.f
  simp only [h, Option.bind_some, if_true]

def cvE (x : S29) : S32 := ⟨⟨x.f0.f0, x.f0.f1, x.f0.f2, x.f0.f3⟩, x.f1⟩
theorem rdF_map {l : List S29} {i : Nat} (h : i < l.length) : rd_T32 (l.map cvE) i = cvE l[i] := by
  unfold rd_T32
  rw [Int.toNat_natCast, List.getD_eq_getElem?_getD, List.getElem?_eq_getElem (by rw [List.length_map]; exact h)]
  simp
def pk (a b c d : Int) : S29 → Bool := fun x => keyB x a b c d
theorem refFind_l0 (l : List S29) (a b c d : Int) (hn : l.length ≤ 60) : ∀ (e i : Nat), i + e = l.length →
    Ev (fun k => switchboardref12_Find.l0 k (l.map cvE) i a b c d) (idxFrom12 (pk a b c d) (l.drop i) i) := by
  intro e
  induction e with
  | zero =>
    intro i hi
    refine ev_shift ?_
    rw [List.drop_eq_nil_of_le (by omega)]
    simp only [switchboardref12_Find.l0, List.length_map, if_neg (show ¬ (i : Int) < (l.length : Int) by omega), idxFrom12]
    exact Ev.now _
  | succ e ih =>
    intro i hi
    have hlt : i < l.length := by omega
    have hw : wrap64 ((i : Int) + 1) = ((i + 1 : Nat) : Int) := by rw [wrap_small (by omega) (by omega)]; omega
    refine ev_shift ?_
    rw [List.drop_eq_getElem_cons hlt]
    simp only [switchboardref12_Find.l0, List.length_map, if_pos (show (i : Int) < (l.length : Int) by omega), if_pos (show (0 : Int) ≤ (i : Int) by omega), rdF_map hlt, hw, idxFrom12]
    have hp : ((cvE l[i]).f0.f0 == a && ((cvE l[i]).f0.f1 == b && ((cvE l[i]).f0.f2 == c && ((cvE l[i]).f0.f3 == d)))) = pk a b c d l[i] := rfl
    rw [hp]
    by_cases h : pk a b c d l[i] = true
    · simp only [if_pos h]
      exact Ev.now _
    · simp only [if_neg h]
      exact ih (i + 1) (by omega)
theorem refFind_ev (l : List S29) (a b c d : Int) (hn : l.length ≤ 60) : Ev (fun k => switchboardref12_Find.f k (l.map cvE) a b c d) (idxFrom12 (pk a b c d) l 0) := by
  unfold switchboardref12_Find.f
  exact refFind_l0 l a b c d hn l.length 0 (by omega)
theorem cloneE_f {l : List S29} (h : l.length < 2513169434916) : ledger_Entry_15.f l = some l := by
  unfold ledger_Entry_15.f
  simp only [Option.bind_some, List.length_nil, Nat.zero_add, List.nil_append, if_pos h]
theorem exact_l1 (l m : List S29) (v : List Int) (a b c d : Int) (hn : l.length ≤ 60) (hs : ∀ x ∈ l, x.f1.length ≤ 30) (hv : v.length ≤ 30) (hm : m = l ∨ m = l ++ [⟨⟨a, b, c, d⟩, v⟩]) : ∀ (e i : Nat), i + e = m.length →
    Ev (fun k => switchboardlaw12_LedgerExact.l1 k l v m (m.length : Int) i a b c d) true := by
  have hml : m.length ≤ l.length + 1 := by
    rcases hm with rfl | rfl
    · omega
    · simp
  intro e
  induction e with
  | zero =>
    intro i hi
    refine ev_shift ?_
    simp only [switchboardlaw12_LedgerExact.l1, if_neg (show ¬ (i : Int) < (m.length : Int) by omega)]
    exact awake2
  | succ e ih =>
    intro i hi
    have hlt : i < m.length := by omega
    have hw : wrap64 ((i : Int) + 1) = ((i + 1 : Nat) : Int) := by rw [wrap_small (by omega) (by omega)]; omega
    refine ev_shift ?_
    by_cases h : i < l.length
    · have hr : m[i] = l[i] := by
        rcases hm with rfl | rfl
        · rfl
        · rw [List.getElem_append_left h]
      have e4 : (!(l[i].f0.f0 == l[i].f0.f0) || (!(l[i].f0.f1 == l[i].f0.f1) || (!(l[i].f0.f2 == l[i].f0.f2) || (!(l[i].f0.f3 == l[i].f0.f3))))) = false := by simp
      simp only [switchboardlaw12_LedgerExact.l1, if_pos (show (i : Int) < (m.length : Int) by omega), if_pos (show (0 : Int) ≤ (i : Int) by omega), if_pos (show (i : Int) < (l.length : Int) by omega), rdE_get hlt, rdE_get h, hr, e4, if_neg (show ¬ (false = true) by decide), if_neg (show ¬ (i : Int) = (l.length : Int) by omega), hw]
      refine Ev.bind (same_refl _ (by have := hs l[i] (List.getElem_mem h); omega)) ?_
      simp only [if_true]
      exact ih (i + 1) (by omega)
    · have hi2 : i = l.length := by omega
      have hr : m[i] = ⟨⟨a, b, c, d⟩, v⟩ := by
        rcases hm with rfl | rfl
        · omega
        · subst hi2
          simp
      have e4 : (!(a == a) || (!(b == b) || (!(c == c) || (!(d == d))))) = false := by simp
      simp only [switchboardlaw12_LedgerExact.l1, if_pos (show (i : Int) < (m.length : Int) by omega), if_pos (show (0 : Int) ≤ (i : Int) by omega), if_neg (show ¬ (i : Int) < (l.length : Int) by omega), rdE_get hlt, hr, e4, if_neg (show ¬ (false = true) by decide), if_pos (show (i : Int) = (l.length : Int) by omega), hw]
      refine Ev.bind (same_refl _ (by omega)) ?_
      simp only [if_true]
      exact ih (i + 1) (by omega)
theorem exact_j3 (l m : List S29) (v : List Int) (a b c d : Int) (hn : l.length ≤ 60) (hs : ∀ x ∈ l, x.f1.length ≤ 30) (hv : v.length ≤ 30) (hm : m = l ∨ m = l ++ [⟨⟨a, b, c, d⟩, v⟩]) :
    Ev (fun k => switchboardlaw12_LedgerExact.j3 k l v m false a b c d) true := by
  refine ev_shift ?_
  simp only [switchboardlaw12_LedgerExact.j3, if_neg (show ¬ (false = true) by decide)]
  exact exact_l1 l m v a b c d hn hs hv hm m.length 0 (by omega)
theorem exact_end (l : List S29) (v : List Int) (a b c d : Int) (hn : l.length ≤ 60) (hs : ∀ x ∈ l, x.f1.length ≤ 30) (hv : v.length ≤ 30) :
    Ev (fun k => (switchboardref12_Find.f k (l.map cvE) a b c d).bind fun t158 => ((ledger_Find.f l a b c d).bind fun bt159 => ((ledger_Enter.f l a b c d v).bind fun bt163 => (if t158 < 0 then (switchboardlaw12_LedgerExact.j2 k l v t158 bt159.1 bt159.2 bt163.1 bt163.2 (wrap64 ((l.length : Int) + 1)) a b c d) else (switchboardlaw12_LedgerExact.j2 k l v t158 bt159.1 bt159.2 bt163.1 bt163.2 (l.length : Int) a b c d))))) true := by
  refine Ev.bind (refFind_ev l a b c d hn) ?_
  rcases idxSpec9 (pk a b c d) l 0 with h | ⟨q, hq, h⟩
  · have hf : ledger_Find.f l a b c d = some ([], false) := by
      unfold ledger_Find.f
      rw [show (fun x => keyB x a b c d) = pk a b c d from rfl, h]
      rfl
    have he : ledger_Enter.f l a b c d v = some (l ++ [⟨⟨a, b, c, d⟩, v⟩], true) := by
      unfold ledger_Enter.f
      simp only [hf, Option.bind_some, if_neg (show ¬ (false = true) by decide), cloneE_f (l := l) (by omega), cloneI_f (l := v) (by omega), if_pos (show l.length < 2513169434916 by omega)]
    have hw : wrap64 ((l.length : Int) + 1) = ((l.length + 1 : Nat) : Int) := by rw [wrap_small (by omega) (by omega)]; omega
    have hl : (l ++ [(⟨⟨a, b, c, d⟩, v⟩ : S29)]).length = l.length + 1 := by simp
    rw [h]
    simp only [hf, he, Option.bind_some, if_pos (show (-1 : Int) < 0 by decide), hw]
    refine ev_shift ?_
    have e1 : (false != decide ((-1 : Int) ≥ 0)) = false := by decide
    have e2 : (true == false) = false := rfl
    have e3 : ((([] : List Int).length : Int) != 0) = false := rfl
    simp only [switchboardlaw12_LedgerExact.j2, e1, e2, e3, if_neg (show ¬ (false = true) by decide), hl, if_true, if_neg (show ¬ (-1 : Int) ≥ 0 by decide), if_pos (show (-1 : Int) < 0 by decide)]
    exact exact_j3 l _ v a b c d hn hs hv (Or.inr rfl)
  · rw [Nat.zero_add] at h
    have hf : ledger_Find.f l a b c d = some (l[q].f1, true) := by
      unfold ledger_Find.f
      rw [show (fun x => keyB x a b c d) = pk a b c d from rfl, h, if_neg (by omega), rdE_get hq, cloneI_f (by have := hs l[q] (List.getElem_mem hq); omega)]
      rfl
    have he : ledger_Enter.f l a b c d v = some (l, false) := by
      unfold ledger_Enter.f
      simp only [hf, Option.bind_some, if_true]
    rw [h]
    simp only [hf, he, Option.bind_some, if_neg (show ¬ (q : Int) < 0 by omega)]
    refine ev_shift ?_
    have e1 : (true != decide ((q : Int) ≥ 0)) = false := by rw [decide_eq_true (by omega)]; rfl
    have e2 : (false == true) = false := rfl
    simp only [switchboardlaw12_LedgerExact.j2, e1, e2, if_neg (show ¬ (false = true) by decide), if_true, if_pos (show (q : Int) ≥ 0 by omega), if_pos (show (0 : Int) ≤ (q : Int) by omega), if_pos (show (q : Int) < (l.length : Int) by omega), rdE_get hq, if_neg (show ¬ (q : Int) < 0 by omega)]
    refine Ev.bind (same_refl _ (by have := hs l[q] (List.getElem_mem hq); omega)) ?_
    simp only [if_true]
    exact exact_j3 l l v a b c d hn hs hv (Or.inl rfl)
theorem takeE {l : List S29} {i : Nat} (h : i < l.length) : (l.take i).map cvE ++ [cvE l[i]] = (l.take (i + 1)).map cvE := by
  rw [List.take_succ_eq_append_getElem h, List.map_append]
  rfl
theorem exact_l0 (l : List S29) (v : List Int) (a b c d : Int) (hn : l.length ≤ 60) (hv : v.length ≤ 30) : ∀ (e i : Nat), i + e = l.length → (∀ j (h : j < l.length), j < i → l[j].f1.length ≤ 30) →
    Ev (fun k => switchboardlaw12_LedgerExact.l0 k l v ((l.take i).map cvE) l (l.length : Int) i a b c d) true := by
  intro e
  induction e with
  | zero =>
    intro i hi h
    have hs : ∀ x ∈ l, x.f1.length ≤ 30 := fun x hx => by
      obtain ⟨j, hj, rfl⟩ := List.getElem_of_mem hx
      exact h j hj (by omega)
    refine ev_shift ?_
    rw [List.take_of_length_le (by omega)]
    simp only [switchboardlaw12_LedgerExact.l0, if_neg (show ¬ (i : Int) < (l.length : Int) by omega)]
    exact exact_end l v a b c d hn hs hv
  | succ e ih =>
    intro i hi h
    have hlt : i < l.length := by omega
    have hw : wrap64 ((i : Int) + 1) = ((i + 1 : Nat) : Int) := by rw [wrap_small (by omega) (by omega)]; omega
    refine ev_shift ?_
    simp only [switchboardlaw12_LedgerExact.l0, if_pos (show (i : Int) < (l.length : Int) by omega), if_pos (show (0 : Int) ≤ (i : Int) by omega), rdE_get hlt, hw]
    by_cases hc : (l[i].f1.length : Int) > 30
    · simp only [if_pos hc]
      exact awake2
    · simp only [if_neg hc, if_pos (show ((l.take i).map cvE).length < 2513169434916 by rw [List.length_map, List.length_take]; omega)]
      have key := ih (i + 1) (by omega) (fun j hj hji => by
        rcases Nat.lt_or_ge j i with h1 | h1
        · exact h j hj h1
        · obtain rfl : j = i := by omega
          omega)
      rw [← takeE hlt] at key
      exact key
theorem exact_true (l : List S29) (v : List Int) (a b c d : Int) : Ev (fun k => switchboardlaw12_LedgerExact.j0 k l v true a b c d) true := by
  refine ev_shift ?_
  simp only [switchboardlaw12_LedgerExact.j0, if_true]
  exact awake2
theorem LedgerExact : LedgerExactPure := by
  intro l a b c d v
  intros
  refine ev_rounds ?_
  unfold switchboardlaw12_LedgerExact.f
  by_cases h1 : (l.length : Int) > 60
  · simp only [if_pos h1]
    exact exact_true l v a b c d
  simp only [if_neg h1]
  by_cases h2 : (v.length : Int) > 30
  · simp only [decide_eq_true h2]
    exact exact_true l v a b c d
  simp only [decide_eq_false h2]
  refine ev_shift ?_
  simp only [switchboardlaw12_LedgerExact.j0, if_neg (show ¬ (false = true) by decide)]
  exact exact_l0 l v a b c d (by omega) (by omega) l.length 0 (by omega) (fun j _ h => absurd h (Nat.not_lt_zero _))

end Go.Proofs.Ytcbngoldidhfmaa.Pure
