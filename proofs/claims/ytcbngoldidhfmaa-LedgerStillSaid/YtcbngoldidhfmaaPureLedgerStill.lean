/- Proved here: what is entered again turns nothing: the ledger is as it was, entry by entry, and it is found (all ledgers, places and rows; past 60 entries of 30 numbers the fixed answer alone). No condition. -/
import Derived.Test.YtcbngoldidhfmaaPr5
namespace Go.Proofs.Ytcbngoldidhfmaa.Pure
open Go.RowKit Go.Proofs.Ytcbngoldidhfmaa.Pr Go.Proofs.YtcbngoldidhfmaaW.PrintWords Go.Proofs.YtcbngoldidhfmaaW.PrintLast Go.Proofs.YtcbngoldidhfmaaW.PrintMore
set_option linter.unusedVariables false
set_option linter.unusedSimpArgs false

def LedgerStillPure : Prop := ∀ (l0 : List S29) (a1 : Int) (l2 : List Int), l0.length ≤ maxLen → (∀ y ∈ l0, (((Lit.int .i64 y.f0.f0).wf = true) ∧ ((Lit.int .i64 y.f0.f1).wf = true) ∧ ((Lit.int .i64 y.f0.f2).wf = true) ∧ ((Lit.int .i64 y.f0.f3).wf = true)) ∧ (y.f1.length ≤ maxLen ∧ ∀ y1 ∈ y.f1, (Lit.int .i64 y1).wf = true)) → (Lit.int .u8 a1).wf = true → l2.length ≤ maxLen → (∀ y ∈ l2, (Lit.int .i64 y).wf = true) → ∃ k, switchboardlaw12_LedgerStill.f k l0 a1 l2 = some true

theorem wrap_small {i : Int} (h0 : -9223372036854775808 ≤ i) (h1 : i < 9223372036854775808) : wrap64 i = i := by
  unfold wrap64
  omega

theorem ev_rounds {g : Nat → Option Bool} (h : Ev g true) : ∃ k, g k = some true := h.rounds
theorem ev_shift {α : Type} {g : Nat → Option α} {r : α} (h : Ev (fun k => g (k + 1)) r) : Ev g r := Ev.step (fun _ => rfl) h

theorem rd_get {v : List Int} {i : Int} (h0 : 0 ≤ i) (h1 : i < v.length) : ∃ h : i.toNat < v.length, rd v i = v[i.toNat]'h := by
  refine ⟨by omega, ?_⟩
  unfold rd
  rw [List.getD_eq_getElem?_getD, List.getElem?_eq_getElem (by omega)]
  rfl

theorem take_rd {v : List Int} {i : Nat} (h : i < v.length) : v.take i ++ [rd v i] = v.take (i + 1) := by
  obtain ⟨h', e⟩ := rd_get (v := v) (i := (i : Int)) (by omega) (by omega)
  rw [e]
  simp only [Int.toNat_natCast]
  rw [List.take_succ_eq_append_getElem h]

theorem rd_append_left {a b : List Int} {i : Int} (h0 : 0 ≤ i) (h1 : i < a.length) : rd (a ++ b) i = rd a i := by
  unfold rd
  rw [List.getD_eq_getElem?_getD, List.getD_eq_getElem?_getD, List.getElem?_append_left (by omega)]

theorem rd_append_right {a b : List Int} {i : Int} (h0 : 0 ≤ i) : rd (a ++ b) ((a.length : Int) + i) = rd b i := by
  unfold rd
  rw [List.getD_eq_getElem?_getD, List.getD_eq_getElem?_getD, List.getElem?_append_right (by omega)]
  congr 2
  omega

theorem rd_map {v : List Int} (f : Int → Int) {i : Int} (h0 : 0 ≤ i) (h1 : i < v.length) : rd (v.map f) i = f (rd v i) := by
  obtain ⟨h, e⟩ := rd_get h0 h1
  obtain ⟨h', e'⟩ := rd_get (v := v.map f) h0 (by simpa using h1)
  rw [e, e']
  simp

theorem rd_mem {v : List Int} {i : Int} (h0 : 0 ≤ i) (h1 : i < v.length) : rd v i ∈ v := by
  obtain ⟨h, e⟩ := rd_get h0 h1
  rw [e]
  exact List.getElem_mem h

theorem rd_ext {a b : List Int} (hl : a.length = b.length) (h : ∀ i : Nat, i < a.length → rd a i = rd b i) : a = b := by
  refine List.ext_getElem hl fun i h1 h2 => ?_
  obtain ⟨_, e⟩ := rd_get (v := a) (i := (i : Int)) (by omega) (by omega)
  obtain ⟨_, e'⟩ := rd_get (v := b) (i := (i : Int)) (by omega) (by omega)
  have := h i h1
  rw [e, e'] at this
  simpa using this
theorem same_l0 (a : List Int) (hn : a.length ≤ 9223372036854775806) : ∀ (d i : Nat), i + d = a.length →
    Ev (fun k => switchboardref02_Same.l0 k a a i) true := by
  intro d
  induction d with
  | zero =>
    intro i hi
    refine Ev.step (f := fun _ => some _) (fun k => ?_) (Ev.now _)
    simp only [switchboardref02_Same.l0]
    rw [if_neg (by omega)]
  | succ d ih =>
    intro i hi
    have hw : wrap64 ((i : Int) + 1) = ((i + 1 : Nat) : Int) := by rw [wrap_small (by omega) (by omega)]; omega
    refine Ev.step (fun k => ?_) (ih (i + 1) (by omega))
    simp only [switchboardref02_Same.l0, if_true]
    rw [if_pos (by omega), if_pos (by omega), if_pos (by omega), hw]
theorem same_refl (a : List Int) (hn : a.length ≤ 9223372036854775806) : Ev (fun k => switchboardref02_Same.f k a a) true := by
  unfold switchboardref02_Same.f
  simp only [if_true]
  exact same_l0 a hn a.length 0 (by omega)
theorem same_ev {a b : List Int} (h : a = b) (hn : a.length ≤ 9223372036854775806) : Ev (fun k => switchboardref02_Same.f k a b) true := by
  subst h
  exact same_refl a hn

theorem awake_f : switchboardlaw12_awake.f = some true := by decide +kernel
theorem awake2 : Ev (fun _ => (switchboardlaw12_awake.f).bind fun t => some t) true := by
  rw [awake_f]
  exact Ev.now true
theorem idx_none {α : Type} (p : α → Bool) : ∀ (l : List α) (i : Nat), idxFrom12 p l i = -1 → ∀ x ∈ l, p x = false := by
  intro l
  induction l with
  | nil => intro _ _ x hx; cases hx
  | cons y r ih =>
    intro i h x hx
    by_cases hy : p y = true
    · simp only [idxFrom12, if_pos hy] at h
      omega
    · have hs : idxFrom12 p (y :: r) i = idxFrom12 p r (i + 1) := by simp only [idxFrom12]; rw [if_neg hy]
      rw [hs] at h
      rcases List.mem_cons.1 hx with rfl | hx
      · exact Bool.eq_false_iff.mpr hy
      · exact ih (i + 1) h x hx
theorem idx_some {α : Type} (p : α → Bool) (l : List α) {x : α} (hx : x ∈ l) (hp : p x = true) : ∃ k, k < l.length ∧ idxFrom12 p l 0 = (k : Int) := by
  rcases idxSpec9 p l 0 with h | ⟨k, hk, h⟩
  · rw [idx_none p l 0 h x hx] at hp
    cases hp
  · exact ⟨k, hk, by rw [h, Nat.zero_add]⟩
theorem cloneI_f {l : List Int} (h : l.length < 17592186044416) : slices_Clone_int_int.f l = some l := by
  unfold slices_Clone_int_int.f
  simp only [Option.bind_some, List.length_nil, Nat.zero_add, List.nil_append, if_pos h]
theorem rdE_get {l : List S29} {i : Nat} (h : i < l.length) : rd_T29 l i = l[i] := by
  unfold rd_T29
  rw [Int.toNat_natCast, List.getD_eq_getElem?_getD, List.getElem?_eq_getElem h]
  rfl
theorem find_hit {l : List S29} (hs : ∀ x ∈ l, x.f1.length ≤ 30) {x : S29} (hx : x ∈ l) : ∃ v, ledger_Find.f l x.f0.f0 x.f0.f1 x.f0.f2 x.f0.f3 = some (v, true) := by
  obtain ⟨k, hk, e⟩ := idx_some (fun y => keyB y x.f0.f0 x.f0.f1 x.f0.f2 x.f0.f3) l hx (by simp [keyB])
  unfold ledger_Find.f
  rw [e, if_neg (by omega), rdE_get hk, cloneI_f (by have := hs l[k] (List.getElem_mem hk); omega)]
  exact ⟨_, rfl⟩
theorem enter_hit {l : List S29} (hs : ∀ x ∈ l, x.f1.length ≤ 30) {x : S29} (hx : x ∈ l) (v : List Int) : ledger_Enter.f l x.f0.f0 x.f0.f1 x.f0.f2 x.f0.f3 v = some (l, false) := by
  obtain ⟨w, h⟩ := find_hit hs hx
  unfold ledger_Enter.f
  simp only [h, Option.bind_some, if_true]

theorem still_true (l : List S29) (a : Int) (v : List Int) : Ev (fun k => switchboardlaw12_LedgerStill.j0 k l a v true) true := by
  refine ev_shift ?_
  simp only [switchboardlaw12_LedgerStill.j0, if_true]
  exact awake2
theorem still_l1 (l : List S29) (hs : ∀ x ∈ l, x.f1.length ≤ 30) (hn : l.length ≤ 60) {x : S29} (hx : x ∈ l) : ∀ (d i : Nat), i + d = l.length →
    Ev (fun k => switchboardlaw12_LedgerStill.l1 k l l (l.length : Int) i x.f0.f0 x.f0.f1 x.f0.f2 x.f0.f3) true := by
  intro d
  induction d with
  | zero =>
    intro i hi
    obtain ⟨w, h⟩ := find_hit hs hx
    refine ev_shift ?_
    simp only [switchboardlaw12_LedgerStill.l1, if_neg (show ¬ (i : Int) < (l.length : Int) by omega), h, Option.bind_some, if_true]
    exact awake2
  | succ d ih =>
    intro i hi
    have hlt : i < l.length := by omega
    have hw : wrap64 ((i : Int) + 1) = ((i + 1 : Nat) : Int) := by rw [wrap_small (by omega) (by omega)]; omega
    refine ev_shift ?_
    have e : (!((rd_T29 l i).f0.f0 == (rd_T29 l i).f0.f0) || (!((rd_T29 l i).f0.f1 == (rd_T29 l i).f0.f1) || (!((rd_T29 l i).f0.f2 == (rd_T29 l i).f0.f2) || (!((rd_T29 l i).f0.f3 == (rd_T29 l i).f0.f3))))) = false := by simp
    simp only [switchboardlaw12_LedgerStill.l1, if_pos (show (i : Int) < (l.length : Int) by omega), if_pos (show (0 : Int) ≤ (i : Int) by omega), e, if_neg (show ¬ (false = true) by decide), hw]
    refine Ev.bind (same_refl _ (by rw [rdE_get hlt]; have := hs l[i] (List.getElem_mem hlt); omega)) ?_
    simp only [if_true]
    exact ih (i + 1) (by omega)
theorem still_l0 (l : List S29) (a : Int) (ha : 0 ≤ a ∧ a ≤ 255) (v : List Int) (h0 : l.length ≠ 0) (hn : l.length ≤ 60) : ∀ (d i : Nat), i + d = l.length → (∀ j (h : j < l.length), j < i → l[j].f1.length ≤ 30) →
    Ev (fun k => switchboardlaw12_LedgerStill.l0 k l a v l (l.length : Int) i) true := by
  intro d
  induction d with
  | zero =>
    intro i hi h
    have hs : ∀ x ∈ l, x.f1.length ≤ 30 := fun x hx => by
      obtain ⟨j, hj, rfl⟩ := List.getElem_of_mem hx
      exact h j hj (by omega)
    have hw : wrap64 a = a := wrap_small (by omega) (by omega)
    have m0 : 0 ≤ Int.tmod a (l.length : Int) := Int.tmod_nonneg _ ha.1
    have m1 : Int.tmod a (l.length : Int) < (l.length : Int) := Int.tmod_lt_of_pos _ (by omega)
    obtain ⟨q, hq⟩ : ∃ q : Nat, Int.tmod a (l.length : Int) = (q : Int) := ⟨(Int.tmod a (l.length : Int)).toNat, by omega⟩
    have hql : q < l.length := by omega
    have hx : l[q] ∈ l := List.getElem_mem hql
    refine ev_shift ?_
    simp only [switchboardlaw12_LedgerStill.l0, if_neg (show ¬ (i : Int) < (l.length : Int) by omega), if_neg (show ¬ (l.length : Int) = 0 by omega), hw, hq, if_pos (show (0 : Int) ≤ (q : Int) by omega), if_pos (show (q : Int) < (l.length : Int) by omega), rdE_get hql, enter_hit hs hx, Option.bind_some, if_neg (show ¬ (false = true) by decide)]
    have e : ((l.length : Int) != (l.length : Int)) = false := by simp
    rw [e]
    refine ev_shift ?_
    simp only [switchboardlaw12_LedgerStill.j2, if_neg (show ¬ (false = true) by decide)]
    exact still_l1 l hs hn hx l.length 0 (by omega)
  | succ d ih =>
    intro i hi h
    have hlt : i < l.length := by omega
    have hw : wrap64 ((i : Int) + 1) = ((i + 1 : Nat) : Int) := by rw [wrap_small (by omega) (by omega)]; omega
    refine ev_shift ?_
    simp only [switchboardlaw12_LedgerStill.l0, if_pos (show (i : Int) < (l.length : Int) by omega), if_pos (show (0 : Int) ≤ (i : Int) by omega), rdE_get hlt, hw]
    by_cases c : (l[i].f1.length : Int) > 30
    · simp only [if_pos c]
      exact awake2
    · simp only [if_neg c]
      exact ih (i + 1) (by omega) (fun j hj hji => by
        rcases Nat.lt_or_ge j i with h1 | h1
        · exact h j hj h1
        · obtain rfl : j = i := by omega
          omega)
theorem wf8 {x : Int} (h : (Lit.int .u8 x).wf = true) : 0 ≤ x ∧ x ≤ 255 := by
  simp [Lit.wf, IntKind.min, IntKind.max, IntKind.signed, IntKind.bits] at h
  omega
theorem LedgerStill : LedgerStillPure := by
  intro l a v _ _ ha
  intros
  refine ev_rounds ?_
  unfold switchboardlaw12_LedgerStill.f
  by_cases h0 : (l.length : Int) = 0
  · simp only [if_pos h0]
    exact still_true l a v
  simp only [if_neg h0]
  by_cases h1 : (l.length : Int) > 60
  · simp only [if_pos h1]
    exact still_true l a v
  simp only [if_neg h1]
  by_cases h2 : (v.length : Int) > 30
  · simp only [decide_eq_true h2]
    exact still_true l a v
  simp only [decide_eq_false h2]
  refine ev_shift ?_
  simp only [switchboardlaw12_LedgerStill.j0, if_neg (show ¬ (false = true) by decide)]
  exact still_l0 l a (wf8 ha) v (by omega) (by omega) l.length 0 (by omega) (fun j _ h => absurd h (Nat.not_lt_zero _))

end Go.Proofs.Ytcbngoldidhfmaa.Pure
