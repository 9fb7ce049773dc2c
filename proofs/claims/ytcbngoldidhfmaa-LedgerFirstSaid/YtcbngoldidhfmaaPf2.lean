/- Own text, by hand: what a ledger of tokens holds, and the walk of LedgerFirst. -/
import Derived.Test.YtcbngoldidhfmaaPf0
import Derived.Test.YtcbngoldidhfmaaPf1
namespace Go.Proofs.Ytcbngoldidhfmaa.Pf
open Go.RowKit Go.Proofs.YtcbngoldidhfmaaW.PrintWords Go.Proofs.YtcbngoldidhfmaaW.PrintLast Go.Proofs.YtcbngoldidhfmaaW.PrintMore
attribute [local go_sem] max2_int min2_int max_two min_two max_three min_three max_four min_four   -- for this text's walks alone
set_option linter.unusedVariables false
set_option linter.unusedSimpArgs false

theorem wrap_small {i : Int} (h0 : -9223372036854775808 ≤ i) (h1 : i < 9223372036854775808) : wrap64 i = i := by
  unfold wrap64
  omega

theorem ev_rounds {g : Nat → Option Bool} (h : Ev g true) : ∃ k, g k = some true := h.rounds
theorem ev_shift {α : Type} {g : Nat → Option α} {r : α} (h : Ev (fun k => g (k + 1)) r) : Ev g r := Ev.step (fun _ => rfl) h

theorem rd_get {v : List Int} {i : Int} (h0 : 0 ≤ i) (h1 : i < v.length) : ∃ h : i.toNat < v.length, rd v i = v[i.toNat]'h := by
  refine ⟨by omega, ?_⟩
  unfold rd
  rw [List.getD_eq_getElem?_getD, List.getElem?_eq_getElem (by omega)]
  rfl

theorem take_rd {v : List Int} {i : Nat} (h : i < v.length) : v.take i ++ [rd v i] = v.take (i + 1) := by
  obtain ⟨h', e⟩ := rd_get (v := v) (i := (i : Int)) (by omega) (by omega)
  rw [e]
  simp only [Int.toNat_natCast]
  rw [List.take_succ_eq_append_getElem h]

theorem rd_append_left {a b : List Int} {i : Int} (h0 : 0 ≤ i) (h1 : i < a.length) : rd (a ++ b) i = rd a i := by
  unfold rd
  rw [List.getD_eq_getElem?_getD, List.getD_eq_getElem?_getD, List.getElem?_append_left (by omega)]

theorem rd_append_right {a b : List Int} {i : Int} (h0 : 0 ≤ i) : rd (a ++ b) ((a.length : Int) + i) = rd b i := by
  unfold rd
  rw [List.getD_eq_getElem?_getD, List.getD_eq_getElem?_getD, List.getElem?_append_right (by omega)]
  congr 2
  omega

theorem rd_map {v : List Int} (f : Int → Int) {i : Int} (h0 : 0 ≤ i) (h1 : i < v.length) : rd (v.map f) i = f (rd v i) := by
  obtain ⟨h, e⟩ := rd_get h0 h1
  obtain ⟨h', e'⟩ := rd_get (v := v.map f) h0 (by simpa using h1)
  rw [e, e']
  simp

theorem rd_mem {v : List Int} {i : Int} (h0 : 0 ≤ i) (h1 : i < v.length) : rd v i ∈ v := by
  obtain ⟨h, e⟩ := rd_get h0 h1
  rw [e]
  exact List.getElem_mem h

theorem awake_f : switchboardlaw12_awake.f = some true := by decide +kernel
theorem awake2 : Ev (fun _ => (switchboardlaw12_awake.f).bind fun t => some t) true := by
  rw [awake_f]
  exact Ev.now true
theorem idx_none {α : Type} (p : α → Bool) : ∀ (l : List α) (i : Nat), idxFrom12 p l i = -1 → ∀ x ∈ l, p x = false := by
  intro l
  induction l with
  | nil => intro _ _ x hx; cases hx
  | cons y r ih =>
    intro i h x hx
    by_cases hy : p y = true
    · simp only [idxFrom12, if_pos hy] at h
      omega
    · have hs : idxFrom12 p (y :: r) i = idxFrom12 p r (i + 1) := by simp only [idxFrom12]; rw [if_neg hy]
      rw [hs] at h
      rcases List.mem_cons.1 hx with rfl | hx
      · exact Bool.eq_false_iff.mpr hy
      · exact ih (i + 1) h x hx
theorem idx_some {α : Type} (p : α → Bool) (l : List α) {x : α} (hx : x ∈ l) (hp : p x = true) : ∃ k, k < l.length ∧ idxFrom12 p l 0 = (k : Int) := by
  rcases idxSpec9 p l 0 with h | ⟨k, hk, h⟩
  · rw [idx_none p l 0 h x hx] at hp
    cases hp
  · exact ⟨k, hk, by rw [h, Nat.zero_add]⟩
theorem cloneI_f {l : List Int} (h : l.length < 17592186044416) : slices_Clone_int_int.f l = some l := by
  unfold slices_Clone_int_int.f
  simp only [Option.bind_some, List.length_nil, Nat.zero_add, List.nil_append, if_pos h]
theorem rdE_get {l : List S29} {i : Nat} (h : i < l.length) : rd_T29 l i = l[i] := by
  unfold rd_T29
  rw [Int.toNat_natCast, List.getD_eq_getElem?_getD, List.getElem?_eq_getElem h]
  rfl
theorem find_hit {l : List S29} (hs : ∀ x ∈ l, x.f1.length ≤ 30) {x : S29} (hx : x ∈ l) : ∃ v, ledger_Find.f l x.f0.f0 x.f0.f1 x.f0.f2 x.f0.f3 = some (v, true) := by
  obtain ⟨k, hk, e⟩ := idx_some (fun y => keyB y x.f0.f0 x.f0.f1 x.f0.f2 x.f0.f3) l hx (by simp [keyB])
  unfold ledger_Find.f
  rw [e, if_neg (by omega), rdE_get hk, cloneI_f (by have := hs l[k] (List.getElem_mem hk); omega)]
  exact ⟨_, rfl⟩
theorem enter_hit {l : List S29} (hs : ∀ x ∈ l, x.f1.length ≤ 30) {x : S29} (hx : x ∈ l) (v : List Int) : ledger_Enter.f l x.f0.f0 x.f0.f1 x.f0.f2 x.f0.f3 v = some (l, false) := by
  obtain ⟨w, h⟩ := find_hit hs hx
  unfold ledger_Enter.f
  simp only [h, Option.bind_some, if_true]

theorem cloneE_f {l : List S29} (h : l.length < 2513169434916) : ledger_Entry_15.f l = some l := by
  unfold ledger_Entry_15.f
  simp only [Option.bind_some, List.length_nil, Nat.zero_add, List.nil_append, if_pos h]
/-- Is there an entry of a key? -/
def There (l : List S29) (a b c d : Int) : Prop := ∃ x ∈ l, keyB x a b c d = true
theorem keyB_iff {x : S29} {a b c d : Int} : keyB x a b c d = true ↔ x.f0.f0 = a ∧ x.f0.f1 = b ∧ x.f0.f2 = c ∧ x.f0.f3 = d := by
  unfold keyB
  simp only [Bool.and_eq_true, beq_iff_eq]
theorem find_yes {l : List S29} {a b c d : Int} (h : There l a b c d) (hs : ∀ x ∈ l, x.f1.length ≤ 30) : ∃ x ∈ l, keyB x a b c d = true ∧ ledger_Find.f l a b c d = some (x.f1, true) := by
  obtain ⟨x, hx, hp⟩ := h
  obtain ⟨k, hk, e⟩ := idx_some (fun y => keyB y a b c d) l hx hp
  have hpk : keyB l[k] a b c d = true := by
    have gen : ∀ (l : List S29) (i k : Nat) (h : k < l.length), idxFrom12 (fun y => keyB y a b c d) l i = ((i + k : Nat) : Int) → keyB l[k] a b c d = true := by
      intro l
      induction l with
      | nil => intro i k h; cases h
      | cons y r ih =>
        intro i k h e
        by_cases hy : keyB y a b c d = true
        · simp only [idxFrom12, if_pos hy] at e
          have : k = 0 := by omega
          subst this
          exact hy
        · simp only [idxFrom12, if_neg hy] at e
          cases k with
          | zero =>
            exfalso
            rcases idxSpec9 (fun y => keyB y a b c d) r (i + 1) with h2 | ⟨q, _, h2⟩ <;> omega
          | succ k =>
            have h3 : k < r.length := by simpa using h
            simp only [List.getElem_cons_succ]
            exact ih (i + 1) k h3 (by rw [e]; congr 1; omega)
    exact gen l 0 k hk (by rw [e, Nat.zero_add])
  refine ⟨l[k], List.getElem_mem hk, hpk, ?_⟩
  unfold ledger_Find.f
  rw [e, if_neg (by omega), rdE_get hk, cloneI_f (by have := hs l[k] (List.getElem_mem hk); omega)]
  rfl
theorem find_not {l : List S29} {a b c d : Int} (h : ¬ There l a b c d) : ledger_Find.f l a b c d = some ([], false) := by
  have e : idxFrom12 (fun y => keyB y a b c d) l 0 = -1 := by
    rcases idxSpec9 (fun y => keyB y a b c d) l 0 with e | ⟨k, hk, e⟩
    · exact e
    · exfalso
      refine h ?_
      have gen : ∀ (l : List S29) (i k : Nat), idxFrom12 (fun y => keyB y a b c d) l i = (k : Int) → There l a b c d := by
        intro l
        induction l with
        | nil => intro i k e; simp only [idxFrom12] at e; omega
        | cons y r ih =>
          intro i k e
          by_cases hy : keyB y a b c d = true
          · exact ⟨y, List.mem_cons_self .., hy⟩
          · simp only [idxFrom12, if_neg hy] at e
            obtain ⟨x, hx, hp⟩ := ih (i + 1) k e
            exact ⟨x, List.mem_cons_of_mem _ hx, hp⟩
      exact gen l 0 _ e
  unfold ledger_Find.f
  rw [e, if_pos (by omega)]
theorem enter_yes {l : List S29} {a b c d : Int} (h : There l a b c d) (hs : ∀ x ∈ l, x.f1.length ≤ 30) (v : List Int) : ledger_Enter.f l a b c d v = some (l, false) := by
  obtain ⟨x, _, _, e⟩ := find_yes h hs
  unfold ledger_Enter.f
  simp only [e, Option.bind_some, if_true]
theorem enter_not {l : List S29} {a b c d : Int} (h : ¬ There l a b c d) (hl : l.length ≤ 1000) {v : List Int} (hv : v.length ≤ 1000) : ledger_Enter.f l a b c d v = some (l ++ [(⟨(⟨a, b, c, d⟩ : S24), v⟩ : S29)], true) := by
  unfold ledger_Enter.f
  simp only [find_not h, Option.bind_some, if_neg (show ¬ (false = true) by decide), cloneE_f (show l.length < 2513169434916 by omega), cloneI_f (show v.length < 17592186044416 by omega), if_pos (show l.length < 2513169434916 by omega)]

/-- An array's cells. -/
def acells (xs : List Int) : Array Value := (xs.map (fun x => Value.int .i64 x)).toArray
theorem acells_get {xs : List Int} {j : Nat} (h : j < xs.length) : (acells xs)[j]? = some (.int .i64 (rd xs (j : Int))) := by
  obtain ⟨_, e⟩ := rd_get (v := xs) (i := (j : Int)) (by omega) (by omega)
  unfold acells
  rw [e]
  simp [h]
theorem acells_set (xs : List Int) (j : Nat) (x : Int) : (acells xs).setIfInBounds j (.int .i64 x) = acells (xs.set j x) := by
  unfold acells
  rw [List.map_set]
  simp
theorem rd_set_at (xs : List Int) {t : Nat} (h : t < xs.length) (x : Int) : rd (xs.set t x) (t : Int) = x := by
  unfold rd
  rw [List.getD_eq_getElem?_getD, Int.toNat_natCast, List.getElem?_set_self h]
  rfl
theorem rd_set_far (xs : List Int) {s t : Nat} (h : s ≠ t) (x : Int) : rd (xs.set t x) (s : Int) = rd xs (s : Int) := by
  unfold rd
  rw [List.getD_eq_getElem?_getD, List.getD_eq_getElem?_getD, Int.toNat_natCast, List.getElem?_set_ne (by omega)]
/-- What holds behind i rounds: who is in the ledger, and what the array tells of it. -/
structure LInv (i : Nat) (l : List S29) (arr : List Int) : Prop where
  len : arr.length = 256
  short : l.length ≤ i
  rows : ∀ x ∈ l, x.f1.length ≤ 30
  yes : ∀ t : Nat, t < 256 → There l 0 0 (t : Int) 0 → rd arr (t : Int) ≠ 0 ∧ ∀ x ∈ l, keyB x 0 0 (t : Int) 0 = true → x.f1 = [rd arr (t : Int)]
  no : ∀ t : Nat, t < 256 → ¬ There l 0 0 (t : Int) 0 → rd arr (t : Int) = 0
theorem LInv.start : LInv 0 [] (List.replicate 256 0) := by
  refine ⟨List.length_replicate, Nat.le_refl _, (fun x hx => by cases hx), fun t _ h => ?_, fun t ht _ => ?_⟩
  · obtain ⟨x, hx, _⟩ := h
    cases hx
  · unfold rd
    rw [List.getD_eq_getElem?_getD, Int.toNat_natCast, List.getElem?_replicate, if_pos ht]
    rfl
/-- One round. -/
theorem LInv.step {i : Nat} (hi : i ≤ 100) {l : List S29} {arr : List Int} (h : LInv i l arr) {t : Nat} (ht : t < 256) : ∃ (ok : Bool) (l' : List S29) (arr' : List Int) (x : Int),
    ledger_Enter.f l 0 0 (t : Int) 0 [((i + 1 : Nat) : Int)] = some (l', ok) ∧ ledger_Find.f l' 0 0 (t : Int) 0 = some ([x], true) ∧ rd arr' (t : Int) = x ∧ LInv (i + 1) l' arr' ∧
    ((ok = true ∧ rd arr (t : Int) = 0 ∧ arr' = arr.set t ((i + 1 : Nat) : Int)) ∨ (ok = false ∧ rd arr (t : Int) ≠ 0 ∧ arr' = arr)) := by
  by_cases hT : There l 0 0 (t : Int) 0
  · obtain ⟨h1, h2⟩ := h.yes t ht hT
    obtain ⟨x, hx, hk, hf⟩ := find_yes hT h.rows
    refine ⟨false, l, arr, rd arr (t : Int), enter_yes hT h.rows _, by rw [hf, h2 x hx hk], rfl, ⟨h.len, by have := h.short; omega, h.rows, h.yes, h.no⟩, .inr ⟨rfl, h1, rfl⟩⟩
  · have h0 := h.no t ht hT
    have hsh := h.short
    have hlen := h.len
    obtain ⟨e, he⟩ : ∃ e : S29, e = (⟨(⟨0, 0, (t : Int), 0⟩ : S24), [((i + 1 : Nat) : Int)]⟩ : S29) := ⟨_, rfl⟩
    have hek : keyB e 0 0 (t : Int) 0 = true := by rw [he]; simp [keyB]
    have hrows : ∀ x ∈ l ++ [e], x.f1.length ≤ 30 := by
      intro x hx
      rcases List.mem_append.1 hx with hx | hx
      · exact h.rows x hx
      · rw [List.mem_singleton] at hx
        subst hx
        rw [he]
        simp
    have hT' : There (l ++ [e]) 0 0 (t : Int) 0 := ⟨e, by simp, hek⟩
    have hone : ∀ x ∈ l ++ [e], keyB x 0 0 (t : Int) 0 = true → x.f1 = [((i + 1 : Nat) : Int)] := by
      intro x hx hk
      rcases List.mem_append.1 hx with hx | hx
      · exact absurd ⟨x, hx, hk⟩ hT
      · rw [List.mem_singleton] at hx
        subst hx
        rw [he]
    obtain ⟨x, hx, hk, hf⟩ := find_yes hT' hrows
    have hen := enter_not hT (by omega) (v := [((i + 1 : Nat) : Int)]) (by simp)
    rw [← he] at hen
    refine ⟨true, l ++ [e], arr.set t ((i + 1 : Nat) : Int), ((i + 1 : Nat) : Int), hen, by rw [hf, hone x hx hk], rd_set_at arr (by omega) _, ⟨by simp [hlen], by simp; omega, hrows, fun s hs hS => ?_, fun s hs hS => ?_⟩, .inl ⟨rfl, h0, rfl⟩⟩
    · by_cases hst : s = t
      · subst hst
        rw [rd_set_at arr (by omega)]
        exact ⟨by omega, hone⟩
      · rw [rd_set_far arr hst]
        have hne : ∀ x ∈ l ++ [e], keyB x 0 0 (s : Int) 0 = true → x ∈ l := by
          intro x hx hk
          rcases List.mem_append.1 hx with hx | hx
          · exact hx
          · rw [List.mem_singleton] at hx
            subst hx
            rw [he] at hk
            rw [keyB_iff] at hk
            exact absurd hk.2.2.1 (by show ¬ (t : Int) = (s : Int); omega)
        obtain ⟨y, hy, hyk⟩ := hS
        obtain ⟨h1, h2⟩ := h.yes s hs ⟨y, hne y hy hyk, hyk⟩
        exact ⟨h1, fun x hx hk => h2 x (hne x hx hk) hk⟩
    · have hst : s ≠ t := by
        intro hc
        subst hc
        exact hS hT'
      rw [rd_set_far arr hst]
      refine h.no s hs (fun hc => hS ?_)
      obtain ⟨y, hy, hyk⟩ := hc
      exact ⟨y, List.mem_append_left _ hy, hyk⟩

end Go.Proofs.Ytcbngoldidhfmaa.Pf
