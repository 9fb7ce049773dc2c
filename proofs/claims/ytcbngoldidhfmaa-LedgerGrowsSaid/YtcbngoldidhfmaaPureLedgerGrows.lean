/- Proved here: with each key that is fresh there is an entry more, and all that were entered are found, each as it was (all rows of keys; the first 50). No condition. -/
import Derived.Test.YtcbngoldidhfmaaPg2
namespace Go.Proofs.Ytcbngoldidhfmaa.Pure
open Go.RowKit Go.Proofs.Ytcbngoldidhfmaa.Pg Go.Proofs.YtcbngoldidhfmaaW.PrintWords Go.Proofs.YtcbngoldidhfmaaW.PrintLast Go.Proofs.YtcbngoldidhfmaaW.PrintMore
set_option linter.unusedVariables false
set_option linter.unusedSimpArgs false

def LedgerGrowsPure : Prop := ∀ (l0 : List S44), l0.length ≤ maxLen → (∀ y ∈ l0, ((Lit.int .u8 y.f0).wf = true) ∧ ((Lit.int .u8 y.f1).wf = true)) → ∃ k, switchboardlaw12_LedgerGrows.f k l0 = some true

theorem wrap_small {i : Int} (h0 : -9223372036854775808 ≤ i) (h1 : i < 9223372036854775808) : wrap64 i = i := by
  unfold wrap64
  omega

theorem ev_rounds {g : Nat → Option Bool} (h : Ev g true) : ∃ k, g k = some true := h.rounds
theorem ev_shift {α : Type} {g : Nat → Option α} {r : α} (h : Ev (fun k => g (k + 1)) r) : Ev g r := Ev.step (fun _ => rfl) h

theorem rd_get {v : List Int} {i : Int} (h0 : 0 ≤ i) (h1 : i < v.length) : ∃ h : i.toNat < v.length, rd v i = v[i.toNat]'h := by
  refine ⟨by omega, ?_⟩
  unfold rd
  rw [List.getD_eq_getElem?_getD, List.getElem?_eq_getElem (by omega)]
  rfl

theorem take_rd {v : List Int} {i : Nat} (h : i < v.length) : v.take i ++ [rd v i] = v.take (i + 1) := by
  obtain ⟨h', e⟩ := rd_get (v := v) (i := (i : Int)) (by omega) (by omega)
  rw [e]
  simp only [Int.toNat_natCast]
  rw [List.take_succ_eq_append_getElem h]

theorem rd_append_left {a b : List Int} {i : Int} (h0 : 0 ≤ i) (h1 : i < a.length) : rd (a ++ b) i = rd a i := by
  unfold rd
  rw [List.getD_eq_getElem?_getD, List.getD_eq_getElem?_getD, List.getElem?_append_left (by omega)]

theorem rd_append_right {a b : List Int} {i : Int} (h0 : 0 ≤ i) : rd (a ++ b) ((a.length : Int) + i) = rd b i := by
  unfold rd
  rw [List.getD_eq_getElem?_getD, List.getD_eq_getElem?_getD, List.getElem?_append_right (by omega)]
  congr 2
  omega

theorem rd_map {v : List Int} (f : Int → Int) {i : Int} (h0 : 0 ≤ i) (h1 : i < v.length) : rd (v.map f) i = f (rd v i) := by
  obtain ⟨h, e⟩ := rd_get h0 h1
  obtain ⟨h', e'⟩ := rd_get (v := v.map f) h0 (by simpa using h1)
  rw [e, e']
  simp

theorem rd_mem {v : List Int} {i : Int} (h0 : 0 ≤ i) (h1 : i < v.length) : rd v i ∈ v := by
  obtain ⟨h, e⟩ := rd_get h0 h1
  rw [e]
  exact List.getElem_mem h

theorem awake_f : switchboardlaw12_awake.f = some true := by decide +kernel
theorem awake2 : Ev (fun _ => (switchboardlaw12_awake.f).bind fun t => some t) true := by
  rw [awake_f]
  exact Ev.now true
theorem idx_none {α : Type} (p : α → Bool) : ∀ (l : List α) (i : Nat), idxFrom12 p l i = -1 → ∀ x ∈ l, p x = false := by
  intro l
  induction l with
  | nil => intro _ _ x hx; cases hx
  | cons y r ih =>
    intro i h x hx
    by_cases hy : p y = true
    · simp only [idxFrom12, if_pos hy] at h
      omega
    · have hs : idxFrom12 p (y :: r) i = idxFrom12 p r (i + 1) := by simp only [idxFrom12]; rw [if_neg hy]
      rw [hs] at h
      rcases List.mem_cons.1 hx with rfl | hx
      · exact Bool.eq_false_iff.mpr hy
      · exact ih (i + 1) h x hx
theorem idx_some {α : Type} (p : α → Bool) (l : List α) {x : α} (hx : x ∈ l) (hp : p x = true) : ∃ k, k < l.length ∧ idxFrom12 p l 0 = (k : Int) := by
  rcases idxSpec9 p l 0 with h | ⟨k, hk, h⟩
  · rw [idx_none p l 0 h x hx] at hp
    cases hp
  · exact ⟨k, hk, by rw [h, Nat.zero_add]⟩
theorem cloneI_f {l : List Int} (h : l.length < 17592186044416) : slices_Clone_int_int.f l = some l := by
  unfold slices_Clone_int_int.f
  simp only [Option.bind_some, List.length_nil, Nat.zero_add, List.nil_append, if_pos h]
theorem rdE_get {l : List S29} {i : Nat} (h : i < l.length) : rd_T29 l i = l[i] := by
  unfold rd_T29
  rw [Int.toNat_natCast, List.getD_eq_getElem?_getD, List.getElem?_eq_getElem h]
  rfl
theorem find_hit {l : List S29} (hs : ∀ x ∈ l, x.f1.length ≤ 30) {x : S29} (hx : x ∈ l) : ∃ v, ledger_Find.f l x.f0.f0 x.f0.f1 x.f0.f2 x.f0.f3 = some (v, true) := by
  obtain ⟨k, hk, e⟩ := idx_some (fun y => keyB y x.f0.f0 x.f0.f1 x.f0.f2 x.f0.f3) l hx (by simp [keyB])
  unfold ledger_Find.f
  rw [e, if_neg (by omega), rdE_get hk, cloneI_f (by have := hs l[k] (List.getElem_mem hk); omega)]
  exact ⟨_, rfl⟩
theorem enter_hit {l : List S29} (hs : ∀ x ∈ l, x.f1.length ≤ 30) {x : S29} (hx : x ∈ l) (v : List Int) : ledger_Enter.f l x.f0.f0 x.f0.f1 x.f0.f2 x.f0.f3 v = some (l, false) := by
  obtain ⟨w, h⟩ := find_hit hs hx
  unfold ledger_Enter.f
  simp only [h, Option.bind_some, if_true]

theorem cloneE_f {l : List S29} (h : l.length < 2513169434916) : ledger_Entry_15.f l = some l := by
  unfold ledger_Entry_15.f
  simp only [Option.bind_some, List.length_nil, Nat.zero_add, List.nil_append, if_pos h]
/-- Is there an entry of a key? -/
def There (l : List S29) (a b c d : Int) : Prop := ∃ x ∈ l, keyB x a b c d = true
theorem keyB_iff {x : S29} {a b c d : Int} : keyB x a b c d = true ↔ x.f0.f0 = a ∧ x.f0.f1 = b ∧ x.f0.f2 = c ∧ x.f0.f3 = d := by
  unfold keyB
  simp only [Bool.and_eq_true, beq_iff_eq]
theorem find_yes {l : List S29} {a b c d : Int} (h : There l a b c d) (hs : ∀ x ∈ l, x.f1.length ≤ 30) : ∃ x ∈ l, keyB x a b c d = true ∧ ledger_Find.f l a b c d = some (x.f1, true) := by
  obtain ⟨x, hx, hp⟩ := h
  obtain ⟨k, hk, e⟩ := idx_some (fun y => keyB y a b c d) l hx hp
  have hpk : keyB l[k] a b c d = true := by
    have gen : ∀ (l : List S29) (i k : Nat) (h : k < l.length), idxFrom12 (fun y => keyB y a b c d) l i = ((i + k : Nat) : Int) → keyB l[k] a b c d = true := by
      intro l
      induction l with
      | nil => intro i k h; cases h
      | cons y r ih =>
        intro i k h e
        by_cases hy : keyB y a b c d = true
        · simp only [idxFrom12, if_pos hy] at e
          have : k = 0 := by omega
          subst this
          exact hy
        · simp only [idxFrom12, if_neg hy] at e
          cases k with
          | zero =>
            exfalso
            rcases idxSpec9 (fun y => keyB y a b c d) r (i + 1) with h2 | ⟨q, _, h2⟩ <;> omega
          | succ k =>
            have h3 : k < r.length := by simpa using h
            simp only [List.getElem_cons_succ]
            exact ih (i + 1) k h3 (by rw [e]; congr 1; omega)
    exact gen l 0 k hk (by rw [e, Nat.zero_add])
  refine ⟨l[k], List.getElem_mem hk, hpk, ?_⟩
  unfold ledger_Find.f
  rw [e, if_neg (by omega), rdE_get hk, cloneI_f (by have := hs l[k] (List.getElem_mem hk); omega)]
  rfl
theorem find_not {l : List S29} {a b c d : Int} (h : ¬ There l a b c d) : ledger_Find.f l a b c d = some ([], false) := by
  have e : idxFrom12 (fun y => keyB y a b c d) l 0 = -1 := by
    rcases idxSpec9 (fun y => keyB y a b c d) l 0 with e | ⟨k, hk, e⟩
    · exact e
    · exfalso
      refine h ?_
      have gen : ∀ (l : List S29) (i k : Nat), idxFrom12 (fun y => keyB y a b c d) l i = (k : Int) → There l a b c d := by
        intro l
        induction l with
        | nil => intro i k e; simp only [idxFrom12] at e; omega
        | cons y r ih =>
          intro i k e
          by_cases hy : keyB y a b c d = true
          · exact ⟨y, List.mem_cons_self .., hy⟩
          · simp only [idxFrom12, if_neg hy] at e
            obtain ⟨x, hx, hp⟩ := ih (i + 1) k e
            exact ⟨x, List.mem_cons_of_mem _ hx, hp⟩
      exact gen l 0 _ e
  unfold ledger_Find.f
  rw [e, if_pos (by omega)]
theorem enter_yes {l : List S29} {a b c d : Int} (h : There l a b c d) (hs : ∀ x ∈ l, x.f1.length ≤ 30) (v : List Int) : ledger_Enter.f l a b c d v = some (l, false) := by
  obtain ⟨x, _, _, e⟩ := find_yes h hs
  unfold ledger_Enter.f
  simp only [e, Option.bind_some, if_true]
theorem enter_not {l : List S29} {a b c d : Int} (h : ¬ There l a b c d) (hl : l.length ≤ 1000) {v : List Int} (hv : v.length ≤ 1000) : ledger_Enter.f l a b c d v = some (l ++ [(⟨(⟨a, b, c, d⟩ : S24), v⟩ : S29)], true) := by
  unfold ledger_Enter.f
  simp only [find_not h, Option.bind_some, if_neg (show ¬ (false = true) by decide), cloneE_f (show l.length < 2513169434916 by omega), cloneI_f (show v.length < 17592186044416 by omega), if_pos (show l.length < 2513169434916 by omega)]

theorem wf8 {x : Int} (h : (Lit.int .u8 x).wf = true) : 0 ≤ x ∧ x ≤ 255 := by
  simp [Lit.wf, IntKind.min, IntKind.max, IntKind.signed, IntKind.bits] at h
  omega
theorem rdK_get {l : List S44} {t : Nat} (h : t < l.length) : rd_T44 l (t : Int) = l[t] := by
  unfold rd_T44
  rw [Int.toNat_natCast, List.getD_eq_getElem?_getD, List.getElem?_eq_getElem h]
  rfl
/-- What the ledger holds: of each entry the text is its key's numbers. -/
def Tells (l : List S29) : Prop := ∀ x ∈ l, x.f1 = [x.f0.f0, x.f0.f2] ∧ x.f0.f1 = 0
theorem tells_short {l : List S29} (h : Tells l) : ∀ x ∈ l, x.f1.length ≤ 30 := fun x hx => by rw [(h x hx).1]; simp
theorem grows_l1 (keys : List S44) (hk : ∀ y ∈ keys, (0 ≤ y.f0 ∧ y.f0 ≤ 255) ∧ (0 ≤ y.f1 ∧ y.f1 ≤ 255)) (n : Nat) (hn : n ≤ keys.length) (hn50 : n ≤ 50) (hend : n = 50 ∨ n = keys.length) (l : List S29) (ht : Tells l)
    (hin : ∀ i (h : i < keys.length), i < n → There l keys[i].f0 0 keys[i].f1 0) : ∀ (d i : Nat), i + d = n → Ev (fun k => switchboardlaw12_LedgerGrows.l1 k keys l (l.length : Int) i) true := by
  intro d
  induction d with
  | zero =>
    intro i hi
    have hj : Ev (fun k => switchboardlaw12_LedgerGrows.j3 k keys l (l.length : Int) i false) true := by
      have hno : ¬ There l 0 1 0 0 := by
        rintro ⟨x, hx, hp⟩
        have := (keyB_iff.1 hp).2.1
        rw [(ht x hx).2] at this
        omega
      refine ev_shift ?_
      simp only [switchboardlaw12_LedgerGrows.j3, if_neg (show ¬ (false = true) by decide), find_not hno, Option.bind_some, if_true]
      exact awake2
    refine ev_shift ?_
    by_cases h : (i : Int) < (keys.length : Int)
    · simp only [switchboardlaw12_LedgerGrows.l1, if_pos h, decide_eq_false (show ¬ (i : Int) < 50 by omega)]
      exact hj
    · simp only [switchboardlaw12_LedgerGrows.l1, if_neg h]
      exact hj
  | succ d ih =>
    intro i hi
    have hlt : i < keys.length := by omega
    have hw : wrap64 ((i : Int) + 1) = ((i + 1 : Nat) : Int) := by rw [wrap_small (by omega) (by omega)]; omega
    obtain ⟨hb0, hb1⟩ := hk keys[i] (List.getElem_mem hlt)
    have w0 : wrap64 keys[i].f0 = keys[i].f0 := wrap_small (by omega) (by omega)
    have w1 : wrap64 keys[i].f1 = keys[i].f1 := wrap_small (by omega) (by omega)
    obtain ⟨x, hx, hp, hf⟩ := find_yes (hin i hlt (by omega)) (tells_short ht)
    have hkx := keyB_iff.1 hp
    have hx1 := (ht x hx).1
    rw [hkx.1, hkx.2.2.1] at hx1
    rw [hx1] at hf
    refine ev_shift ?_
    simp only [switchboardlaw12_LedgerGrows.l1, if_pos (show (i : Int) < (keys.length : Int) by omega), decide_eq_true (show (i : Int) < 50 by omega)]
    refine ev_shift ?_
    simp only [switchboardlaw12_LedgerGrows.j3, if_true, if_pos (show (0 : Int) ≤ (i : Int) by omega), if_pos (show (i : Int) < (keys.length : Int) by omega), rdK_get hlt, w0, w1, hf, Option.bind_some, hw]
    have e0 : rd [keys[i].f0, keys[i].f1] 0 = keys[i].f0 := rfl
    have e1 : rd [keys[i].f0, keys[i].f1] 1 = keys[i].f1 := rfl
    have e2 : (([keys[i].f0, keys[i].f1] : List Int).length : Int) = 2 := rfl
    simp only [e0, e1, e2, if_true, if_pos (show (0 : Int) < 2 by omega), if_pos (show (1 : Int) < 2 by omega)]
    exact ih (i + 1) (by omega)
theorem grows_l0 (keys : List S44) (hk : ∀ y ∈ keys, (0 ≤ y.f0 ∧ y.f0 ≤ 255) ∧ (0 ≤ y.f1 ∧ y.f1 ≤ 255)) (n : Nat) (hn : n ≤ keys.length) (hn50 : n ≤ 50) (hend : n = 50 ∨ n = keys.length) : ∀ (d i : Nat), i + d = n →
    ∀ (l : List S29), Tells l → l.length ≤ i → (∀ j (h : j < keys.length), j < i → There l keys[j].f0 0 keys[j].f1 0) → Ev (fun k => switchboardlaw12_LedgerGrows.l0 k keys l (l.length : Int) i) true := by
  intro d
  induction d with
  | zero =>
    intro i hi l ht hl hin
    have hj : Ev (fun k => switchboardlaw12_LedgerGrows.j1 k keys l (l.length : Int) i false) true := by
      refine ev_shift ?_
      simp only [switchboardlaw12_LedgerGrows.j1, if_neg (show ¬ (false = true) by decide)]
      exact grows_l1 keys hk n hn hn50 hend l ht (fun j h hj => hin j h (by omega)) n 0 (by omega)
    refine ev_shift ?_
    by_cases h : (i : Int) < (keys.length : Int)
    · simp only [switchboardlaw12_LedgerGrows.l0, if_pos h, decide_eq_false (show ¬ (i : Int) < 50 by omega)]
      exact hj
    · simp only [switchboardlaw12_LedgerGrows.l0, if_neg h]
      exact hj
  | succ d ih =>
    intro i hi l ht hl hin
    have hlt : i < keys.length := by omega
    have hw : wrap64 ((i : Int) + 1) = ((i + 1 : Nat) : Int) := by rw [wrap_small (by omega) (by omega)]; omega
    obtain ⟨hb0, hb1⟩ := hk keys[i] (List.getElem_mem hlt)
    have w0 : wrap64 keys[i].f0 = keys[i].f0 := wrap_small (by omega) (by omega)
    have w1 : wrap64 keys[i].f1 = keys[i].f1 := wrap_small (by omega) (by omega)
    refine ev_shift ?_
    simp only [switchboardlaw12_LedgerGrows.l0, if_pos (show (i : Int) < (keys.length : Int) by omega), decide_eq_true (show (i : Int) < 50 by omega)]
    refine ev_shift ?_
    by_cases h : There l keys[i].f0 0 keys[i].f1 0
    · simp only [switchboardlaw12_LedgerGrows.j1, if_true, if_pos (show (0 : Int) ≤ (i : Int) by omega), if_pos (show (i : Int) < (keys.length : Int) by omega), rdK_get hlt, w0, w1, enter_yes h (tells_short ht), Option.bind_some, hw, if_neg (show ¬ (false = true) by decide)]
      refine ih (i + 1) (by omega) l ht (by omega) (fun j hj hji => ?_)
      by_cases e : j = i
      · subst e; exact h
      · exact hin j hj (by omega)
    · simp only [switchboardlaw12_LedgerGrows.j1, if_true, if_pos (show (0 : Int) ≤ (i : Int) by omega), if_pos (show (i : Int) < (keys.length : Int) by omega), rdK_get hlt, w0, w1, enter_not h (show l.length ≤ 1000 by omega) (show ([keys[i].f0, keys[i].f1] : List Int).length ≤ 1000 by simp), Option.bind_some, hw]
      have wl : wrap64 ((l.length : Int) + 1) = ((l ++ [(⟨(⟨keys[i].f0, 0, keys[i].f1, 0⟩ : S24), [keys[i].f0, keys[i].f1]⟩ : S29)]).length : Int) := by
        rw [List.length_append, wrap_small (by omega) (by omega)]; simp
      rw [wl]
      refine ih (i + 1) (by omega) _ (fun x hx => ?_) (by simp; omega) (fun j hj hji => ?_)
      · rcases List.mem_append.1 hx with hx | hx
        · exact ht x hx
        · rw [List.mem_singleton] at hx
          subst hx
          exact ⟨rfl, rfl⟩
      · by_cases e : j = i
        · subst e
          exact ⟨_, List.mem_append_right _ (List.mem_singleton.2 rfl), keyB_iff.2 ⟨rfl, rfl, rfl, rfl⟩⟩
        · obtain ⟨x, hx, hp⟩ := hin j hj (by omega)
          exact ⟨x, List.mem_append_left _ hx, hp⟩
theorem LedgerGrows : LedgerGrowsPure := by
  intro keys hlen hk
  refine ev_rounds ?_
  unfold switchboardlaw12_LedgerGrows.f
  refine grows_l0 keys (fun y hy => ⟨wf8 (hk y hy).1, wf8 (hk y hy).2⟩) (min 50 keys.length) (Nat.min_le_right _ _) (Nat.min_le_left _ _) (by omega) (min 50 keys.length) 0 (by omega) [] (fun x hx => by cases hx) (by simp) (fun j _ h => absurd h (Nat.not_lt_zero _))

end Go.Proofs.Ytcbngoldidhfmaa.Pure
