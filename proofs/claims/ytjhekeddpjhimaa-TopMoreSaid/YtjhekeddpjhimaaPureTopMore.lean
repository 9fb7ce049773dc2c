/- Proved here: with the second one put behind once more both stay; with one above the first put behind, it is the first and the first one the second (all rows of 2 to 100 numbers of 32 bits; others the fixed answer alone). No condition. -/
import Derived.Test.YtjhekeddpjhimaaPr2
namespace Go.Proofs.Ytjhekeddpjhimaa.Pure
open Go.RowKit Go.Proofs.Ytjhekeddpjhimaa.Pr Go.Proofs.YtjhekeddpjhimaaW.PrintWords Go.Proofs.YtjhekeddpjhimaaW.PrintLast Go.Proofs.YtjhekeddpjhimaaW.PrintMore
set_option linter.unusedVariables false
set_option linter.unusedSimpArgs false

def TopMorePure : Prop := ∀ (l0 : List Int), l0.length ≤ maxLen → (∀ y ∈ l0, (Lit.int .i32 y).wf = true) → ∃ k, switchboardlaw04_TopMore.f k l0 = some true

theorem wrap_small {i : Int} (h0 : -9223372036854775808 ≤ i) (h1 : i < 9223372036854775808) : wrap64 i = i := by
  unfold wrap64
  omega

theorem ev_rounds {g : Nat → Option Bool} (h : Ev g true) : ∃ k, g k = some true := h.rounds
theorem ev_shift {α : Type} {g : Nat → Option α} {r : α} (h : Ev (fun k => g (k + 1)) r) : Ev g r := Ev.step (fun _ => rfl) h

theorem rd_get {v : List Int} {i : Int} (h0 : 0 ≤ i) (h1 : i < v.length) : ∃ h : i.toNat < v.length, rd v i = v[i.toNat]'h := by
  refine ⟨by omega, ?_⟩
  unfold rd
  rw [List.getD_eq_getElem?_getD, List.getElem?_eq_getElem (by omega)]
  rfl

theorem take_rd {v : List Int} {i : Nat} (h : i < v.length) : v.take i ++ [rd v i] = v.take (i + 1) := by
  obtain ⟨h', e⟩ := rd_get (v := v) (i := (i : Int)) (by omega) (by omega)
  rw [e]
  simp only [Int.toNat_natCast]
  rw [List.take_succ_eq_append_getElem h]

theorem rd_append_left {a b : List Int} {i : Int} (h0 : 0 ≤ i) (h1 : i < a.length) : rd (a ++ b) i = rd a i := by
  unfold rd
  rw [List.getD_eq_getElem?_getD, List.getD_eq_getElem?_getD, List.getElem?_append_left (by omega)]

theorem rd_append_right {a b : List Int} {i : Int} (h0 : 0 ≤ i) : rd (a ++ b) ((a.length : Int) + i) = rd b i := by
  unfold rd
  rw [List.getD_eq_getElem?_getD, List.getD_eq_getElem?_getD, List.getElem?_append_right (by omega)]
  congr 2
  omega

theorem rd_map {v : List Int} (f : Int → Int) {i : Int} (h0 : 0 ≤ i) (h1 : i < v.length) : rd (v.map f) i = f (rd v i) := by
  obtain ⟨h, e⟩ := rd_get h0 h1
  obtain ⟨h', e'⟩ := rd_get (v := v.map f) h0 (by simpa using h1)
  rw [e, e']
  simp

theorem rd_mem {v : List Int} {i : Int} (h0 : 0 ≤ i) (h1 : i < v.length) : rd v i ∈ v := by
  obtain ⟨h, e⟩ := rd_get h0 h1
  rw [e]
  exact List.getElem_mem h

def IsBest (v : List Int) (but i b : Int) : Prop :=
  (b = -1 ∧ ∀ j, 0 ≤ j → j < i → j = but) ∨
  (0 ≤ b ∧ b < i ∧ b ≠ but ∧ ∀ j, 0 ≤ j → j < i → j ≠ but → rd v j ≤ rd v b ∧ (j < b → rd v j < rd v b))

theorem isBest_unique {v : List Int} {but i a b : Int} (ha : IsBest v but i a) (hb : IsBest v but i b) : a = b := by
  rcases ha with ⟨ha, h⟩ | ⟨ha0, ha1, ha2, h⟩
  · rcases hb with ⟨hb, _⟩ | ⟨hb0, hb1, hb2, _⟩
    · omega
    · exact absurd (h b hb0 hb1) hb2
  · rcases hb with ⟨hb, h'⟩ | ⟨hb0, hb1, hb2, h'⟩
    · exact absurd (h' a ha0 ha1) ha2
    · have h1 := h b hb0 hb1 hb2
      have h2 := h' a ha0 ha1 ha2
      by_cases e : a < b
      · have := h2.2 e; omega
      · by_cases e' : b < a
        · have := h1.2 e'; omega
        · omega

theorem isBest_step {v : List Int} {but i b r : Int} (h0 : 0 ≤ i) (h : IsBest v but i b)
    (hr : (i = but ∧ r = b) ∨ (i ≠ but ∧ b < 0 ∧ r = i) ∨ (i ≠ but ∧ 0 ≤ b ∧ rd v i > rd v b ∧ r = i) ∨ (i ≠ but ∧ 0 ≤ b ∧ ¬ rd v i > rd v b ∧ r = b)) :
    IsBest v but (i + 1) r := by
  rcases hr with ⟨e, rfl⟩ | ⟨ne, hb, rfl⟩ | ⟨ne, hb, hg, rfl⟩ | ⟨ne, hb, hg, rfl⟩
  · rcases h with ⟨h1, h2⟩ | ⟨h1, h2, h3, h4⟩
    · refine .inl ⟨h1, fun j j0 j1 => ?_⟩
      by_cases e' : j < i
      · exact h2 j j0 e'
      · omega
    · refine .inr ⟨h1, by omega, h3, fun j j0 j1 jn => h4 j j0 (by omega) jn⟩
  · rcases h with ⟨h1, h2⟩ | ⟨h1, _⟩
    · refine .inr ⟨h0, by omega, ne, fun j j0 j1 jn => ?_⟩
      by_cases e' : j < r
      · exact absurd (h2 j j0 e') jn
      · have : j = r := by omega
        subst this
        exact ⟨Int.le_refl _, fun h => by omega⟩
    · omega
  · rcases h with ⟨h1, h2⟩ | ⟨h1, h2, h3, h4⟩
    · omega
    · refine .inr ⟨h0, by omega, ne, fun j j0 j1 jn => ?_⟩
      by_cases e' : j < r
      · have := h4 j j0 e' jn
        exact ⟨by omega, fun _ => by omega⟩
      · have : j = r := by omega
        subst this
        exact ⟨Int.le_refl _, fun h => by omega⟩
  · rcases h with ⟨h1, h2⟩ | ⟨h1, h2, h3, h4⟩
    · omega
    · refine .inr ⟨h1, by omega, h3, fun j j0 j1 jn => ?_⟩
      by_cases e' : j < i
      · exact h4 j j0 e' jn
      · have : j = i := by omega
        subst this
        exact ⟨by omega, fun h => by omega⟩

theorem beside_l0 (v : List Int) (but : Int) (hn : v.length ≤ 140737488351232) : ∀ (d : Nat) (i b : Int), 0 ≤ i → i + d = v.length → IsBest v but i b →
    ∃ r, Ev (fun k => top_beside.l0 k v but b v (v.length : Int) i) r ∧ IsBest v but v.length r := by
  intro d
  induction d with
  | zero =>
    intro i b h0 hi hb
    have e : i = v.length := by omega
    subst e
    refine ⟨b, Ev.step (f := fun _ => some b) (fun k => ?_) (Ev.now b), hb⟩
    simp only [top_beside.l0]
    rw [if_neg (by omega)]
  | succ d ih =>
    intro i b h0 hi hb
    have hlt : i < (v.length : Int) := by omega
    have hw : wrap64 (i + 1) = i + 1 := wrap_small (by omega) (by omega)
    by_cases e : i = but
    · obtain ⟨r, hr, hq⟩ := ih (i + 1) b (by omega) (by omega) (isBest_step h0 hb (.inl ⟨e, rfl⟩))
      refine ⟨r, Ev.step (fun k => ?_) hr, hq⟩
      simp only [top_beside.l0]
      rw [if_pos hlt, if_pos h0, if_pos hlt, if_pos e, hw]
    · by_cases e1 : b < 0
      · obtain ⟨r, hr, hq⟩ := ih (i + 1) i (by omega) (by omega) (isBest_step h0 hb (.inr (.inl ⟨e, e1, rfl⟩)))
        refine ⟨r, Ev.step (fun k => ?_) hr, hq⟩
        simp only [top_beside.l0]
        rw [if_pos hlt, if_pos h0, if_pos hlt, if_neg e, if_pos e1, hw]
      · have hbl : b < (v.length : Int) := by
          rcases hb with ⟨h1, _⟩ | ⟨_, h2, _⟩ <;> omega
        by_cases e2 : rd v i > rd v b
        · obtain ⟨r, hr, hq⟩ := ih (i + 1) i (by omega) (by omega) (isBest_step h0 hb (.inr (.inr (.inl ⟨e, by omega, e2, rfl⟩))))
          refine ⟨r, Ev.step (fun k => ?_) hr, hq⟩
          simp only [top_beside.l0]
          rw [if_pos hlt, if_pos h0, if_pos hlt, if_neg e, if_neg e1, if_pos (by omega), if_pos hbl, if_pos e2, hw]
        · obtain ⟨r, hr, hq⟩ := ih (i + 1) b (by omega) (by omega) (isBest_step h0 hb (.inr (.inr (.inr ⟨e, by omega, e2, rfl⟩))))
          refine ⟨r, Ev.step (fun k => ?_) hr, hq⟩
          simp only [top_beside.l0]
          rw [if_pos hlt, if_pos h0, if_pos hlt, if_neg e, if_neg e1, if_pos (by omega), if_pos hbl, if_neg e2, hw]

theorem beside_ev (v : List Int) (but : Int) (hn : v.length ≤ 140737488351232) :
    ∃ r, Ev (fun k => top_beside.f k v but) r ∧ IsBest v but v.length r :=
  beside_l0 v but hn v.length 0 (-1) (by omega) (by omega) (.inl ⟨rfl, fun j h1 h2 => by omega⟩)

theorem best_ev (v : List Int) (hn : v.length ≤ 140737488351232) :
    ∃ r, Ev (fun k => top_Best.f k v) r ∧ IsBest v (-1) v.length r := by
  obtain ⟨r, hr, h⟩ := beside_ev v (-1) hn
  exact ⟨r, Ev.bind hr (Ev.now r), h⟩

theorem two_ev (v : List Int) (hn : v.length ≤ 140737488351232) :
    ∃ a b, Ev (fun k => top_Two.f k v) (a, b) ∧ IsBest v (-1) v.length a ∧ IsBest v a v.length b := by
  obtain ⟨a, ha, h⟩ := best_ev v hn
  obtain ⟨b, hb, h'⟩ := beside_ev v a hn
  exact ⟨a, b, Ev.bind ha (Ev.bind hb (Ev.now (a, b))), h, h'⟩

theorem awake_ev : Ev (fun k => switchboardlaw04_awake.f k) true :=
  Ev.of switchboardlaw04_awake.mono (k := 20) (by decide +kernel)

theorem wf32 {x : Int} (h : (Lit.int .i32 x).wf = true) : -2147483648 ≤ x ∧ x ≤ 2147483647 := by
  simp [Lit.wf, IntKind.min, IntKind.max, IntKind.signed, IntKind.bits] at h
  omega
theorem rd_last (v : List Int) (x : Int) : rd (v ++ [x]) (v.length : Int) = x := by
  have := rd_append_right (a := v) (b := [x]) (i := 0) (by omega)
  rw [Int.add_zero] at this
  rw [this]
  rfl
theorem isBest_there {v : List Int} {a : Int} (h0 : 0 < v.length) (h : IsBest v (-1) v.length a) : 0 ≤ a ∧ a < v.length ∧ ∀ j : Int, 0 ≤ j → j < (v.length : Int) → rd v j ≤ rd v a ∧ (j < a → rd v j < rd v a) := by
  rcases h with ⟨e, h⟩ | ⟨h1, h2, _, h4⟩
  · have := h 0 (by omega) (by omega); omega
  · exact ⟨h1, h2, fun j j0 j1 => h4 j j0 j1 (by omega)⟩
theorem isBest_second {v : List Int} {a b : Int} (h2 : 2 ≤ v.length) (ha : 0 ≤ a ∧ a < v.length) (h : IsBest v a v.length b) : 0 ≤ b ∧ b < v.length ∧ b ≠ a ∧ ∀ j : Int, 0 ≤ j → j < (v.length : Int) → j ≠ a → rd v j ≤ rd v b ∧ (j < b → rd v j < rd v b) := by
  rcases h with ⟨e, h⟩ | h
  · have h6 := h 0 (by omega) (by omega)
    have h7 := h 1 (by omega) (by omega)
    omega
  · exact h
/-- One more behind, not above the one that it is told beside. -/
theorem isBest_more {v : List Int} {but b x : Int} (hb : 0 ≤ b ∧ b < v.length) (hn : b ≠ but) (h : ∀ j : Int, 0 ≤ j → j < (v.length : Int) → j ≠ but → rd v j ≤ rd v b ∧ (j < b → rd v j < rd v b)) (hx : (v.length : Int) ≠ but → x ≤ rd v b) : IsBest (v ++ [x]) but ((v.length : Int) + 1) b := by
  refine .inr ⟨hb.1, by omega, hn, fun j j0 j1 jn => ?_⟩
  rw [rd_append_left hb.1 hb.2]
  by_cases e : j < v.length
  · rw [rd_append_left j0 e]
    exact h j j0 e jn
  · have : j = (v.length : Int) := by omega
    subst this
    rw [rd_last]
    exact ⟨hx jn, fun h => by omega⟩
theorem isBest_top {v : List Int} {x : Int} (h : ∀ j : Int, 0 ≤ j → j < (v.length : Int) → rd v j < x) : IsBest (v ++ [x]) (-1) ((v.length : Int) + 1) (v.length : Int) := by
  refine .inr ⟨by omega, by omega, by omega, fun j j0 j1 jn => ?_⟩
  rw [rd_last]
  by_cases e : j < v.length
  · rw [rd_append_left j0 e]
    have := h j j0 e
    exact ⟨by omega, fun _ => this⟩
  · have : j = (v.length : Int) := by omega
    subst this
    rw [rd_last]
    exact ⟨Int.le_refl _, fun h => by omega⟩
theorem awake2 : Ev (fun k => (switchboardlaw04_awake.f k).bind fun t => some t) true := Ev.bind awake_ev (Ev.now true)
theorem more_l0 (v : List Int) (hn : v.length ≤ 100) (h2 : 2 ≤ v.length) (hv : ∀ x ∈ v, -2147483648 ≤ x ∧ x ≤ 2147483647) : ∀ (d i : Nat), i + d = v.length →
    Ev (fun k => switchboardlaw04_TopMore.l0 k (v.take i) v (v.length : Int) i) true := by
  intro d
  induction d with
  | zero =>
    intro i hi
    have e : i = v.length := by omega
    subst e
    obtain ⟨a, b, hab, ha, hb⟩ := two_ev v (by omega)
    obtain ⟨c, e, hce, hc, he⟩ := two_ev (v ++ [rd v b]) (by rw [List.length_append]; simp; omega)
    obtain ⟨f, g, hfg, hf, hg⟩ := two_ev (v ++ [rd v a + 1]) (by rw [List.length_append]; simp; omega)
    have h1 := isBest_there (by omega) ha
    have h3 := isBest_second h2 ⟨h1.1, h1.2.1⟩ hb
    have hl : ∀ x : Int, (((v ++ [x]).length : Nat) : Int) = (v.length : Int) + 1 := fun x => by rw [List.length_append]; simp
    rw [hl] at hc he hf hg
    have e1 : c = a := isBest_unique hc (isBest_more ⟨h1.1, h1.2.1⟩ (by omega) (fun j j0 j1 _ => h1.2.2 j j0 j1) (fun _ => (h1.2.2 b h3.1 h3.2.1).1))
    subst e1
    have e2 : e = b := isBest_unique he (isBest_more ⟨h3.1, h3.2.1⟩ h3.2.2.1 h3.2.2.2 (fun _ => Int.le_refl _))
    subst e2
    have e3 : f = (v.length : Int) := isBest_unique hf (isBest_top fun j j0 j1 => by have := (h1.2.2 j j0 j1).1; omega)
    subst e3
    have e4 : g = c := isBest_unique hg (isBest_more ⟨h1.1, h1.2.1⟩ (by omega) (fun j j0 j1 _ => h1.2.2 j j0 j1) (fun h => absurd rfl h))
    subst e4
    have hra := hv _ (rd_mem (v := v) (i := g) h1.1 h1.2.1)
    have hw : wrap64 (rd v g + 1) = rd v g + 1 := wrap_small (by omega) (by omega)
    rw [List.take_length]
    refine ev_shift ?_
    simp only [switchboardlaw04_TopMore.l0, if_neg (show ¬ (v.length : Int) < (v.length : Int) by omega)]
    refine Ev.bind hab ?_
    simp only [if_neg (show ¬ g < 0 by omega), if_neg (show ¬ e < 0 by omega), if_neg (show ¬ g ≥ (v.length : Int) by omega), decide_eq_false (show ¬ e ≥ (v.length : Int) by omega)]
    refine ev_shift ?_
    simp only [switchboardlaw04_TopMore.j2, if_neg (show ¬ (false = true) by decide), Option.bind_some, List.nil_append, List.length_nil, List.length_cons, if_pos (show 0 + v.length < 17592186044416 by omega), if_pos (show v.length + (0 + 1) < 17592186044416 by omega), if_pos h1.1, if_pos h1.2.1, if_pos h3.1, if_pos h3.2.1, hw]
    refine Ev.bind hce (Ev.bind hfg ?_)
    simp only [if_true]
    exact awake2
  | succ d ih =>
    intro i hi
    have hlt : (i : Int) < (v.length : Int) := by omega
    have hw : wrap64 ((i : Int) + 1) = ((i + 1 : Nat) : Int) := by rw [wrap_small (by omega) (by omega)]; omega
    have hm := hv _ (rd_mem (v := v) (i := (i : Int)) (by omega) hlt)
    have hl : (v.take i).length = i := by rw [List.length_take]; omega
    refine ev_shift ?_
    simp only [switchboardlaw04_TopMore.l0, if_pos hlt, if_pos (show (0 : Int) ≤ (i : Int) by omega), Option.bind_some, wrap_small (i := rd v (i : Int)) (show -9223372036854775808 ≤ rd v (i : Int) by omega) (show rd v (i : Int) < 9223372036854775808 by omega), hl, List.length_cons, List.length_nil, if_pos (show i + (0 + 1) < 17592186044416 by omega), hw, take_rd (show i < v.length by omega)]
    exact ih (i + 1) (by omega)
theorem more_true (v : List Int) : Ev (fun k => switchboardlaw04_TopMore.j0 k v true) true := by
  refine ev_shift ?_
  simp only [switchboardlaw04_TopMore.j0, if_true]
  exact awake2
theorem TopMore : TopMorePure := by
  intro v _ hv
  refine ev_rounds ?_
  unfold switchboardlaw04_TopMore.f
  by_cases hlen : (v.length : Int) > 100
  · simp only [if_pos hlen]
    exact more_true v
  · simp only [if_neg hlen]
    by_cases h2 : (v.length : Int) < 2
    · simp only [decide_eq_true h2]
      exact more_true v
    · simp only [decide_eq_false h2]
      refine ev_shift ?_
      simp only [switchboardlaw04_TopMore.j0, if_neg (show ¬ (false = true) by decide)]
      exact more_l0 v (by omega) (by omega) (fun x hx => wf32 (hv x hx)) v.length 0 (by omega)

end Go.Proofs.Ytjhekeddpjhimaa.Pure
