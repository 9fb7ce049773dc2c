/- Proved here: the two places that Two tells are in the row and unlike, and no other number is greater than the second one (for every row of numbers; past 100 numbers the fixed answer alone). No condition. -/
import Derived.Test.YtjhekeddpjhimaaPTopAbovex1
namespace Go.Proofs.Ytjhekeddpjhimaa.Pure
open Go.RowKit Go.Proofs.Ytjhekeddpjhimaa.PTopAbove Go.Proofs.YtjhekeddpjhimaaW.PrintWords Go.Proofs.YtjhekeddpjhimaaW.PrintLast

theorem wrap_small {i : Int} (h0 : -9223372036854775808 ≤ i) (h1 : i < 9223372036854775808) : wrap64 i = i := by
  unfold wrap64
  omega

theorem ev_rounds {g : Nat → Option Bool} (h : Ev g true) : ∃ k, g k = some true := h.rounds

def IsBest (v : List Int) (but i b : Int) : Prop :=
  (b = -1 ∧ ∀ j, 0 ≤ j → j < i → j = but) ∨
  (0 ≤ b ∧ b < i ∧ b ≠ but ∧ ∀ j, 0 ≤ j → j < i → j ≠ but → rd v j ≤ rd v b ∧ (j < b → rd v j < rd v b))

theorem isBest_unique {v : List Int} {but i a b : Int} (ha : IsBest v but i a) (hb : IsBest v but i b) : a = b := by
  rcases ha with ⟨ha, h⟩ | ⟨ha0, ha1, ha2, h⟩
  · rcases hb with ⟨hb, _⟩ | ⟨hb0, hb1, hb2, _⟩
    · omega
    · exact absurd (h b hb0 hb1) hb2
  · rcases hb with ⟨hb, h'⟩ | ⟨hb0, hb1, hb2, h'⟩
    · exact absurd (h' a ha0 ha1) ha2
    · have h1 := h b hb0 hb1 hb2
      have h2 := h' a ha0 ha1 ha2
      by_cases e : a < b
      · have := h2.2 e; omega
      · by_cases e' : b < a
        · have := h1.2 e'; omega
        · omega

theorem isBest_step {v : List Int} {but i b r : Int} (h0 : 0 ≤ i) (h : IsBest v but i b)
    (hr : (i = but ∧ r = b) ∨ (i ≠ but ∧ b < 0 ∧ r = i) ∨ (i ≠ but ∧ 0 ≤ b ∧ rd v i > rd v b ∧ r = i) ∨ (i ≠ but ∧ 0 ≤ b ∧ ¬ rd v i > rd v b ∧ r = b)) :
    IsBest v but (i + 1) r := by
  rcases hr with ⟨e, rfl⟩ | ⟨ne, hb, rfl⟩ | ⟨ne, hb, hg, rfl⟩ | ⟨ne, hb, hg, rfl⟩
  · rcases h with ⟨h1, h2⟩ | ⟨h1, h2, h3, h4⟩
    · refine .inl ⟨h1, fun j j0 j1 => ?_⟩
      by_cases e' : j < i
      · exact h2 j j0 e'
      · omega
    · refine .inr ⟨h1, by omega, h3, fun j j0 j1 jn => h4 j j0 (by omega) jn⟩
  · rcases h with ⟨h1, h2⟩ | ⟨h1, _⟩
    · refine .inr ⟨h0, by omega, ne, fun j j0 j1 jn => ?_⟩
      by_cases e' : j < r
      · exact absurd (h2 j j0 e') jn
      · have : j = r := by omega
        subst this
        exact ⟨Int.le_refl _, fun h => by omega⟩
    · omega
  · rcases h with ⟨h1, h2⟩ | ⟨h1, h2, h3, h4⟩
    · omega
    · refine .inr ⟨h0, by omega, ne, fun j j0 j1 jn => ?_⟩
      by_cases e' : j < r
      · have := h4 j j0 e' jn
        exact ⟨by omega, fun _ => by omega⟩
      · have : j = r := by omega
        subst this
        exact ⟨Int.le_refl _, fun h => by omega⟩
  · rcases h with ⟨h1, h2⟩ | ⟨h1, h2, h3, h4⟩
    · omega
    · refine .inr ⟨h1, by omega, h3, fun j j0 j1 jn => ?_⟩
      by_cases e' : j < i
      · exact h4 j j0 e' jn
      · have : j = i := by omega
        subst this
        exact ⟨by omega, fun h => by omega⟩

theorem beside_l0 (v : List Int) (but : Int) (hn : v.length ≤ 140737488351232) : ∀ (d : Nat) (i b : Int), 0 ≤ i → i + d = v.length → IsBest v but i b →
    ∃ r, Ev (fun k => top_beside.l0 k v but b v (v.length : Int) i) r ∧ IsBest v but v.length r := by
  intro d
  induction d with
  | zero =>
    intro i b h0 hi hb
    have e : i = v.length := by omega
    subst e
    refine ⟨b, Ev.step (f := fun _ => some b) (fun k => ?_) (Ev.now b), hb⟩
    simp only [top_beside.l0]
    rw [if_neg (by omega)]
  | succ d ih =>
    intro i b h0 hi hb
    have hlt : i < (v.length : Int) := by omega
    have hw : wrap64 (i + 1) = i + 1 := wrap_small (by omega) (by omega)
    by_cases e : i = but
    · obtain ⟨r, hr, hq⟩ := ih (i + 1) b (by omega) (by omega) (isBest_step h0 hb (.inl ⟨e, rfl⟩))
      refine ⟨r, Ev.step (fun k => ?_) hr, hq⟩
      simp only [top_beside.l0]
      rw [if_pos hlt, if_pos h0, if_pos hlt, if_pos e, hw]
    · by_cases e1 : b < 0
      · obtain ⟨r, hr, hq⟩ := ih (i + 1) i (by omega) (by omega) (isBest_step h0 hb (.inr (.inl ⟨e, e1, rfl⟩)))
        refine ⟨r, Ev.step (fun k => ?_) hr, hq⟩
        simp only [top_beside.l0]
        rw [if_pos hlt, if_pos h0, if_pos hlt, if_neg e, if_pos e1, hw]
      · have hbl : b < (v.length : Int) := by
          rcases hb with ⟨h1, _⟩ | ⟨_, h2, _⟩ <;> omega
        by_cases e2 : rd v i > rd v b
        · obtain ⟨r, hr, hq⟩ := ih (i + 1) i (by omega) (by omega) (isBest_step h0 hb (.inr (.inr (.inl ⟨e, by omega, e2, rfl⟩))))
          refine ⟨r, Ev.step (fun k => ?_) hr, hq⟩
          simp only [top_beside.l0]
          rw [if_pos hlt, if_pos h0, if_pos hlt, if_neg e, if_neg e1, if_pos (by omega), if_pos hbl, if_pos e2, hw]
        · obtain ⟨r, hr, hq⟩ := ih (i + 1) b (by omega) (by omega) (isBest_step h0 hb (.inr (.inr (.inr ⟨e, by omega, e2, rfl⟩))))
          refine ⟨r, Ev.step (fun k => ?_) hr, hq⟩
          simp only [top_beside.l0]
          rw [if_pos hlt, if_pos h0, if_pos hlt, if_neg e, if_neg e1, if_pos (by omega), if_pos hbl, if_neg e2, hw]

theorem beside_ev (v : List Int) (but : Int) (hn : v.length ≤ 140737488351232) :
    ∃ r, Ev (fun k => top_beside.f k v but) r ∧ IsBest v but v.length r :=
  beside_l0 v but hn v.length 0 (-1) (by omega) (by omega) (.inl ⟨rfl, fun j h1 h2 => by omega⟩)

theorem best_ev (v : List Int) (hn : v.length ≤ 140737488351232) :
    ∃ r, Ev (fun k => top_Best.f k v) r ∧ IsBest v (-1) v.length r := by
  obtain ⟨r, hr, h⟩ := beside_ev v (-1) hn
  exact ⟨r, Ev.bind hr (Ev.now r), h⟩

theorem two_ev (v : List Int) (hn : v.length ≤ 140737488351232) :
    ∃ a b, Ev (fun k => top_Two.f k v) (a, b) ∧ IsBest v (-1) v.length a ∧ IsBest v a v.length b := by
  obtain ⟨a, ha, h⟩ := best_ev v hn
  obtain ⟨b, hb, h'⟩ := beside_ev v a hn
  exact ⟨a, b, Ev.bind ha (Ev.bind hb (Ev.now (a, b))), h, h'⟩

theorem awake_ev : Ev (fun k => switchboardlaw04_awake.f k) true :=
  Ev.of switchboardlaw04_awake.mono (k := 20) (by decide +kernel)

theorem above_l0 (v : List Int) (a b : Int) (h0 : 0 ≤ b) (h1 : b < v.length) (hn : v.length ≤ 140737488351232)
    (h : ∀ j : Int, 0 ≤ j → j < v.length → j ≠ a → j ≠ b → ¬ rd v j > rd v b) : ∀ (d i : Nat), i + d = v.length →
    Ev (fun k => switchboardlaw04_TopAbove.l0 k v a b v (v.length : Int) i) true := by
  intro d
  induction d with
  | zero =>
    intro i hi
    refine Ev.step (f := fun k => (switchboardlaw04_awake.f k).bind fun t => some t) (fun k => ?_) (Ev.bind awake_ev (Ev.now true))
    simp only [switchboardlaw04_TopAbove.l0]
    rw [if_neg (by omega)]
  | succ d ih =>
    intro i hi
    have hlt : (i : Int) < (v.length : Int) := by omega
    have hw : wrap64 ((i : Int) + 1) = ((i + 1 : Nat) : Int) := by rw [wrap_small (by omega) (by omega)]; omega
    refine Ev.step (fun k => ?_) (ih (i + 1) (by omega))
    simp only [switchboardlaw04_TopAbove.l0]
    rw [if_pos hlt, if_pos (by omega), if_pos hlt, hw]
    by_cases e : (i : Int) = a
    · rw [if_pos e]
    · rw [if_neg e]
      by_cases e1 : (i : Int) = b
      · rw [if_pos e1]
      · rw [if_neg e1, if_pos h0, if_pos h1, if_neg (h i (by omega) hlt e e1)]

theorem TopAbove : switchboardlaw04_TopAbove.Pure := by
  intro v _ hn8 _
  refine ev_rounds ?_
  have hn : v.length ≤ 140737488351232 := by omega
  unfold switchboardlaw04_TopAbove.f
  by_cases hlen : (v.length : Int) > 100
  · simp only [if_pos hlen]
    exact Ev.bind awake_ev (Ev.now true)
  · simp only [if_neg hlen]
    obtain ⟨a, b, hab, ha, hb⟩ := two_ev v hn
    refine Ev.bind hab ?_
    by_cases h2 : (v.length : Int) < 2
    · have ea : a = wrap64 ((v.length : Int) - 1) := by
        rw [wrap_small (by omega) (by omega)]
        rcases ha with ⟨e, h⟩ | ⟨h0, h1, _, _⟩
        · by_cases e1 : v.length = 0
          · omega
          · have := h 0 (by omega) (by omega); omega
        · omega
      have eb : b = -1 := by
        rcases hb with ⟨e, _⟩ | ⟨h0, h1, h3, _⟩
        · exact e
        · rcases ha with ⟨e, h⟩ | ⟨h0', h1', _, _⟩
          · have := h b h0 h1; omega
          · omega
      simp only [if_pos h2, if_pos ea, if_pos eb]
      exact Ev.bind awake_ev (Ev.now true)
    · have hA : 0 ≤ a ∧ a < v.length := by
        rcases ha with ⟨e, h⟩ | ⟨h0, h1, _, _⟩
        · have := h 0 (by omega) (by omega); omega
        · exact ⟨h0, h1⟩
      have hB : 0 ≤ b ∧ b < v.length ∧ b ≠ a ∧ ∀ j : Int, 0 ≤ j → j < v.length → j ≠ a → rd v j ≤ rd v b := by
        rcases hb with ⟨e, h⟩ | ⟨h0, h1, h3, h4⟩
        · have k0 := h 0 (by omega) (by omega)
          have k1 := h 1 (by omega) (by omega)
          omega
        · exact ⟨h0, h1, h3, fun j j0 j1 j2 => (h4 j j0 j1 j2).1⟩
      have hba : ¬ (rd v b > rd v a) := by
        rcases ha with ⟨e, h⟩ | ⟨h0, h1, _, h4⟩
        · omega
        · have := (h4 b hB.1 hB.2.1 (by omega)).1; omega
      have e1 : ¬ a < 0 := by omega
      have e2 : ¬ b < 0 := by omega
      have e3 : ¬ a ≥ (v.length : Int) := by omega
      have e4 : ¬ b ≥ (v.length : Int) := by omega
      have e5 : ¬ a = b := by omega
      simp only [if_neg h2, if_neg e1, if_neg e2, if_neg e3, if_neg e4, if_neg e5, if_pos hB.1, if_pos hB.2.1, if_pos hA.1, if_pos hA.2, decide_eq_false hba]
      refine Ev.step (fun k => ?_) (above_l0 v a b hB.1 hB.2.1 hn (fun j j0 j1 ja jb => by have := hB.2.2.2 j j0 j1 ja; omega) v.length 0 (by omega))
      simp only [switchboardlaw04_TopAbove.j0]
      rw [if_neg (by decide)]
      rfl

end Go.Proofs.Ytjhekeddpjhimaa.Pure
