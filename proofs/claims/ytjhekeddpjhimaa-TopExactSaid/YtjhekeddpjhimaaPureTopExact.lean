/- Proved here: Two and Best tell just the places of the numbers that rank first and second (for every row of numbers; past 100 numbers the statement asks for its fixed answer alone). No condition. -/
import Derived.Test.YtjhekeddpjhimaaPTopExactx1
namespace Go.Proofs.Ytjhekeddpjhimaa.Pure
open Go.RowKit Go.Proofs.Ytjhekeddpjhimaa.PTopExact Go.Proofs.YtjhekeddpjhimaaW.PrintWords Go.Proofs.YtjhekeddpjhimaaW.PrintLast

theorem wrap_small {i : Int} (h0 : -9223372036854775808 ≤ i) (h1 : i < 9223372036854775808) : wrap64 i = i := by
  unfold wrap64
  omega

theorem ev_rounds {g : Nat → Option Bool} (h : Ev g true) : ∃ k, g k = some true := h.rounds

def IsBest (v : List Int) (but i b : Int) : Prop :=
  (b = -1 ∧ ∀ j, 0 ≤ j → j < i → j = but) ∨
  (0 ≤ b ∧ b < i ∧ b ≠ but ∧ ∀ j, 0 ≤ j → j < i → j ≠ but → rd v j ≤ rd v b ∧ (j < b → rd v j < rd v b))

theorem isBest_unique {v : List Int} {but i a b : Int} (ha : IsBest v but i a) (hb : IsBest v but i b) : a = b := by
  rcases ha with ⟨ha, h⟩ | ⟨ha0, ha1, ha2, h⟩
  · rcases hb with ⟨hb, _⟩ | ⟨hb0, hb1, hb2, _⟩
    · omega
    · exact absurd (h b hb0 hb1) hb2
  · rcases hb with ⟨hb, h'⟩ | ⟨hb0, hb1, hb2, h'⟩
    · exact absurd (h' a ha0 ha1) ha2
    · have h1 := h b hb0 hb1 hb2
      have h2 := h' a ha0 ha1 ha2
      by_cases e : a < b
      · have := h2.2 e; omega
      · by_cases e' : b < a
        · have := h1.2 e'; omega
        · omega

theorem isBest_step {v : List Int} {but i b r : Int} (h0 : 0 ≤ i) (h : IsBest v but i b)
    (hr : (i = but ∧ r = b) ∨ (i ≠ but ∧ b < 0 ∧ r = i) ∨ (i ≠ but ∧ 0 ≤ b ∧ rd v i > rd v b ∧ r = i) ∨ (i ≠ but ∧ 0 ≤ b ∧ ¬ rd v i > rd v b ∧ r = b)) :
    IsBest v but (i + 1) r := by
  rcases hr with ⟨e, rfl⟩ | ⟨ne, hb, rfl⟩ | ⟨ne, hb, hg, rfl⟩ | ⟨ne, hb, hg, rfl⟩
  · rcases h with ⟨h1, h2⟩ | ⟨h1, h2, h3, h4⟩
    · refine .inl ⟨h1, fun j j0 j1 => ?_⟩
      by_cases e' : j < i
      · exact h2 j j0 e'
      · omega
    · refine .inr ⟨h1, by omega, h3, fun j j0 j1 jn => h4 j j0 (by omega) jn⟩
  · rcases h with ⟨h1, h2⟩ | ⟨h1, _⟩
    · refine .inr ⟨h0, by omega, ne, fun j j0 j1 jn => ?_⟩
      by_cases e' : j < r
      · exact absurd (h2 j j0 e') jn
      · have : j = r := by omega
        subst this
        exact ⟨Int.le_refl _, fun h => by omega⟩
    · omega
  · rcases h with ⟨h1, h2⟩ | ⟨h1, h2, h3, h4⟩
    · omega
    · refine .inr ⟨h0, by omega, ne, fun j j0 j1 jn => ?_⟩
      by_cases e' : j < r
      · have := h4 j j0 e' jn
        exact ⟨by omega, fun _ => by omega⟩
      · have : j = r := by omega
        subst this
        exact ⟨Int.le_refl _, fun h => by omega⟩
  · rcases h with ⟨h1, h2⟩ | ⟨h1, h2, h3, h4⟩
    · omega
    · refine .inr ⟨h1, by omega, h3, fun j j0 j1 jn => ?_⟩
      by_cases e' : j < i
      · exact h4 j j0 e' jn
      · have : j = i := by omega
        subst this
        exact ⟨by omega, fun h => by omega⟩

theorem beside_l0 (v : List Int) (but : Int) (hn : v.length ≤ 140737488351232) : ∀ (d : Nat) (i b : Int), 0 ≤ i → i + d = v.length → IsBest v but i b →
    ∃ r, Ev (fun k => top_beside.l0 k v but b v (v.length : Int) i) r ∧ IsBest v but v.length r := by
  intro d
  induction d with
  | zero =>
    intro i b h0 hi hb
    have e : i = v.length := by omega
    subst e
    refine ⟨b, Ev.step (f := fun _ => some b) (fun k => ?_) (Ev.now b), hb⟩
    simp only [top_beside.l0]
    rw [if_neg (by omega)]
  | succ d ih =>
    intro i b h0 hi hb
    have hlt : i < (v.length : Int) := by omega
    have hw : wrap64 (i + 1) = i + 1 := wrap_small (by omega) (by omega)
    by_cases e : i = but
    · obtain ⟨r, hr, hq⟩ := ih (i + 1) b (by omega) (by omega) (isBest_step h0 hb (.inl ⟨e, rfl⟩))
      refine ⟨r, Ev.step (fun k => ?_) hr, hq⟩
      simp only [top_beside.l0]
      rw [if_pos hlt, if_pos h0, if_pos hlt, if_pos e, hw]
    · by_cases e1 : b < 0
      · obtain ⟨r, hr, hq⟩ := ih (i + 1) i (by omega) (by omega) (isBest_step h0 hb (.inr (.inl ⟨e, e1, rfl⟩)))
        refine ⟨r, Ev.step (fun k => ?_) hr, hq⟩
        simp only [top_beside.l0]
        rw [if_pos hlt, if_pos h0, if_pos hlt, if_neg e, if_pos e1, hw]
      · have hbl : b < (v.length : Int) := by
          rcases hb with ⟨h1, _⟩ | ⟨_, h2, _⟩ <;> omega
        by_cases e2 : rd v i > rd v b
        · obtain ⟨r, hr, hq⟩ := ih (i + 1) i (by omega) (by omega) (isBest_step h0 hb (.inr (.inr (.inl ⟨e, by omega, e2, rfl⟩))))
          refine ⟨r, Ev.step (fun k => ?_) hr, hq⟩
          simp only [top_beside.l0]
          rw [if_pos hlt, if_pos h0, if_pos hlt, if_neg e, if_neg e1, if_pos (by omega), if_pos hbl, if_pos e2, hw]
        · obtain ⟨r, hr, hq⟩ := ih (i + 1) b (by omega) (by omega) (isBest_step h0 hb (.inr (.inr (.inr ⟨e, by omega, e2, rfl⟩))))
          refine ⟨r, Ev.step (fun k => ?_) hr, hq⟩
          simp only [top_beside.l0]
          rw [if_pos hlt, if_pos h0, if_pos hlt, if_neg e, if_neg e1, if_pos (by omega), if_pos hbl, if_neg e2, hw]

theorem beside_ev (v : List Int) (but : Int) (hn : v.length ≤ 140737488351232) :
    ∃ r, Ev (fun k => top_beside.f k v but) r ∧ IsBest v but v.length r :=
  beside_l0 v but hn v.length 0 (-1) (by omega) (by omega) (.inl ⟨rfl, fun j h1 h2 => by omega⟩)

theorem best_ev (v : List Int) (hn : v.length ≤ 140737488351232) :
    ∃ r, Ev (fun k => top_Best.f k v) r ∧ IsBest v (-1) v.length r := by
  obtain ⟨r, hr, h⟩ := beside_ev v (-1) hn
  exact ⟨r, Ev.bind hr (Ev.now r), h⟩

theorem two_ev (v : List Int) (hn : v.length ≤ 140737488351232) :
    ∃ a b, Ev (fun k => top_Two.f k v) (a, b) ∧ IsBest v (-1) v.length a ∧ IsBest v a v.length b := by
  obtain ⟨a, ha, h⟩ := best_ev v hn
  obtain ⟨b, hb, h'⟩ := beside_ev v a hn
  exact ⟨a, b, Ev.bind ha (Ev.bind hb (Ev.now (a, b))), h, h'⟩

theorem awake_ev : Ev (fun k => switchboardlaw04_awake.f k) true :=
  Ev.of switchboardlaw04_awake.mono (k := 20) (by decide +kernel)

abbrev beats (v : List Int) (j i : Int) : Prop := rd v j > rd v i ∨ (rd v j = rd v i ∧ j < i)
def cntb (v : List Int) (i : Int) : Nat → Int
  | 0 => 0
  | n + 1 => cntb v i n + (if beats v n i then 1 else 0)

theorem cntb_range (v : List Int) (i : Int) : ∀ n, 0 ≤ cntb v i n ∧ cntb v i n ≤ n := by
  intro n
  induction n with
  | zero => simp [cntb]
  | succ n ih =>
    simp only [cntb]
    split <;> omega

theorem cntb_none (v : List Int) (i : Int) : ∀ n : Nat, (∀ j : Nat, j < n → ¬ beats v j i) → cntb v i n = 0 := by
  intro n
  induction n with
  | zero => intro _; rfl
  | succ n ih =>
    intro h
    simp only [cntb]
    rw [ih (fun j hj => h j (by omega)), if_neg (h n (by omega))]
    rfl

theorem cntb_one (v : List Int) (i : Int) (a : Nat) (ha : beats v a i) : ∀ n : Nat, a < n → 1 ≤ cntb v i n := by
  intro n
  induction n with
  | zero => intro h; omega
  | succ n ih =>
    intro h
    simp only [cntb]
    by_cases e : a = n
    · subst e
      rw [if_pos ha]
      have := (cntb_range v i a).1
      omega
    · have := ih (by omega)
      have h2 : 0 ≤ (if beats v n i then 1 else 0 : Int) := by split <;> omega
      omega

theorem cntb_two (v : List Int) (i : Int) (a b : Nat) (ha : beats v a i) (hb : beats v b i) (hab : a < b) : ∀ n : Nat, b < n → 2 ≤ cntb v i n := by
  intro n
  induction n with
  | zero => intro h; omega
  | succ n ih =>
    intro h
    simp only [cntb]
    by_cases e : b = n
    · subst e
      rw [if_pos hb]
      have := cntb_one v i a ha b hab
      omega
    · have := ih (by omega)
      have h2 : 0 ≤ (if beats v n i then 1 else 0 : Int) := by split <;> omega
      omega

theorem cntb_only (v : List Int) (i : Int) (a : Nat) : ∀ n : Nat, (∀ j : Nat, j < n → j ≠ a → ¬ beats v j i) → cntb v i n ≤ (if a < n then 1 else 0) := by
  intro n
  induction n with
  | zero => intro _; simp [cntb]
  | succ n ih =>
    intro h
    have h1 := ih (fun j hj hn => h j (by omega) hn)
    simp only [cntb]
    by_cases e : n = a
    · subst e
      rw [if_neg (by omega)] at h1
      rw [if_pos (show n < n + 1 by omega)]
      split <;> omega
    · rw [if_neg (h n (by omega) e)]
      by_cases e2 : a < n
      · rw [if_pos e2] at h1
        rw [if_pos (by omega)]
        omega
      · rw [if_neg e2] at h1
        rw [if_neg (by omega)]
        omega

theorem rank_l0 (v : List Int) (at_ : Int) (h0 : 0 ≤ at_) (h1 : at_ < v.length) (hn : v.length ≤ 140737488351232) : ∀ (d i : Nat), i + d = v.length →
    Ev (fun k => switchboardref04_Rank.l0 k v at_ (cntb v at_ i) i) (cntb v at_ v.length) := by
  intro d
  induction d with
  | zero =>
    intro i hi
    have e : i = v.length := by omega
    subst e
    refine Ev.step (f := fun _ => some _) (fun k => ?_) (Ev.now _)
    simp only [switchboardref04_Rank.l0]
    rw [if_neg (by omega)]
  | succ d ih =>
    intro i hi
    have hlt : (i : Int) < (v.length : Int) := by omega
    have hc := cntb_range v at_ i
    have hw : wrap64 ((i : Int) + 1) = ((i + 1 : Nat) : Int) := by rw [wrap_small (by omega) (by omega)]; omega
    have hw2 : wrap64 (cntb v at_ i + 1) = cntb v at_ i + 1 := wrap_small (by omega) (by omega)
    refine Ev.step (fun k => ?_) (ih (i + 1) (by omega))
    simp only [switchboardref04_Rank.l0]
    rw [if_pos hlt, if_pos (by omega), if_pos h0, if_pos h1, hw, hw2]
    have hcs : cntb v at_ (i + 1) = cntb v at_ i + (if beats v i at_ then 1 else 0) := rfl
    rw [hcs]
    by_cases e : rd v i > rd v at_
    · rw [if_pos e, if_pos (.inl e)]
    · rw [if_neg e]
      by_cases e1 : rd v i = rd v at_
      · rw [if_pos e1]
        by_cases e2 : (i : Int) < at_
        · rw [if_pos e2, if_pos (.inr ⟨e1, e2⟩)]
        · rw [if_neg e2, if_neg (by intro h; rcases h with h | h; exact e h; exact e2 h.2)]
          simp
      · rw [if_neg e1, if_neg (by intro h; rcases h with h | h; exact e h; exact e1 h.1)]
        simp

theorem rank_ev (v : List Int) (at_ : Int) (h0 : 0 ≤ at_) (h1 : at_ < v.length) (hn : v.length ≤ 140737488351232) :
    Ev (fun k => switchboardref04_Rank.f k v at_) (cntb v at_ v.length) :=
  rank_l0 v at_ h0 h1 hn v.length 0 (by omega)

theorem of_l0 (v : List Int) (rank t : Int) (hn : v.length ≤ 140737488351232)
    (ht : (t = -1 ∧ ∀ j : Nat, j < v.length → cntb v j v.length ≠ rank) ∨ (0 ≤ t ∧ t < v.length ∧ cntb v t v.length = rank ∧ ∀ j : Nat, (j : Int) < t → cntb v j v.length ≠ rank)) :
    ∀ (d i : Nat), i + d = v.length → (t = -1 ∨ (i : Int) ≤ t) →
    Ev (fun k => switchboardref04_Of.l0 k v rank i) t := by
  intro d
  induction d with
  | zero =>
    intro i hi hit
    have e : t = -1 := by rcases ht with h | h <;> omega
    refine Ev.step (f := fun _ => some _) (fun k => ?_) (Ev.now _)
    simp only [switchboardref04_Of.l0]
    rw [if_neg (by omega), e]
  | succ d ih =>
    intro i hi hit
    have hlt : (i : Int) < (v.length : Int) := by omega
    have hw : wrap64 ((i : Int) + 1) = ((i + 1 : Nat) : Int) := by rw [wrap_small (by omega) (by omega)]; omega
    have hr := rank_ev v i (by omega) hlt hn
    refine Ev.step (f := fun k => (switchboardref04_Rank.f k v i).bind fun t116 => (if t116 = rank then (some (i : Int)) else (switchboardref04_Of.l0 k v rank (wrap64 ((i : Int) + 1))))) (fun k => ?_) ?_
    · simp only [switchboardref04_Of.l0]
      rw [if_pos hlt]
    · refine Ev.bind hr ?_
      rw [hw]
      by_cases e : (i : Int) = t
      · have : cntb v i v.length = rank := by
          rcases ht with h | h
          · omega
          · rw [e]; exact h.2.2.1
        simp only [this, if_true]
        rw [e]
        exact Ev.now t
      · have : cntb v i v.length ≠ rank := by
          rcases ht with h | h
          · exact h.2 i (by omega)
          · exact h.2.2.2 i (by omega)
        simp only [this, if_false]
        exact ih (i + 1) (by omega) (by omega)

theorem of_ev (v : List Int) (rank t : Int) (hn : v.length ≤ 140737488351232)
    (ht : (t = -1 ∧ ∀ j : Nat, j < v.length → cntb v j v.length ≠ rank) ∨ (0 ≤ t ∧ t < v.length ∧ cntb v t v.length = rank ∧ ∀ j : Nat, (j : Int) < t → cntb v j v.length ≠ rank)) :
    Ev (fun k => switchboardref04_Of.f k v rank) t :=
  of_l0 v rank t hn ht v.length 0 (by omega) (by rcases ht with h | h <;> omega)

theorem best_beats {v : List Int} {but n b : Int} (h : IsBest v but n b) (hb : 0 ≤ b) (j : Int) (h0 : 0 ≤ j) (h1 : j < n) (h2 : j ≠ but) (h3 : j ≠ b) : beats v b j ∧ ¬ beats v j b := by
  rcases h with ⟨e, _⟩ | ⟨_, _, _, h⟩
  · omega
  · have hh := h j h0 h1 h2
    constructor
    · unfold beats
      by_cases e : j < b
      · have := hh.2 e; omega
      · omega
    · unfold beats
      intro hb'
      rcases hb' with hb' | ⟨hb', hlt⟩
      · omega
      · have := hh.2 hlt; omega

theorem TopExact : switchboardlaw04_TopExact.Pure := by
  intro v _ hn8 _
  refine ev_rounds ?_
  have hn : v.length ≤ 140737488351232 := by omega
  unfold switchboardlaw04_TopExact.f
  by_cases hlen : (v.length : Int) > 100
  · simp only [if_pos hlen]
    exact Ev.bind awake_ev (Ev.now true)
  · simp only [if_neg hlen]
    obtain ⟨a, b, hab, ha, hb⟩ := two_ev v hn
    obtain ⟨a', ha1, ha2⟩ := best_ev v hn
    have ea : a' = a := isBest_unique ha2 ha
    subst ea
    have irr : ∀ i, ¬ beats v i i := by intro i; unfold beats; omega
    have o0 : Ev (fun k => switchboardref04_Of.f k v 0) a' := by
      refine of_ev v 0 a' hn ?_
      rcases ha with ⟨e, h⟩ | ⟨h0, h1, h2, h3⟩
      · refine .inl ⟨e, fun j hj => ?_⟩
        have := h j (by omega) (by omega)
        omega
      · refine .inr ⟨h0, h1, ?_, fun j hj => ?_⟩
        · refine cntb_none v a' v.length fun j hj => ?_
          by_cases e : (j : Int) = a'
          · rw [e]; exact irr a'
          · exact (best_beats (.inr ⟨h0, h1, h2, h3⟩) h0 j (by omega) (by omega) (by omega) e).2
        · have hbt := (best_beats (.inr ⟨h0, h1, h2, h3⟩) h0 j (by omega) (by omega) (by omega) (by omega)).1
          have := cntb_one v j a'.toNat (by rw [Int.toNat_of_nonneg h0]; exact hbt) v.length (by omega)
          omega
    have o1 : Ev (fun k => switchboardref04_Of.f k v 1) b := by
      refine of_ev v 1 b hn ?_
      rcases hb with ⟨e, h⟩ | ⟨h0, h1, h2, h3⟩
      · refine .inl ⟨e, fun j hj => ?_⟩
        have hja := h j (by omega) (by omega)
        have : cntb v j v.length = 0 := by
          refine cntb_none v j v.length fun i hi => ?_
          have hia := h i (by omega) (by omega)
          rw [hia, hja]
          exact irr _
        omega
      · have ha0 : 0 ≤ a' := by
          rcases ha with ⟨e, h⟩ | ⟨h, _⟩
          · have := h b h0 h1; omega
          · exact h
        have haN : a' < v.length := by rcases ha with ⟨e, _⟩ | ⟨_, h, _⟩ <;> omega
        have hbb : IsBest v a' v.length b := .inr ⟨h0, h1, h2, h3⟩
        refine .inr ⟨h0, h1, ?_, fun j hj => ?_⟩
        · have h5 := cntb_one v b a'.toNat (by rw [Int.toNat_of_nonneg ha0]; exact (best_beats ha ha0 b h0 h1 (by omega) h2).1) v.length (by omega)
          have h6 := cntb_only v b a'.toNat v.length (fun j hj hne => by
            by_cases e : (j : Int) = b
            · rw [e]; exact irr b
            · exact (best_beats hbb h0 j (by omega) (by omega) (by omega) e).2)
          rw [if_pos (by omega)] at h6
          omega
        · by_cases e : (j : Int) = a'
          · have : cntb v j v.length = 0 := by
              refine cntb_none v j v.length fun i hi => ?_
              by_cases e2 : (i : Int) = a'
              · rw [e, e2]; exact irr a'
              · rw [e]; exact (best_beats ha ha0 i (by omega) (by omega) (by omega) e2).2
            omega
          · have k1 := (best_beats ha ha0 j (by omega) (by omega) (by omega) e).1
            have k2 := (best_beats hbb h0 j (by omega) (by omega) e (by omega)).1
            have k3 : 2 ≤ cntb v j v.length := by
              by_cases e3 : a' < b
              · exact cntb_two v j a'.toNat b.toNat (by rw [Int.toNat_of_nonneg ha0]; exact k1) (by rw [Int.toNat_of_nonneg h0]; exact k2) (by omega) v.length (by omega)
              · exact cntb_two v j b.toNat a'.toNat (by rw [Int.toNat_of_nonneg h0]; exact k2) (by rw [Int.toNat_of_nonneg ha0]; exact k1) (by omega) v.length (by omega)
            omega
    refine Ev.bind hab (Ev.bind o0 ?_)
    simp only [if_true]
    refine Ev.bind o1 ?_
    simp only [if_true]
    refine Ev.bind ha1 ?_
    simp only [if_true]
    exact Ev.bind awake_ev (Ev.now true)

end Go.Proofs.Ytjhekeddpjhimaa.Pure
