/- Proved here: one number added to all numbers of a row turns neither of the two places (for every row of 32 bit numbers; past 60 numbers the fixed answer alone). No condition. -/
import Derived.Test.YtjhekeddpjhimaaPTopShiftx1
namespace Go.Proofs.Ytjhekeddpjhimaa.Pure
open Go.RowKit Go.Proofs.Ytjhekeddpjhimaa.PTopShift Go.Proofs.YtjhekeddpjhimaaW.PrintWords Go.Proofs.YtjhekeddpjhimaaW.PrintLast

theorem wrap_small {i : Int} (h0 : -9223372036854775808 ≤ i) (h1 : i < 9223372036854775808) : wrap64 i = i := by
  unfold wrap64
  omega

theorem ev_rounds {g : Nat → Option Bool} (h : Ev g true) : ∃ k, g k = some true := h.rounds

theorem rd_get {v : List Int} {i : Int} (h0 : 0 ≤ i) (h1 : i < v.length) : ∃ h : i.toNat < v.length, rd v i = v[i.toNat]'h := by
  refine ⟨by omega, ?_⟩
  unfold rd
  rw [List.getD_eq_getElem?_getD, List.getElem?_eq_getElem (by omega)]
  rfl

theorem take_rd {v : List Int} {i : Nat} (h : i < v.length) : v.take i ++ [rd v i] = v.take (i + 1) := by
  obtain ⟨h', e⟩ := rd_get (v := v) (i := (i : Int)) (by omega) (by omega)
  rw [e]
  simp only [Int.toNat_natCast]
  rw [List.take_succ_eq_append_getElem h]

theorem rd_append_left {a b : List Int} {i : Int} (h0 : 0 ≤ i) (h1 : i < a.length) : rd (a ++ b) i = rd a i := by
  unfold rd
  rw [List.getD_eq_getElem?_getD, List.getD_eq_getElem?_getD, List.getElem?_append_left (by omega)]

theorem rd_append_right {a b : List Int} {i : Int} (h0 : 0 ≤ i) : rd (a ++ b) ((a.length : Int) + i) = rd b i := by
  unfold rd
  rw [List.getD_eq_getElem?_getD, List.getD_eq_getElem?_getD, List.getElem?_append_right (by omega)]
  congr 2
  omega

theorem rd_map {v : List Int} (f : Int → Int) {i : Int} (h0 : 0 ≤ i) (h1 : i < v.length) : rd (v.map f) i = f (rd v i) := by
  obtain ⟨h, e⟩ := rd_get h0 h1
  obtain ⟨h', e'⟩ := rd_get (v := v.map f) h0 (by simpa using h1)
  rw [e, e']
  simp

theorem rd_mem {v : List Int} {i : Int} (h0 : 0 ≤ i) (h1 : i < v.length) : rd v i ∈ v := by
  obtain ⟨h, e⟩ := rd_get h0 h1
  rw [e]
  exact List.getElem_mem h

def IsBest (v : List Int) (but i b : Int) : Prop :=
  (b = -1 ∧ ∀ j, 0 ≤ j → j < i → j = but) ∨
  (0 ≤ b ∧ b < i ∧ b ≠ but ∧ ∀ j, 0 ≤ j → j < i → j ≠ but → rd v j ≤ rd v b ∧ (j < b → rd v j < rd v b))

theorem isBest_unique {v : List Int} {but i a b : Int} (ha : IsBest v but i a) (hb : IsBest v but i b) : a = b := by
  rcases ha with ⟨ha, h⟩ | ⟨ha0, ha1, ha2, h⟩
  · rcases hb with ⟨hb, _⟩ | ⟨hb0, hb1, hb2, _⟩
    · omega
    · exact absurd (h b hb0 hb1) hb2
  · rcases hb with ⟨hb, h'⟩ | ⟨hb0, hb1, hb2, h'⟩
    · exact absurd (h' a ha0 ha1) ha2
    · have h1 := h b hb0 hb1 hb2
      have h2 := h' a ha0 ha1 ha2
      by_cases e : a < b
      · have := h2.2 e; omega
      · by_cases e' : b < a
        · have := h1.2 e'; omega
        · omega

theorem isBest_step {v : List Int} {but i b r : Int} (h0 : 0 ≤ i) (h : IsBest v but i b)
    (hr : (i = but ∧ r = b) ∨ (i ≠ but ∧ b < 0 ∧ r = i) ∨ (i ≠ but ∧ 0 ≤ b ∧ rd v i > rd v b ∧ r = i) ∨ (i ≠ but ∧ 0 ≤ b ∧ ¬ rd v i > rd v b ∧ r = b)) :
    IsBest v but (i + 1) r := by
  rcases hr with ⟨e, rfl⟩ | ⟨ne, hb, rfl⟩ | ⟨ne, hb, hg, rfl⟩ | ⟨ne, hb, hg, rfl⟩
  · rcases h with ⟨h1, h2⟩ | ⟨h1, h2, h3, h4⟩
    · refine .inl ⟨h1, fun j j0 j1 => ?_⟩
      by_cases e' : j < i
      · exact h2 j j0 e'
      · omega
    · refine .inr ⟨h1, by omega, h3, fun j j0 j1 jn => h4 j j0 (by omega) jn⟩
  · rcases h with ⟨h1, h2⟩ | ⟨h1, _⟩
    · refine .inr ⟨h0, by omega, ne, fun j j0 j1 jn => ?_⟩
      by_cases e' : j < r
      · exact absurd (h2 j j0 e') jn
      · have : j = r := by omega
        subst this
        exact ⟨Int.le_refl _, fun h => by omega⟩
    · omega
  · rcases h with ⟨h1, h2⟩ | ⟨h1, h2, h3, h4⟩
    · omega
    · refine .inr ⟨h0, by omega, ne, fun j j0 j1 jn => ?_⟩
      by_cases e' : j < r
      · have := h4 j j0 e' jn
        exact ⟨by omega, fun _ => by omega⟩
      · have : j = r := by omega
        subst this
        exact ⟨Int.le_refl _, fun h => by omega⟩
  · rcases h with ⟨h1, h2⟩ | ⟨h1, h2, h3, h4⟩
    · omega
    · refine .inr ⟨h1, by omega, h3, fun j j0 j1 jn => ?_⟩
      by_cases e' : j < i
      · exact h4 j j0 e' jn
      · have : j = i := by omega
        subst this
        exact ⟨by omega, fun h => by omega⟩

theorem beside_l0 (v : List Int) (but : Int) (hn : v.length ≤ 140737488351232) : ∀ (d : Nat) (i b : Int), 0 ≤ i → i + d = v.length → IsBest v but i b →
    ∃ r, Ev (fun k => top_beside.l0 k v but b v (v.length : Int) i) r ∧ IsBest v but v.length r := by
  intro d
  induction d with
  | zero =>
    intro i b h0 hi hb
    have e : i = v.length := by omega
    subst e
    refine ⟨b, Ev.step (f := fun _ => some b) (fun k => ?_) (Ev.now b), hb⟩
    simp only [top_beside.l0]
    rw [if_neg (by omega)]
  | succ d ih =>
    intro i b h0 hi hb
    have hlt : i < (v.length : Int) := by omega
    have hw : wrap64 (i + 1) = i + 1 := wrap_small (by omega) (by omega)
    by_cases e : i = but
    · obtain ⟨r, hr, hq⟩ := ih (i + 1) b (by omega) (by omega) (isBest_step h0 hb (.inl ⟨e, rfl⟩))
      refine ⟨r, Ev.step (fun k => ?_) hr, hq⟩
      simp only [top_beside.l0]
      rw [if_pos hlt, if_pos h0, if_pos hlt, if_pos e, hw]
    · by_cases e1 : b < 0
      · obtain ⟨r, hr, hq⟩ := ih (i + 1) i (by omega) (by omega) (isBest_step h0 hb (.inr (.inl ⟨e, e1, rfl⟩)))
        refine ⟨r, Ev.step (fun k => ?_) hr, hq⟩
        simp only [top_beside.l0]
        rw [if_pos hlt, if_pos h0, if_pos hlt, if_neg e, if_pos e1, hw]
      · have hbl : b < (v.length : Int) := by
          rcases hb with ⟨h1, _⟩ | ⟨_, h2, _⟩ <;> omega
        by_cases e2 : rd v i > rd v b
        · obtain ⟨r, hr, hq⟩ := ih (i + 1) i (by omega) (by omega) (isBest_step h0 hb (.inr (.inr (.inl ⟨e, by omega, e2, rfl⟩))))
          refine ⟨r, Ev.step (fun k => ?_) hr, hq⟩
          simp only [top_beside.l0]
          rw [if_pos hlt, if_pos h0, if_pos hlt, if_neg e, if_neg e1, if_pos (by omega), if_pos hbl, if_pos e2, hw]
        · obtain ⟨r, hr, hq⟩ := ih (i + 1) b (by omega) (by omega) (isBest_step h0 hb (.inr (.inr (.inr ⟨e, by omega, e2, rfl⟩))))
          refine ⟨r, Ev.step (fun k => ?_) hr, hq⟩
          simp only [top_beside.l0]
          rw [if_pos hlt, if_pos h0, if_pos hlt, if_neg e, if_neg e1, if_pos (by omega), if_pos hbl, if_neg e2, hw]

theorem beside_ev (v : List Int) (but : Int) (hn : v.length ≤ 140737488351232) :
    ∃ r, Ev (fun k => top_beside.f k v but) r ∧ IsBest v but v.length r :=
  beside_l0 v but hn v.length 0 (-1) (by omega) (by omega) (.inl ⟨rfl, fun j h1 h2 => by omega⟩)

theorem best_ev (v : List Int) (hn : v.length ≤ 140737488351232) :
    ∃ r, Ev (fun k => top_Best.f k v) r ∧ IsBest v (-1) v.length r := by
  obtain ⟨r, hr, h⟩ := beside_ev v (-1) hn
  exact ⟨r, Ev.bind hr (Ev.now r), h⟩

theorem two_ev (v : List Int) (hn : v.length ≤ 140737488351232) :
    ∃ a b, Ev (fun k => top_Two.f k v) (a, b) ∧ IsBest v (-1) v.length a ∧ IsBest v a v.length b := by
  obtain ⟨a, ha, h⟩ := best_ev v hn
  obtain ⟨b, hb, h'⟩ := beside_ev v a hn
  exact ⟨a, b, Ev.bind ha (Ev.bind hb (Ev.now (a, b))), h, h'⟩

theorem awake_ev : Ev (fun k => switchboardlaw04_awake.f k) true :=
  Ev.of switchboardlaw04_awake.mono (k := 20) (by decide +kernel)

theorem wf32 {x : Int} (h : (Lit.int .i32 x).wf = true) : -2147483648 ≤ x ∧ x ≤ 2147483647 := by
  simp [Lit.wf, IntKind.min, IntKind.max, IntKind.signed, IntKind.bits] at h
  omega

theorem isBest_shift {v : List Int} {c but b : Int} (h : IsBest v but v.length b) : IsBest (v.map (fun x => x + c)) but (v.map (fun x => x + c)).length b := by
  rw [List.length_map]
  rcases h with h | ⟨h0, h1, h2, h3⟩
  · exact .inl h
  · refine .inr ⟨h0, h1, h2, fun j j0 j1 jn => ?_⟩
    rw [rd_map _ j0 j1, rd_map _ h0 h1]
    have := h3 j j0 j1 jn
    exact ⟨by omega, fun hh => by have := this.2 hh; omega⟩

theorem shift_l0 (v : List Int) (c : Int) (hn : v.length ≤ 60) (hv : ∀ x ∈ v, -2147483648 ≤ x ∧ x ≤ 2147483647) (hc : -2147483648 ≤ c ∧ c ≤ 2147483647) : ∀ (d i : Nat), i + d = v.length →
    Ev (fun k => switchboardlaw04_TopShift.l0 k c (v.take i) ((v.take i).map (fun x => x + c)) v (v.length : Int) i) true := by
  intro d
  induction d with
  | zero =>
    intro i hi
    have e : i = v.length := by omega
    subst e
    obtain ⟨a, b, hab, ha, hb⟩ := two_ev v (by omega)
    obtain ⟨a', b', hab', ha', hb'⟩ := two_ev (v.map (fun x => x + c)) (by rw [List.length_map]; omega)
    have e1 : a' = a := isBest_unique ha' (isBest_shift ha)
    subst e1
    have e2 : b' = b := isBest_unique hb' (isBest_shift hb)
    subst e2
    rw [List.take_length]
    refine Ev.step (fun k => ?_) (Ev.bind (f := fun k bt120 => (top_Two.f k (v.map (fun x => x + c))).bind fun bt => if bt120.1 = bt.1 then (if bt120.2 = bt.2 then ((switchboardlaw04_awake.f k).bind fun t => (some t)) else (some false)) else (some false)) hab (Ev.bind hab' (f := fun k bt => if a' = bt.1 then (if b' = bt.2 then ((switchboardlaw04_awake.f k).bind fun t => (some t)) else (some false)) else (some false)) ?_))
    · simp only [switchboardlaw04_TopShift.l0]
      rw [if_neg (by omega)]
    · simp only [if_true]
      exact Ev.bind awake_ev (Ev.now true)
  | succ d ih =>
    intro i hi
    have hlt : (i : Int) < (v.length : Int) := by omega
    have hw : wrap64 ((i : Int) + 1) = ((i + 1 : Nat) : Int) := by rw [wrap_small (by omega) (by omega)]; omega
    have hm := hv _ (rd_mem (v := v) (i := (i : Int)) (by omega) hlt)
    refine Ev.step (fun k => ?_) (ih (i + 1) (by omega))
    simp only [switchboardlaw04_TopShift.l0]
    have hl1 : (v.take i).length < 17592186044416 := by rw [List.length_take]; omega
    have hl2 : ((v.take i).map (fun x => x + c)).length < 17592186044416 := by rw [List.length_map]; exact hl1
    rw [if_pos hlt, if_pos (by omega), if_pos hlt, if_pos hl1, if_pos hl2, hw, wrap_small (i := rd v i) (by omega) (by omega), wrap_small (i := c) (by omega) (by omega), wrap_small (i := rd v i + c) (by omega) (by omega)]
    rw [← take_rd (by omega), List.map_append]
    rfl

theorem TopShift : switchboardlaw04_TopShift.Pure := by
  intro v c _ _ hv hc
  refine ev_rounds ?_
  unfold switchboardlaw04_TopShift.f
  by_cases hlen : (v.length : Int) > 60
  · simp only [if_pos hlen]
    exact Ev.bind awake_ev (Ev.now true)
  · simp only [if_neg hlen]
    exact shift_l0 v c (by omega) (fun x hx => wf32 (hv x hx)) (wf32 hc) v.length 0 (by omega)

end Go.Proofs.Ytjhekeddpjhimaa.Pure
