/- Proved here: of two rows joined, the place of the greatest number is that of the first row, or that of the second one where its number is greater (for all rows; past 100 numbers, or none, the fixed answer alone). No condition. -/
import Derived.Test.YtjhekeddpjhimaaPTopJoinx1
namespace Go.Proofs.Ytjhekeddpjhimaa.Pure
open Go.RowKit Go.Proofs.Ytjhekeddpjhimaa.PTopJoin Go.Proofs.YtjhekeddpjhimaaW.PrintWords Go.Proofs.YtjhekeddpjhimaaW.PrintLast

theorem wrap_small {i : Int} (h0 : -9223372036854775808 ≤ i) (h1 : i < 9223372036854775808) : wrap64 i = i := by
  unfold wrap64
  omega

theorem ev_rounds {g : Nat → Option Bool} (h : Ev g true) : ∃ k, g k = some true := h.rounds

theorem rd_get {v : List Int} {i : Int} (h0 : 0 ≤ i) (h1 : i < v.length) : ∃ h : i.toNat < v.length, rd v i = v[i.toNat]'h := by
  refine ⟨by omega, ?_⟩
  unfold rd
  rw [List.getD_eq_getElem?_getD, List.getElem?_eq_getElem (by omega)]
  rfl

theorem take_rd {v : List Int} {i : Nat} (h : i < v.length) : v.take i ++ [rd v i] = v.take (i + 1) := by
  obtain ⟨h', e⟩ := rd_get (v := v) (i := (i : Int)) (by omega) (by omega)
  rw [e]
  simp only [Int.toNat_natCast]
  rw [List.take_succ_eq_append_getElem h]

theorem rd_append_left {a b : List Int} {i : Int} (h0 : 0 ≤ i) (h1 : i < a.length) : rd (a ++ b) i = rd a i := by
  unfold rd
  rw [List.getD_eq_getElem?_getD, List.getD_eq_getElem?_getD, List.getElem?_append_left (by omega)]

theorem rd_append_right {a b : List Int} {i : Int} (h0 : 0 ≤ i) : rd (a ++ b) ((a.length : Int) + i) = rd b i := by
  unfold rd
  rw [List.getD_eq_getElem?_getD, List.getD_eq_getElem?_getD, List.getElem?_append_right (by omega)]
  congr 2
  omega

theorem rd_map {v : List Int} (f : Int → Int) {i : Int} (h0 : 0 ≤ i) (h1 : i < v.length) : rd (v.map f) i = f (rd v i) := by
  obtain ⟨h, e⟩ := rd_get h0 h1
  obtain ⟨h', e'⟩ := rd_get (v := v.map f) h0 (by simpa using h1)
  rw [e, e']
  simp

theorem rd_mem {v : List Int} {i : Int} (h0 : 0 ≤ i) (h1 : i < v.length) : rd v i ∈ v := by
  obtain ⟨h, e⟩ := rd_get h0 h1
  rw [e]
  exact List.getElem_mem h

def IsBest (v : List Int) (but i b : Int) : Prop :=
  (b = -1 ∧ ∀ j, 0 ≤ j → j < i → j = but) ∨
  (0 ≤ b ∧ b < i ∧ b ≠ but ∧ ∀ j, 0 ≤ j → j < i → j ≠ but → rd v j ≤ rd v b ∧ (j < b → rd v j < rd v b))

theorem isBest_unique {v : List Int} {but i a b : Int} (ha : IsBest v but i a) (hb : IsBest v but i b) : a = b := by
  rcases ha with ⟨ha, h⟩ | ⟨ha0, ha1, ha2, h⟩
  · rcases hb with ⟨hb, _⟩ | ⟨hb0, hb1, hb2, _⟩
    · omega
    · exact absurd (h b hb0 hb1) hb2
  · rcases hb with ⟨hb, h'⟩ | ⟨hb0, hb1, hb2, h'⟩
    · exact absurd (h' a ha0 ha1) ha2
    · have h1 := h b hb0 hb1 hb2
      have h2 := h' a ha0 ha1 ha2
      by_cases e : a < b
      · have := h2.2 e; omega
      · by_cases e' : b < a
        · have := h1.2 e'; omega
        · omega

theorem isBest_step {v : List Int} {but i b r : Int} (h0 : 0 ≤ i) (h : IsBest v but i b)
    (hr : (i = but ∧ r = b) ∨ (i ≠ but ∧ b < 0 ∧ r = i) ∨ (i ≠ but ∧ 0 ≤ b ∧ rd v i > rd v b ∧ r = i) ∨ (i ≠ but ∧ 0 ≤ b ∧ ¬ rd v i > rd v b ∧ r = b)) :
    IsBest v but (i + 1) r := by
  rcases hr with ⟨e, rfl⟩ | ⟨ne, hb, rfl⟩ | ⟨ne, hb, hg, rfl⟩ | ⟨ne, hb, hg, rfl⟩
  · rcases h with ⟨h1, h2⟩ | ⟨h1, h2, h3, h4⟩
    · refine .inl ⟨h1, fun j j0 j1 => ?_⟩
      by_cases e' : j < i
      · exact h2 j j0 e'
      · omega
    · refine .inr ⟨h1, by omega, h3, fun j j0 j1 jn => h4 j j0 (by omega) jn⟩
  · rcases h with ⟨h1, h2⟩ | ⟨h1, _⟩
    · refine .inr ⟨h0, by omega, ne, fun j j0 j1 jn => ?_⟩
      by_cases e' : j < r
      · exact absurd (h2 j j0 e') jn
      · have : j = r := by omega
        subst this
        exact ⟨Int.le_refl _, fun h => by omega⟩
    · omega
  · rcases h with ⟨h1, h2⟩ | ⟨h1, h2, h3, h4⟩
    · omega
    · refine .inr ⟨h0, by omega, ne, fun j j0 j1 jn => ?_⟩
      by_cases e' : j < r
      · have := h4 j j0 e' jn
        exact ⟨by omega, fun _ => by omega⟩
      · have : j = r := by omega
        subst this
        exact ⟨Int.le_refl _, fun h => by omega⟩
  · rcases h with ⟨h1, h2⟩ | ⟨h1, h2, h3, h4⟩
    · omega
    · refine .inr ⟨h1, by omega, h3, fun j j0 j1 jn => ?_⟩
      by_cases e' : j < i
      · exact h4 j j0 e' jn
      · have : j = i := by omega
        subst this
        exact ⟨by omega, fun h => by omega⟩

theorem beside_l0 (v : List Int) (but : Int) (hn : v.length ≤ 140737488351232) : ∀ (d : Nat) (i b : Int), 0 ≤ i → i + d = v.length → IsBest v but i b →
    ∃ r, Ev (fun k => top_beside.l0 k v but b v (v.length : Int) i) r ∧ IsBest v but v.length r := by
  intro d
  induction d with
  | zero =>
    intro i b h0 hi hb
    have e : i = v.length := by omega
    subst e
    refine ⟨b, Ev.step (f := fun _ => some b) (fun k => ?_) (Ev.now b), hb⟩
    simp only [top_beside.l0]
    rw [if_neg (by omega)]
  | succ d ih =>
    intro i b h0 hi hb
    have hlt : i < (v.length : Int) := by omega
    have hw : wrap64 (i + 1) = i + 1 := wrap_small (by omega) (by omega)
    by_cases e : i = but
    · obtain ⟨r, hr, hq⟩ := ih (i + 1) b (by omega) (by omega) (isBest_step h0 hb (.inl ⟨e, rfl⟩))
      refine ⟨r, Ev.step (fun k => ?_) hr, hq⟩
      simp only [top_beside.l0]
      rw [if_pos hlt, if_pos h0, if_pos hlt, if_pos e, hw]
    · by_cases e1 : b < 0
      · obtain ⟨r, hr, hq⟩ := ih (i + 1) i (by omega) (by omega) (isBest_step h0 hb (.inr (.inl ⟨e, e1, rfl⟩)))
        refine ⟨r, Ev.step (fun k => ?_) hr, hq⟩
        simp only [top_beside.l0]
        rw [if_pos hlt, if_pos h0, if_pos hlt, if_neg e, if_pos e1, hw]
      · have hbl : b < (v.length : Int) := by
          rcases hb with ⟨h1, _⟩ | ⟨_, h2, _⟩ <;> omega
        by_cases e2 : rd v i > rd v b
        · obtain ⟨r, hr, hq⟩ := ih (i + 1) i (by omega) (by omega) (isBest_step h0 hb (.inr (.inr (.inl ⟨e, by omega, e2, rfl⟩))))
          refine ⟨r, Ev.step (fun k => ?_) hr, hq⟩
          simp only [top_beside.l0]
          rw [if_pos hlt, if_pos h0, if_pos hlt, if_neg e, if_neg e1, if_pos (by omega), if_pos hbl, if_pos e2, hw]
        · obtain ⟨r, hr, hq⟩ := ih (i + 1) b (by omega) (by omega) (isBest_step h0 hb (.inr (.inr (.inr ⟨e, by omega, e2, rfl⟩))))
          refine ⟨r, Ev.step (fun k => ?_) hr, hq⟩
          simp only [top_beside.l0]
          rw [if_pos hlt, if_pos h0, if_pos hlt, if_neg e, if_neg e1, if_pos (by omega), if_pos hbl, if_neg e2, hw]

theorem beside_ev (v : List Int) (but : Int) (hn : v.length ≤ 140737488351232) :
    ∃ r, Ev (fun k => top_beside.f k v but) r ∧ IsBest v but v.length r :=
  beside_l0 v but hn v.length 0 (-1) (by omega) (by omega) (.inl ⟨rfl, fun j h1 h2 => by omega⟩)

theorem best_ev (v : List Int) (hn : v.length ≤ 140737488351232) :
    ∃ r, Ev (fun k => top_Best.f k v) r ∧ IsBest v (-1) v.length r := by
  obtain ⟨r, hr, h⟩ := beside_ev v (-1) hn
  exact ⟨r, Ev.bind hr (Ev.now r), h⟩

theorem two_ev (v : List Int) (hn : v.length ≤ 140737488351232) :
    ∃ a b, Ev (fun k => top_Two.f k v) (a, b) ∧ IsBest v (-1) v.length a ∧ IsBest v a v.length b := by
  obtain ⟨a, ha, h⟩ := best_ev v hn
  obtain ⟨b, hb, h'⟩ := beside_ev v a hn
  exact ⟨a, b, Ev.bind ha (Ev.bind hb (Ev.now (a, b))), h, h'⟩

theorem awake_ev : Ev (fun k => switchboardlaw04_awake.f k) true :=
  Ev.of switchboardlaw04_awake.mono (k := 20) (by decide +kernel)

theorem isBest_in {v : List Int} {b : Int} (h : IsBest v (-1) v.length b) (hv : v.length ≠ 0) : 0 ≤ b ∧ b < v.length ∧ ∀ j : Int, 0 ≤ j → j < v.length → rd v j ≤ rd v b ∧ (j < b → rd v j < rd v b) := by
  rcases h with ⟨_, h⟩ | ⟨h0, h1, _, h3⟩
  · have := h 0 (by omega) (by omega); omega
  · exact ⟨h0, h1, fun j j0 j1 => h3 j j0 j1 (by omega)⟩

theorem split_at {n : Nat} {j : Int} : j < n ∨ ∃ i, 0 ≤ i ∧ j = (n : Int) + i := by
  by_cases h : j < n
  · exact .inl h
  · exact .inr ⟨j - n, by omega, by omega⟩

theorem isBest_join_right {a b : List Int} {x y : Int} (hx : 0 ≤ x ∧ x < a.length ∧ ∀ j : Int, 0 ≤ j → j < a.length → rd a j ≤ rd a x ∧ (j < x → rd a j < rd a x))
    (hy : 0 ≤ y ∧ y < b.length ∧ ∀ j : Int, 0 ≤ j → j < b.length → rd b j ≤ rd b y ∧ (j < y → rd b j < rd b y)) (h : rd b y > rd a x) :
    IsBest (a ++ b) (-1) (a ++ b).length ((a.length : Int) + y) := by
  obtain ⟨x0, x1, hx⟩ := hx
  obtain ⟨y0, y1, hy⟩ := hy
  rw [List.length_append]
  refine .inr ⟨by omega, by omega, by omega, fun j j0 j1 _ => ?_⟩
  rw [rd_append_right y0]
  rcases split_at (n := a.length) (j := j) with hj | ⟨i, i0, rfl⟩
  · rw [rd_append_left j0 hj]
    have := hx j j0 hj
    omega
  · rw [rd_append_right i0]
    have := hy i i0 (by omega)
    exact ⟨this.1, fun hh => this.2 (by omega)⟩

theorem isBest_join_left {a b : List Int} {x y : Int} (hx : 0 ≤ x ∧ x < a.length ∧ ∀ j : Int, 0 ≤ j → j < a.length → rd a j ≤ rd a x ∧ (j < x → rd a j < rd a x))
    (hy : 0 ≤ y ∧ y < b.length ∧ ∀ j : Int, 0 ≤ j → j < b.length → rd b j ≤ rd b y ∧ (j < y → rd b j < rd b y)) (h : ¬ rd b y > rd a x) :
    IsBest (a ++ b) (-1) (a ++ b).length x := by
  obtain ⟨x0, x1, hx⟩ := hx
  obtain ⟨y0, y1, hy⟩ := hy
  rw [List.length_append]
  refine .inr ⟨by omega, by omega, by omega, fun j j0 j1 _ => ?_⟩
  rw [rd_append_left x0 x1]
  rcases split_at (n := a.length) (j := j) with hj | ⟨i, i0, rfl⟩
  · rw [rd_append_left j0 hj]
    exact hx j j0 hj
  · rw [rd_append_right i0]
    have := hy i i0 (by omega)
    exact ⟨by omega, fun hh => by omega⟩

theorem join_j0_true (a b : List Int) : Ev (fun k => switchboardlaw04_TopJoin.j0 k a b true) true := by
  refine Ev.step (f := fun k => (switchboardlaw04_awake.f k).bind fun t => some t) (fun k => ?_) (Ev.bind awake_ev (Ev.now true))
  simp only [switchboardlaw04_TopJoin.j0, if_true]

theorem join_j0_false (a b : List Int) (ha : a.length ≠ 0) (hb : b.length ≠ 0) (ha1 : a.length ≤ 100) (hb1 : b.length ≤ 100) : Ev (fun k => switchboardlaw04_TopJoin.j0 k a b false) true := by
  obtain ⟨x, hx, bx⟩ := best_ev a (by omega)
  obtain ⟨y, hy, by'⟩ := best_ev b (by omega)
  obtain ⟨z, hz, bz⟩ := best_ev (a ++ b) (by rw [List.length_append]; omega)
  have kx := isBest_in bx ha
  have ky := isBest_in by' hb
  have x0 := kx.1
  have x1 := kx.2.1
  have y0 := ky.1
  have y1 := ky.2.1
  have e1 : ¬ x < 0 := by omega
  have e2 : ¬ y < 0 := by omega
  have e3 : ¬ x ≥ (a.length : Int) := by omega
  have e4 : ¬ y ≥ (b.length : Int) := by omega
  refine Ev.step (f := fun k => (top_Best.f k a).bind fun t113 => ((top_Best.f k b).bind fun t114 => (if t113 < 0 then (switchboardlaw04_TopJoin.j1 k a b t113 t114 true) else (if t114 < 0 then (switchboardlaw04_TopJoin.j1 k a b t113 t114 true) else (if t113 ≥ (a.length : Int) then (switchboardlaw04_TopJoin.j1 k a b t113 t114 true) else (switchboardlaw04_TopJoin.j1 k a b t113 t114 (decide (t114 ≥ (b.length : Int))))))))) (fun k => ?_) ?_
  · simp only [switchboardlaw04_TopJoin.j0]
    rw [if_neg (by decide)]
  refine Ev.bind hx (Ev.bind hy ?_)
  simp only [if_neg e1, if_neg e2, if_neg e3, decide_eq_false e4]
  have hl1 : ([] : List Int).length + a.length < 17592186044416 := by simp; omega
  have hl2 : a.length + b.length < 17592186044416 := by omega
  by_cases hg : rd b y > rd a x
  · have ez : z = wrap64 ((a.length : Int) + y) := by
      rw [wrap_small (by omega) (by omega)]
      exact isBest_unique bz (isBest_join_right kx ky hg)
    refine Ev.step (f := fun k => (top_Best.f k (a ++ b)).bind fun t126 => (if t126 = (wrap64 ((a.length : Int) + y)) then ((switchboardlaw04_awake.f k).bind fun t127 => (some t127)) else (some false))) (fun k => ?_) ?_
    · simp only [switchboardlaw04_TopJoin.j1]
      rw [if_neg (by decide), if_pos y0, if_pos y1, if_pos x0, if_pos x1, if_pos hg]
      simp only [Option.bind_some]
      rw [if_pos hl1]
      simp only [List.nil_append]
      rw [if_pos hl2]
    · refine Ev.bind hz ?_
      simp only [if_pos ez]
      exact Ev.bind awake_ev (Ev.now true)
  · have ez : z = x := isBest_unique bz (isBest_join_left kx ky hg)
    refine Ev.step (f := fun k => (top_Best.f k (a ++ b)).bind fun t137 => (if t137 = x then ((switchboardlaw04_awake.f k).bind fun t138 => (some t138)) else (some false))) (fun k => ?_) ?_
    · simp only [switchboardlaw04_TopJoin.j1]
      rw [if_neg (by decide), if_pos y0, if_pos y1, if_pos x0, if_pos x1, if_neg hg]
      simp only [Option.bind_some]
      rw [if_pos hl1]
      simp only [List.nil_append]
      rw [if_pos hl2]
    · refine Ev.bind hz ?_
      simp only [if_pos ez]
      exact Ev.bind awake_ev (Ev.now true)

theorem TopJoin : switchboardlaw04_TopJoin.Pure := by
  intro a b _ _ _ _ _ _
  refine ev_rounds ?_
  unfold switchboardlaw04_TopJoin.f
  by_cases h1 : (a.length : Int) > 100
  · simp only [if_pos h1]
    exact join_j0_true a b
  · by_cases h2 : (b.length : Int) > 100
    · simp only [if_neg h1, if_pos h2]
      exact join_j0_true a b
    · by_cases h3 : (a.length : Int) = 0
      · simp only [if_neg h1, if_neg h2, if_pos h3]
        exact join_j0_true a b
      · simp only [if_neg h1, if_neg h2, if_neg h3]
        by_cases h4 : (b.length : Int) = 0
        · rw [beq_iff_eq.2 h4]
          exact join_j0_true a b
        · rw [beq_eq_false_iff_ne.2 h4]
          exact join_j0_false a b (by omega) (by omega) (by omega) (by omega)

end Go.Proofs.Ytjhekeddpjhimaa.Pure
