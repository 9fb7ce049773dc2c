/- Proved here: no expert has more parts than its capacity, no two of one slot, and of a beginning of the choices the slots are a beginning (all choices; past 60 tokens the fixed answer alone). No condition. -/
import Derived.Test.YtglcmnhaoeohdaaPr4
namespace Go.Proofs.Ytglcmnhaoeohdaa.Pure
open Go.RowKit Go.Proofs.Ytglcmnhaoeohdaa.Pr Go.Proofs.YtglcmnhaoeohdaaW.PrintWords Go.Proofs.YtglcmnhaoeohdaaW.PrintLast Go.Proofs.YtglcmnhaoeohdaaW.PrintMore
set_option linter.unusedVariables false
set_option linter.unusedSimpArgs false

def SlotsRoomPure : Prop := ∀ (l0 : List S25) (a1 : Int) (a2 : Int) (a3 : Int), l0.length ≤ maxLen → (∀ y ∈ l0, ((Lit.int .i64 y.f0).wf = true) ∧ ((Lit.int .i64 y.f1).wf = true)) → (Lit.int .i64 a1).wf = true → (Lit.int .i64 a2).wf = true → (Lit.int .u8 a3).wf = true → ∃ k, switchboardlaw14_SlotsRoom.f k l0 a1 a2 a3 = some true

theorem wrap_small {i : Int} (h0 : -9223372036854775808 ≤ i) (h1 : i < 9223372036854775808) : wrap64 i = i := by
  unfold wrap64
  omega

theorem ev_rounds {g : Nat → Option Bool} (h : Ev g true) : ∃ k, g k = some true := h.rounds
theorem ev_shift {α : Type} {g : Nat → Option α} {r : α} (h : Ev (fun k => g (k + 1)) r) : Ev g r := Ev.step (fun _ => rfl) h

theorem wf8 {x : Int} (h : (Lit.int .u8 x).wf = true) : 0 ≤ x ∧ x ≤ 255 := by
  simp [Lit.wf, IntKind.min, IntKind.max, IntKind.signed, IntKind.bits] at h
  omega
theorem wf64 {x : Int} (h : (Lit.int .i64 x).wf = true) : -9223372036854775808 ≤ x ∧ x ≤ 9223372036854775807 := by
  simp [Lit.wf, IntKind.min, IntKind.max, IntKind.signed, IntKind.bits] at h
  omega

/-- How often a number stands in a row. -/
def nb (x : Int) : List Int → Int
  | [] => 0
  | y :: r => (if y = x then 1 else 0) + nb x r
theorem nb_append (x : Int) (a b : List Int) : nb x (a ++ b) = nb x a + nb x b := by
  induction a with
  | nil => simp [nb]
  | cons y r ih => simp only [List.cons_append, nb, ih]; omega
theorem nb_range (x : Int) (a : List Int) : 0 ≤ nb x a ∧ nb x a ≤ a.length := by
  induction a with
  | nil => simp [nb]
  | cons y r ih => simp only [nb, List.length_cons]; split <;> omega
def flat : List S25 → List Int
  | [] => []
  | p :: r => p.f0 :: p.f1 :: flat r
theorem flat_append (a b : List S25) : flat (a ++ b) = flat a ++ flat b := by
  induction a with
  | nil => rfl
  | cons p r ih => simp only [List.cons_append, flat, ih]
theorem flat_length (a : List S25) : (flat a).length = 2 * a.length := by
  induction a with
  | nil => rfl
  | cons p r ih => simp only [flat, List.length_cons, ih]; omega
/-- The slot of a part x behind the parts pre. -/
def slotS (e c : Int) (pre : List Int) (x : Int) : Int := if x < 0 then -1 else if x ≥ e then -1 else if nb x pre ≥ c then -1 else nb x pre
def slotsL (e c : Int) : List Int → List S25 → List S25
  | _, [] => []
  | pre, p :: r => (⟨slotS e c pre p.f0, slotS e c (pre ++ [p.f0]) p.f1⟩ : S25) :: slotsL e c (pre ++ [p.f0, p.f1]) r
/-- What the map holds behind the parts pre. -/
def Held (e c : Int) (g : Int → Int) (pre : List Int) : Prop := ∀ x, 0 ≤ x → x < e → (nb x pre < c → g x = nb x pre) ∧ (nb x pre ≥ c → g x ≥ c)
theorem held_slot {e c : Int} {g : Int → Int} {pre : List Int} (h : Held e c g pre) (x : Int) : slotOne e c g x = slotS e c pre x := by
  unfold slotOne slotS
  by_cases h1 : x < 0
  · rw [if_pos h1, if_pos h1]
  rw [if_neg h1, if_neg h1]
  by_cases h2 : x ≥ e
  · rw [if_pos h2, if_pos h2]
  rw [if_neg h2, if_neg h2]
  obtain ⟨ha, hb⟩ := h x (by omega) (by omega)
  by_cases h3 : nb x pre ≥ c
  · rw [if_pos (hb h3), if_pos h3]
  · rw [ha (by omega), if_neg h3]
theorem held_up {e c : Int} {g : Int → Int} {pre : List Int} (h : Held e c g pre) (x : Int) : Held e c (slotUp e c g x) (pre ++ [x]) := by
  intro y hy0 hy1
  obtain ⟨ha, hb⟩ := h y hy0 hy1
  have hn : nb y (pre ++ [x]) = nb y pre + (if x = y then 1 else 0) := by rw [nb_append]; simp [nb]
  unfold slotUp
  by_cases h1 : x < 0
  · rw [if_pos h1, hn, if_neg (by omega)]
    exact ⟨fun h => by rw [ha (by omega)]; omega, fun h => hb (by omega)⟩
  rw [if_neg h1]
  by_cases h2 : x ≥ e
  · rw [if_pos h2, hn, if_neg (by omega)]
    exact ⟨fun h => by rw [ha (by omega)]; omega, fun h => hb (by omega)⟩
  rw [if_neg h2]
  by_cases h3 : g x ≥ c
  · rw [if_pos h3, hn]
    by_cases e1 : x = y
    · subst e1
      rw [if_pos rfl]
      refine ⟨fun h => ?_, fun _ => h3⟩
      have := ha (by omega)
      omega
    · rw [if_neg e1]
      exact ⟨fun h => by rw [ha (by omega)]; omega, fun h => hb (by omega)⟩
  · rw [if_neg h3, hn]
    by_cases e1 : x = y
    · subst e1
      rw [if_pos rfl]
      simp only [if_true]
      have h4 : nb x pre < c := by
        refine Classical.byContradiction fun h5 => h3 (hb (by omega))
      have := ha h4
      exact ⟨fun _ => by omega, fun _ => by omega⟩
    · rw [if_neg e1]
      simp only [if_neg (show ¬ y = x from fun h => e1 h.symm)]
      exact ⟨fun h => by rw [ha (by omega)]; omega, fun h => hb (by omega)⟩
theorem assign_slots (e c : Int) : ∀ (l : List S25) (g : Int → Int) (pre : List Int), Held e c g pre → assignL e c g l = slotsL e c pre l
  | [], _, _, _ => rfl
  | p :: r, g, pre, h => by
    simp only [assignL, slotsL]
    have h1 := held_up h p.f0
    have h2 := held_up h1 p.f1
    rw [held_slot h, held_slot h1, assign_slots e c r _ _ h2, List.append_assoc]
    rfl
theorem slotsL_length (e c : Int) : ∀ (l : List S25) (pre : List Int), (slotsL e c pre l).length = l.length
  | [], _ => rfl
  | p :: r, pre => by simp only [slotsL, List.length_cons, slotsL_length e c r]
theorem slotsL_get (e c : Int) : ∀ (l : List S25) (pre : List Int) (t : Nat) (h : t < l.length) (h' : t < (slotsL e c pre l).length),
    (slotsL e c pre l)[t] = (⟨slotS e c (pre ++ flat (l.take t)) l[t].f0, slotS e c (pre ++ flat (l.take t) ++ [l[t].f0]) l[t].f1⟩ : S25)
  | [], _, _, h, _ => absurd h (by simp)
  | p :: r, pre, 0, _, _ => by simp only [slotsL, List.getElem_cons_zero, List.take_zero, flat, List.append_nil]
  | p :: r, pre, t + 1, h, h' => by
    simp only [slotsL, List.getElem_cons_succ, List.take_succ_cons, flat]
    rw [slotsL_get e c r (pre ++ [p.f0, p.f1]) t (by simpa using h) (by rw [slotsL_length]; simpa using h)]
    simp only [List.append_assoc, List.cons_append, List.nil_append]
theorem held_start (e c : Int) : Held e c (fun _ => 0) [] := fun x _ _ => ⟨fun _ => rfl, fun h => h⟩
theorem rdT_get {l : List S25} {t : Nat} (h : t < l.length) : rd_T25 l (t : Int) = l[t] := by
  unfold rd_T25
  rw [Int.toNat_natCast, List.getD_eq_getElem?_getD, List.getElem?_eq_getElem h]
  rfl
/-- The parts ahead of part k of token t. -/
def preK (l : List S25) (t : Nat) (k : Int) : List Int := if k = 0 then flat (l.take t) else flat (l.take t) ++ [(rd_T25 l (t : Int)).f0]
abbrev partK (l : List S25) (t : Nat) (k : Int) : Int := pick2 (rd_T25 l (t : Int)).f0 (rd_T25 l (t : Int)).f1 k
theorem partK_zero (l : List S25) (t : Nat) : partK l t 0 = (rd_T25 l (t : Int)).f0 := by unfold partK pick2; rw [if_pos rfl]
theorem partK_one (l : List S25) (t : Nat) : partK l t 1 = (rd_T25 l (t : Int)).f1 := by unfold partK pick2; rw [if_neg (by omega)]
theorem preK_length (l : List S25) (t : Nat) (k : Int) (ht : t ≤ l.length) : (preK l t k).length ≤ 2 * t + 1 := by
  unfold preK
  have : (l.take t).length = t := by rw [List.length_take]; omega
  split
  · rw [flat_length]; omega
  · rw [List.length_append, flat_length]; simp; omega
theorem assign_len (e c : Int) (l : List S25) : (assignL e c (fun _ => 0) l).length = l.length := assignL_length e c l _
theorem assign_at (e c : Int) (l : List S25) (t : Nat) (ht : t < l.length) (k : Int) (hk : k = 0 ∨ k = 1) :
    partK (assignL e c (fun _ => 0) l) t k = slotS e c (preK l t k) (partK l t k) := by
  have h : rd_T25 (assignL e c (fun _ => 0) l) (t : Int) = (⟨slotS e c (flat (l.take t)) l[t].f0, slotS e c (flat (l.take t) ++ [l[t].f0]) l[t].f1⟩ : S25) := by
    rw [rdT_get (by rw [assign_len]; exact ht)]
    have e1 := assign_slots e c l _ _ (held_start e c)
    have e2 := slotsL_get e c l [] t ht (by rw [slotsL_length]; exact ht)
    simp only [List.nil_append] at e2
    rw [← e2]
    congr 1
  rcases hk with rfl | rfl
  · rw [partK_zero, partK_zero, h]
    unfold preK
    rw [if_pos rfl, rdT_get ht]
  · rw [partK_one, partK_one, h]
    unfold preK
    rw [if_neg (by omega), rdT_get ht]
theorem slotS_range (e c : Int) (pre : List Int) (x : Int) : slotS e c pre x = -1 ∨ (0 ≤ slotS e c pre x ∧ slotS e c pre x < c ∧ slotS e c pre x = nb x pre ∧ 0 ≤ x ∧ x < e) := by
  unfold slotS
  have := nb_range x pre
  by_cases h1 : x < 0
  · rw [if_pos h1]; exact .inl rfl
  rw [if_neg h1]
  by_cases h2 : x ≥ e
  · rw [if_pos h2]; exact .inl rfl
  rw [if_neg h2]
  by_cases h3 : nb x pre ≥ c
  · rw [if_pos h3]; exact .inl rfl
  · rw [if_neg h3]; exact .inr ⟨by omega, by omega, rfl, by omega, by omega⟩
theorem assign_f {l : List S25} {e c : Int} (he : e ≤ 9223372036854775807) (hl : l.length ≤ 60) : slots_Assign.f l e c = some (assignL e c (fun _ => 0) l) := by
  unfold slots_Assign.f
  rw [if_pos ⟨he, by omega⟩]

theorem flat_take_succ (l : List S25) (x : Int) (i : Nat) (hi : i < l.length) : nb x (flat (l.take (i + 1))) = nb x (flat (l.take i)) + (if partK l i 0 = x then 1 else 0) + (if partK l i 1 = x then 1 else 0) := by
  rw [List.take_succ_eq_append_getElem hi, flat_append, nb_append, partK_zero, partK_one, rdT_get hi]
  simp only [flat, nb]
  omega

theorem awake_f : switchboardlaw14_awake.f = some true := by
  unfold switchboardlaw14_awake.f
  rw [assign_f (by omega) (by simp)]
  rfl

theorem rd_take {l : List S25} {m t : Nat} (h : t < m) (hm : m ≤ l.length) : rd_T25 (l.take m) (t : Int) = rd_T25 l (t : Int) := by
  rw [rdT_get (by rw [List.length_take]; omega), rdT_get (by omega), List.getElem_take]
theorem few_at (e c : Int) (l : List S25) (m t : Nat) (h : t < m) (hm : m ≤ l.length) (k : Int) (hk : k = 0 ∨ k = 1) : partK (assignL e c (fun _ => 0) (l.take m)) t k = partK (assignL e c (fun _ => 0) l) t k := by
  rw [assign_at e c _ t (by rw [List.length_take]; omega) k hk, assign_at e c l t (by omega) k hk]
  have e1 : preK (l.take m) t k = preK l t k := by
    unfold preK
    rw [List.take_take, Nat.min_eq_left (by omega), rd_take h hm]
  have e2 : partK (l.take m) t k = partK l t k := by
    unfold partK
    rw [rd_take h hm]
  rw [e1, e2]
theorem nb_take_mono (l : List S25) (x : Int) (u t : Nat) (h : u ≤ t) : nb x (flat (l.take u)) ≤ nb x (flat (l.take t)) := by
  have e : l.take t = l.take u ++ (l.take t).drop u := by
    have := List.take_append_drop u (l.take t)
    rw [List.take_take, Nat.min_eq_left h] at this
    exact this.symm
  rw [e, flat_append, nb_append]
  have := nb_range x (flat ((l.take t).drop u))
  omega
theorem apart (e c : Int) (l : List S25) (u t : Nat) (hu : u < t) (ht : t < l.length) (k j : Int) (hk : k = 0 ∨ k = 1) (hj : j = 0 ∨ j = 1) (h0 : partK (assignL e c (fun _ => 0) l) t k ≥ 0)
    (h1 : partK (assignL e c (fun _ => 0) l) t k = partK (assignL e c (fun _ => 0) l) u j) : ¬ partK l t k = partK l u j := by
  intro hx
  rw [assign_at e c l t ht k hk] at h0 h1
  rw [assign_at e c l u (by omega) j hj] at h1
  rw [← hx] at h1
  generalize hxx : partK l t k = x at h0 h1 hx
  have a1 := slotS_range e c (preK l t k) x
  have a2 := slotS_range e c (preK l u j) x
  have b1 : nb x (flat (l.take t)) ≤ nb x (preK l t k) := by
    unfold preK
    split
    · omega
    · rw [nb_append]
      have := nb_range x [(rd_T25 l (t : Int)).f0]
      omega
  have b2 := nb_take_mono l x (u + 1) t (by omega)
  have b3 := flat_take_succ l x u (by omega)
  have b4 : nb x (preK l u j) + 1 ≤ nb x (flat (l.take (u + 1))) := by
    rw [b3]
    unfold preK
    rcases hj with rfl | rfl
    · rw [if_pos rfl, if_pos hx.symm]
      split <;> omega
    · rw [if_neg (show ¬ (1 : Int) = 0 by omega), nb_append, if_pos hx.symm]
      simp only [nb]
      rw [partK_zero]
      omega
  omega
theorem room_l3 (l a few : List S25) (e c : Int) (hl : l.length ≤ 60) (ha : a = assignL e c (fun _ => 0) l) (t u : Nat) (hu : u < t) (ht : t < l.length) (k : Int) (hk : k = 0 ∨ k = 1) (z1 z2 z3 z4 z5 : Int)
    (r : Ev (fun q => switchboardlaw14_SlotsRoom.l2 q l c a few t k z1 z2 z3 z4 (wrap64 (z5 + 1))) true) : Ev (fun q => switchboardlaw14_SlotsRoom.l3 q l c a few t k u z1 z2 z3 z4 z5 0) true := by
  have hal : a.length = l.length := by rw [ha, assign_len]
  have step : ∀ j : Int, j = 0 ∨ j = 1 → Ev (fun q => switchboardlaw14_SlotsRoom.l3 q l c a few t k u z1 z2 z3 z4 z5 (wrap64 (j + 1))) true → Ev (fun q => switchboardlaw14_SlotsRoom.l3 q l c a few t k u z1 z2 z3 z4 z5 j) true := by
    intro j hj hr
    refine ev_shift ?_
    simp only [switchboardlaw14_SlotsRoom.l3, if_pos (show j < 2 by omega), if_pos (show 0 ≤ j by omega), if_pos (show k < 2 by omega), if_pos (show 0 ≤ k by omega), if_pos (show (0 : Int) ≤ (t : Int) by omega), if_pos (show (0 : Int) ≤ (u : Int) by omega), if_pos (show (t : Int) < (a.length : Int) by omega), if_pos (show (u : Int) < (a.length : Int) by omega), if_pos (show (t : Int) < (l.length : Int) by omega), if_pos (show (u : Int) < (l.length : Int) by omega)]
    by_cases h1 : partK a t k ≥ 0
    · simp only [if_pos h1]
      by_cases h2 : partK a t k = partK a u j
      · simp only [if_pos h2]
        have h3 : ¬ partK l t k = partK l u j := by
          rw [ha] at h1 h2
          exact apart e c l u t hu ht k j hk hj h1 h2
        simp only [if_neg h3]
        exact hr
      · simp only [if_neg h2]
        exact hr
    · simp only [if_neg h1]
      exact hr
  refine step 0 (.inl rfl) ?_
  rw [show wrap64 (0 + 1) = 1 from wrap_small (by omega) (by omega)]
  refine step 1 (.inr rfl) ?_
  rw [show wrap64 (1 + 1) = 2 from wrap_small (by omega) (by omega)]
  refine ev_shift ?_
  simp only [switchboardlaw14_SlotsRoom.l3, if_neg (show ¬ (2 : Int) < 2 by omega)]
  exact r
theorem room_l2 (l a few : List S25) (e c : Int) (hl : l.length ≤ 60) (ha : a = assignL e c (fun _ => 0) l) (t : Nat) (ht : t < l.length) (k : Int) (hk : k = 0 ∨ k = 1) (z2 z3 z4 : Int)
    (r : Ev (fun q => switchboardlaw14_SlotsRoom.l1 q l c a few t z2 z3 (wrap64 (z4 + 1))) true) : ∀ (d i : Nat), i + d = t → Ev (fun q => switchboardlaw14_SlotsRoom.l2 q l c a few t k z2 z3 z4 t i) true := by
  intro d
  induction d with
  | zero =>
    intro i hi
    refine ev_shift ?_
    simp only [switchboardlaw14_SlotsRoom.l2, if_neg (show ¬ (i : Int) < (t : Int) by omega)]
    exact r
  | succ d ih =>
    intro i hi
    have hw : wrap64 ((i : Int) + 1) = ((i + 1 : Nat) : Int) := by rw [wrap_small (by omega) (by omega)]; omega
    refine ev_shift ?_
    simp only [switchboardlaw14_SlotsRoom.l2, if_pos (show (i : Int) < (t : Int) by omega)]
    refine room_l3 l a few e c hl ha t i (by omega) ht k hk _ _ _ _ _ ?_
    rw [hw]
    exact ih (i + 1) (by omega)
theorem room_l1 (l a few : List S25) (e c : Int) (hl : l.length ≤ 60) (ha : a = assignL e c (fun _ => 0) l) (t : Nat) (ht : t < l.length) (z2 z3 : Int)
    (r : Ev (fun q => switchboardlaw14_SlotsRoom.l0 q l c a few z2 (wrap64 (z3 + 1))) true) : Ev (fun q => switchboardlaw14_SlotsRoom.l1 q l c a few t z2 z3 0) true := by
  have hal : a.length = l.length := by rw [ha, assign_len]
  have step : ∀ j : Int, j = 0 ∨ j = 1 → Ev (fun q => switchboardlaw14_SlotsRoom.l1 q l c a few t z2 z3 (wrap64 (j + 1))) true → Ev (fun q => switchboardlaw14_SlotsRoom.l1 q l c a few t z2 z3 j) true := by
    intro j hj hr
    have hj4 : Ev (fun q => switchboardlaw14_SlotsRoom.j4 q l c a few t j z2 z3 j false) true := by
      refine ev_shift ?_
      simp only [switchboardlaw14_SlotsRoom.j4, if_neg (show ¬ (false = true) by decide)]
      exact room_l2 l a few e c hl ha t ht j hj z2 z3 j hr t 0 (by omega)
    refine ev_shift ?_
    simp only [switchboardlaw14_SlotsRoom.l1, if_pos (show j < 2 by omega), if_pos (show 0 ≤ j by omega), if_pos (show (0 : Int) ≤ (t : Int) by omega), if_pos (show (t : Int) < (a.length : Int) by omega)]
    by_cases h1 : partK a t j ≥ c
    · simp only [if_pos h1]
      have h2 : ¬ partK a t j ≥ 0 := by
        have h3 : partK a t j = slotS e c (preK l t j) (partK l t j) := by rw [ha]; exact assign_at e c l t ht j hj
        have := slotS_range e c (preK l t j) (partK l t j)
        omega
      simp only [decide_eq_false h2]
      exact hj4
    · simp only [if_neg h1]
      exact hj4
  refine step 0 (.inl rfl) ?_
  rw [show wrap64 (0 + 1) = 1 from wrap_small (by omega) (by omega)]
  refine step 1 (.inr rfl) ?_
  rw [show wrap64 (1 + 1) = 2 from wrap_small (by omega) (by omega)]
  refine ev_shift ?_
  simp only [switchboardlaw14_SlotsRoom.l1, if_neg (show ¬ (2 : Int) < 2 by omega)]
  exact r
theorem room_l0 (l a few : List S25) (e c : Int) (m : Nat) (hm : m ≤ l.length) (hl : l.length ≤ 60) (ha : a = assignL e c (fun _ => 0) l) (hf : few = assignL e c (fun _ => 0) (l.take m)) : ∀ (d i : Nat), i + d = l.length →
    Ev (fun q => switchboardlaw14_SlotsRoom.l0 q l c a few (a.length : Int) i) true := by
  have hal : a.length = l.length := by rw [ha, assign_len]
  have hfl : few.length = m := by rw [hf, assign_len, List.length_take]; omega
  intro d
  induction d with
  | zero =>
    intro i hi
    refine ev_shift ?_
    simp only [switchboardlaw14_SlotsRoom.l0, if_neg (show ¬ (i : Int) < (a.length : Int) by omega), awake_f, Option.bind_some]
    exact Ev.now _
  | succ d ih =>
    intro i hi
    have hw : wrap64 ((i : Int) + 1) = ((i + 1 : Nat) : Int) := by rw [wrap_small (by omega) (by omega)]; omega
    have hj2 : Ev (fun q => switchboardlaw14_SlotsRoom.j2 q l c a few i (a.length : Int) i false) true := by
      refine ev_shift ?_
      simp only [switchboardlaw14_SlotsRoom.j2, if_neg (show ¬ (false = true) by decide)]
      refine room_l1 l a few e c hl ha i (by omega) _ _ ?_
      rw [hw]
      exact ih (i + 1) (by omega)
    refine ev_shift ?_
    simp only [switchboardlaw14_SlotsRoom.l0, if_pos (show (i : Int) < (a.length : Int) by omega), if_pos (show (0 : Int) ≤ (i : Int) by omega)]
    by_cases h1 : (i : Int) < (few.length : Int)
    · simp only [if_pos h1]
      have e0 := few_at e c l m i (by omega) hm 0 (.inl rfl)
      have e1 := few_at e c l m i (by omega) hm 1 (.inr rfl)
      rw [← ha, ← hf] at e0 e1
      rw [partK_zero, partK_zero] at e0
      rw [partK_one, partK_one] at e1
      simp only [e0, e1, beq_self_eq_true, Bool.not_true, Bool.or_self]
      exact hj2
    · simp only [if_neg h1]
      exact hj2
theorem SlotsRoom : SlotsRoomPure := by
  intro l e c n _ _ he hc hn
  refine ev_rounds ?_
  have he64 := wf64 he
  have hn8 := wf8 hn
  unfold switchboardlaw14_SlotsRoom.f
  by_cases h : (l.length : Int) > 60
  · simp only [if_pos h, awake_f, Option.bind_some]
    exact Ev.now _
  have h60 : l.length ≤ 60 := by omega
  have w1 : wrap64 n = n := wrap_small (by omega) (by omega)
  obtain ⟨m, hm⟩ : ∃ m : Nat, (m : Int) = mn n (l.length : Int) := ⟨(mn n (l.length : Int)).toNat, Int.toNat_of_nonneg (by unfold mn; split <;> omega)⟩
  have hml : m ≤ l.length := by
    have : mn n (l.length : Int) ≤ (l.length : Int) := by unfold mn; split <;> omega
    omega
  have htl : (l.take m).length = m := by rw [List.length_take]; omega
  simp only [if_neg h, w1, ← hm, assign_f (l := l) (e := e) (c := c) (by omega) h60, Option.bind_some, if_pos (show (0 : Int) ≤ (m : Int) by omega), if_pos (show (m : Int) ≤ (l.length : Int) by omega), Int.toNat_natCast, assign_f (l := l.take m) (e := e) (c := c) (by omega) (by omega), assign_len, if_true, htl, bne_self_eq_false]
  refine ev_shift ?_
  simp only [switchboardlaw14_SlotsRoom.j0, if_neg (show ¬ (false = true) by decide)]
  exact room_l0 l _ _ e c m hml h60 rfl rfl l.length 0 (by omega)

end Go.Proofs.Ytglcmnhaoeohdaa.Pure
