/- Proved here: where there is no room, or no expert, there is no slot; choices of nobody have none (all choices; past 60 tokens the fixed answer alone). No condition. -/
import Derived.Test.YtglcmnhaoeohdaaPr6
namespace Go.Proofs.Ytglcmnhaoeohdaa.Pure
open Go.RowKit Go.Proofs.Ytglcmnhaoeohdaa.Pr Go.Proofs.YtglcmnhaoeohdaaW.PrintWords Go.Proofs.YtglcmnhaoeohdaaW.PrintLast Go.Proofs.YtglcmnhaoeohdaaW.PrintMore
set_option linter.unusedVariables false
set_option linter.unusedSimpArgs false

def SlotsNonePure : Prop := ∀ (l0 : List S25) (a1 : Int), l0.length ≤ maxLen → (∀ y ∈ l0, ((Lit.int .i64 y.f0).wf = true) ∧ ((Lit.int .i64 y.f1).wf = true)) → (Lit.int .u8 a1).wf = true → ∃ k, switchboardlaw14_SlotsNone.f k l0 a1 = some true

theorem wrap_small {i : Int} (h0 : -9223372036854775808 ≤ i) (h1 : i < 9223372036854775808) : wrap64 i = i := by
  unfold wrap64
  omega

theorem ev_rounds {g : Nat → Option Bool} (h : Ev g true) : ∃ k, g k = some true := h.rounds
theorem ev_shift {α : Type} {g : Nat → Option α} {r : α} (h : Ev (fun k => g (k + 1)) r) : Ev g r := Ev.step (fun _ => rfl) h

theorem wf8 {x : Int} (h : (Lit.int .u8 x).wf = true) : 0 ≤ x ∧ x ≤ 255 := by
  simp [Lit.wf, IntKind.min, IntKind.max, IntKind.signed, IntKind.bits] at h
  omega
theorem wf64 {x : Int} (h : (Lit.int .i64 x).wf = true) : -9223372036854775808 ≤ x ∧ x ≤ 9223372036854775807 := by
  simp [Lit.wf, IntKind.min, IntKind.max, IntKind.signed, IntKind.bits] at h
  omega

/-- How often a number stands in a row. -/
def nb (x : Int) : List Int → Int
  | [] => 0
  | y :: r => (if y = x then 1 else 0) + nb x r
theorem nb_append (x : Int) (a b : List Int) : nb x (a ++ b) = nb x a + nb x b := by
  induction a with
  | nil => simp [nb]
  | cons y r ih => simp only [List.cons_append, nb, ih]; omega
theorem nb_range (x : Int) (a : List Int) : 0 ≤ nb x a ∧ nb x a ≤ a.length := by
  induction a with
  | nil => simp [nb]
  | cons y r ih => simp only [nb, List.length_cons]; split <;> omega
def flat : List S25 → List Int
  | [] => []
  | p :: r => p.f0 :: p.f1 :: flat r
theorem flat_append (a b : List S25) : flat (a ++ b) = flat a ++ flat b := by
  induction a with
  | nil => rfl
  | cons p r ih => simp only [List.cons_append, flat, ih]
theorem flat_length (a : List S25) : (flat a).length = 2 * a.length := by
  induction a with
  | nil => rfl
  | cons p r ih => simp only [flat, List.length_cons, ih]; omega
/-- The slot of a part x behind the parts pre. -/
def slotS (e c : Int) (pre : List Int) (x : Int) : Int := if x < 0 then -1 else if x ≥ e then -1 else if nb x pre ≥ c then -1 else nb x pre
def slotsL (e c : Int) : List Int → List S25 → List S25
  | _, [] => []
  | pre, p :: r => (⟨slotS e c pre p.f0, slotS e c (pre ++ [p.f0]) p.f1⟩ : S25) :: slotsL e c (pre ++ [p.f0, p.f1]) r
/-- What the map holds behind the parts pre. -/
def Held (e c : Int) (g : Int → Int) (pre : List Int) : Prop := ∀ x, 0 ≤ x → x < e → (nb x pre < c → g x = nb x pre) ∧ (nb x pre ≥ c → g x ≥ c)
theorem held_slot {e c : Int} {g : Int → Int} {pre : List Int} (h : Held e c g pre) (x : Int) : slotOne e c g x = slotS e c pre x := by
  unfold slotOne slotS
  by_cases h1 : x < 0
  · rw [if_pos h1, if_pos h1]
  rw [if_neg h1, if_neg h1]
  by_cases h2 : x ≥ e
  · rw [if_pos h2, if_pos h2]
  rw [if_neg h2, if_neg h2]
  obtain ⟨ha, hb⟩ := h x (by omega) (by omega)
  by_cases h3 : nb x pre ≥ c
  · rw [if_pos (hb h3), if_pos h3]
  · rw [ha (by omega), if_neg h3]
theorem held_up {e c : Int} {g : Int → Int} {pre : List Int} (h : Held e c g pre) (x : Int) : Held e c (slotUp e c g x) (pre ++ [x]) := by
  intro y hy0 hy1
  obtain ⟨ha, hb⟩ := h y hy0 hy1
  have hn : nb y (pre ++ [x]) = nb y pre + (if x = y then 1 else 0) := by rw [nb_append]; simp [nb]
  unfold slotUp
  by_cases h1 : x < 0
  · rw [if_pos h1, hn, if_neg (by omega)]
    exact ⟨fun h => by rw [ha (by omega)]; omega, fun h => hb (by omega)⟩
  rw [if_neg h1]
  by_cases h2 : x ≥ e
  · rw [if_pos h2, hn, if_neg (by omega)]
    exact ⟨fun h => by rw [ha (by omega)]; omega, fun h => hb (by omega)⟩
  rw [if_neg h2]
  by_cases h3 : g x ≥ c
  · rw [if_pos h3, hn]
    by_cases e1 : x = y
    · subst e1
      rw [if_pos rfl]
      refine ⟨fun h => ?_, fun _ => h3⟩
      have := ha (by omega)
      omega
    · rw [if_neg e1]
      exact ⟨fun h => by rw [ha (by omega)]; omega, fun h => hb (by omega)⟩
  · rw [if_neg h3, hn]
    by_cases e1 : x = y
    · subst e1
      rw [if_pos rfl]
      simp only [if_true]
      have h4 : nb x pre < c := by
        refine Classical.byContradiction fun h5 => h3 (hb (by omega))
      have := ha h4
      exact ⟨fun _ => by omega, fun _ => by omega⟩
    · rw [if_neg e1]
      simp only [if_neg (show ¬ y = x from fun h => e1 h.symm)]
      exact ⟨fun h => by rw [ha (by omega)]; omega, fun h => hb (by omega)⟩
theorem assign_slots (e c : Int) : ∀ (l : List S25) (g : Int → Int) (pre : List Int), Held e c g pre → assignL e c g l = slotsL e c pre l
  | [], _, _, _ => rfl
  | p :: r, g, pre, h => by
    simp only [assignL, slotsL]
    have h1 := held_up h p.f0
    have h2 := held_up h1 p.f1
    rw [held_slot h, held_slot h1, assign_slots e c r _ _ h2, List.append_assoc]
    rfl
theorem slotsL_length (e c : Int) : ∀ (l : List S25) (pre : List Int), (slotsL e c pre l).length = l.length
  | [], _ => rfl
  | p :: r, pre => by simp only [slotsL, List.length_cons, slotsL_length e c r]
theorem slotsL_get (e c : Int) : ∀ (l : List S25) (pre : List Int) (t : Nat) (h : t < l.length) (h' : t < (slotsL e c pre l).length),
    (slotsL e c pre l)[t] = (⟨slotS e c (pre ++ flat (l.take t)) l[t].f0, slotS e c (pre ++ flat (l.take t) ++ [l[t].f0]) l[t].f1⟩ : S25)
  | [], _, _, h, _ => absurd h (by simp)
  | p :: r, pre, 0, _, _ => by simp only [slotsL, List.getElem_cons_zero, List.take_zero, flat, List.append_nil]
  | p :: r, pre, t + 1, h, h' => by
    simp only [slotsL, List.getElem_cons_succ, List.take_succ_cons, flat]
    rw [slotsL_get e c r (pre ++ [p.f0, p.f1]) t (by simpa using h) (by rw [slotsL_length]; simpa using h)]
    simp only [List.append_assoc, List.cons_append, List.nil_append]
theorem held_start (e c : Int) : Held e c (fun _ => 0) [] := fun x _ _ => ⟨fun _ => rfl, fun h => h⟩
theorem rdT_get {l : List S25} {t : Nat} (h : t < l.length) : rd_T25 l (t : Int) = l[t] := by
  unfold rd_T25
  rw [Int.toNat_natCast, List.getD_eq_getElem?_getD, List.getElem?_eq_getElem h]
  rfl
/-- The parts ahead of part k of token t. -/
def preK (l : List S25) (t : Nat) (k : Int) : List Int := if k = 0 then flat (l.take t) else flat (l.take t) ++ [(rd_T25 l (t : Int)).f0]
def partK (l : List S25) (t : Nat) (k : Int) : Int := pick2 (rd_T25 l (t : Int)).f0 (rd_T25 l (t : Int)).f1 k
theorem partK_zero (l : List S25) (t : Nat) : partK l t 0 = (rd_T25 l (t : Int)).f0 := by unfold partK pick2; rw [if_pos rfl]
theorem partK_one (l : List S25) (t : Nat) : partK l t 1 = (rd_T25 l (t : Int)).f1 := by unfold partK pick2; rw [if_neg (by omega)]
theorem preK_length (l : List S25) (t : Nat) (k : Int) (ht : t ≤ l.length) : (preK l t k).length ≤ 2 * t + 1 := by
  unfold preK
  have : (l.take t).length = t := by rw [List.length_take]; omega
  split
  · rw [flat_length]; omega
  · rw [List.length_append, flat_length]; simp; omega
theorem assign_len (e c : Int) (l : List S25) : (assignL e c (fun _ => 0) l).length = l.length := assignL_length e c l _
theorem assign_at (e c : Int) (l : List S25) (t : Nat) (ht : t < l.length) (k : Int) (hk : k = 0 ∨ k = 1) :
    partK (assignL e c (fun _ => 0) l) t k = slotS e c (preK l t k) (partK l t k) := by
  have h : rd_T25 (assignL e c (fun _ => 0) l) (t : Int) = (⟨slotS e c (flat (l.take t)) l[t].f0, slotS e c (flat (l.take t) ++ [l[t].f0]) l[t].f1⟩ : S25) := by
    rw [rdT_get (by rw [assign_len]; exact ht)]
    have e1 := assign_slots e c l _ _ (held_start e c)
    have e2 := slotsL_get e c l [] t ht (by rw [slotsL_length]; exact ht)
    simp only [List.nil_append] at e2
    rw [← e2]
    congr 1
  rcases hk with rfl | rfl
  · rw [partK_zero, partK_zero, h]
    unfold preK
    rw [if_pos rfl, rdT_get ht]
  · rw [partK_one, partK_one, h]
    unfold preK
    rw [if_neg (by omega), rdT_get ht]
theorem slotS_range (e c : Int) (pre : List Int) (x : Int) : slotS e c pre x = -1 ∨ (0 ≤ slotS e c pre x ∧ slotS e c pre x < c ∧ slotS e c pre x = nb x pre ∧ 0 ≤ x ∧ x < e) := by
  unfold slotS
  have := nb_range x pre
  by_cases h1 : x < 0
  · rw [if_pos h1]; exact .inl rfl
  rw [if_neg h1]
  by_cases h2 : x ≥ e
  · rw [if_pos h2]; exact .inl rfl
  rw [if_neg h2]
  by_cases h3 : nb x pre ≥ c
  · rw [if_pos h3]; exact .inl rfl
  · rw [if_neg h3]; exact .inr ⟨by omega, by omega, rfl, by omega, by omega⟩
theorem assign_f {l : List S25} {e c : Int} (he : e ≤ 9223372036854775807) (hl : l.length ≤ 60) : slots_Assign.f l e c = some (assignL e c (fun _ => 0) l) := by
  unfold slots_Assign.f
  rw [if_pos ⟨he, by omega⟩]
theorem pk (l : List S25) (t : Nat) (k : Int) : pick2 (rd_T25 l (t : Int)).f0 (rd_T25 l (t : Int)).f1 k = partK l t k := rfl

theorem awake_f : switchboardlaw14_awake.f = some true := by
  unfold switchboardlaw14_awake.f
  rw [assign_f (by omega) (by simp)]
  rfl

theorem slotS_noroom (e : Int) (pre : List Int) (x : Int) : slotS e 0 pre x = -1 := by
  rcases slotS_range e 0 pre x with h | h
  · exact h
  · omega
theorem slotS_noone (c : Int) (pre : List Int) (x : Int) : slotS 0 c pre x = -1 := by
  rcases slotS_range 0 c pre x with h | h
  · exact h
  · omega
theorem flat_zeros (n : Nat) : nb 0 (flat (List.replicate n z25)) = 2 * (n : Int) := by
  induction n with
  | zero => rfl
  | succ n ih =>
    rw [List.replicate_succ]
    simp only [flat, nb]
    rw [ih, show z25.f0 = 0 from rfl, show z25.f1 = 0 from rfl, if_pos rfl]
    omega
theorem rd_zero_pairs (n t : Nat) (h : t < n) : rd_T25 (List.replicate n z25) (t : Int) = z25 := by
  rw [rdT_get (by simpa using h), List.getElem_replicate]
theorem zeros_at (n t : Nat) (h : t < n) : partK (assignL 1 (2 * (n : Int)) (fun _ => 0) (List.replicate n z25)) t 0 = 2 * (t : Int) ∧ partK (assignL 1 (2 * (n : Int)) (fun _ => 0) (List.replicate n z25)) t 1 = 2 * (t : Int) + 1 := by
  have hl : t < (List.replicate n z25).length := by simpa using h
  have h0 := flat_zeros t
  have ht : (List.replicate n z25).take t = List.replicate t z25 := by rw [List.take_replicate, Nat.min_eq_left (by omega)]
  have e0 : (z25).f0 = 0 := rfl
  have e1 : (z25).f1 = 0 := rfl
  constructor
  · rw [assign_at _ _ _ t hl 0 (.inl rfl), partK_zero, rd_zero_pairs n t h, e0]
    unfold preK slotS
    rw [if_pos rfl, ht, h0, if_neg (by omega), if_neg (by omega), if_neg (by omega)]
  · have hpre : preK (List.replicate n z25) t 1 = flat (List.replicate t z25) ++ [0] := by
      unfold preK
      rw [if_neg (by omega), rd_zero_pairs n t h, e0, ht]
    rw [assign_at _ _ _ t hl 1 (.inr rfl), partK_one, rd_zero_pairs n t h, e1, hpre]
    have h1 : nb 0 (flat (List.replicate t z25) ++ [0]) = 2 * (t : Int) + 1 := by rw [nb_append, h0]; rfl
    unfold slotS
    rw [h1, if_neg (by omega), if_neg (by omega), if_neg (by omega)]
theorem none_l0 (a b c : List S25) (n : Nat) (hn : n ≤ 60) (ha : a.length = n) (hb : b.length = n) (hc : c.length = n)
    (h : ∀ t : Nat, t < n → partK a t 0 = -1 ∧ partK a t 1 = -1 ∧ partK b t 0 = -1 ∧ partK b t 1 = -1 ∧ partK c t 0 = 2 * (t : Int) ∧ partK c t 1 = 2 * (t : Int) + 1) : ∀ (d i : Nat), i + d = n →
    Ev (fun k => switchboardlaw14_SlotsNone.l0 k a b c (a.length : Int) i) true := by
  intro d
  induction d with
  | zero =>
    intro i hi
    refine ev_shift ?_
    simp only [switchboardlaw14_SlotsNone.l0, if_neg (show ¬ (i : Int) < (a.length : Int) by omega), awake_f, Option.bind_some]
    exact Ev.now _
  | succ d ih =>
    intro i hi
    have hw : wrap64 ((i : Int) + 1) = ((i + 1 : Nat) : Int) := by rw [wrap_small (by omega) (by omega)]; omega
    obtain ⟨h1, h2, h3, h4, h5, h6⟩ := h i (by omega)
    rw [partK_zero] at h1 h3 h5
    rw [partK_one] at h2 h4 h6
    have w2 : wrap64 (2 * (i : Int)) = 2 * (i : Int) := wrap_small (by omega) (by omega)
    have w3 : wrap64 (2 * (i : Int) + 1) = 2 * (i : Int) + 1 := wrap_small (by omega) (by omega)
    refine ev_shift ?_
    simp only [switchboardlaw14_SlotsNone.l0, if_pos (show (i : Int) < (a.length : Int) by omega), if_pos (show (i : Int) < (b.length : Int) by omega), if_pos (show (i : Int) < (c.length : Int) by omega), if_pos (show (0 : Int) ≤ (i : Int) by omega), hw, h1, h2, h3, h4, h5, h6, w2, w3, beq_self_eq_true, Bool.not_true, Bool.or_self, if_neg (show ¬ (false = true) by decide)]
    exact ih (i + 1) (by omega)
theorem SlotsNone : SlotsNonePure := by
  intro l n _ _ hn
  refine ev_rounds ?_
  have hn8 := wf8 hn
  have hw : wrap64 n = n := wrap_small (by omega) (by omega)
  unfold switchboardlaw14_SlotsNone.f
  by_cases h : (l.length : Int) > 60
  · simp only [if_pos h, awake_f, Option.bind_some]
    exact Ev.now _
  · have h60 : l.length ≤ 60 := by omega
    have hw2 : wrap64 (2 * (l.length : Int)) = 2 * (l.length : Int) := wrap_small (by omega) (by omega)
    have e1 := assign_f (l := l) (e := n) (c := 0) (by omega) h60
    have e2 := assign_f (l := l) (e := 0) (c := n) (by omega) h60
    have e3 := assign_f (l := List.replicate l.length z25) (e := 1) (c := 2 * (l.length : Int)) (by omega) (by simpa using h60)
    simp only [if_neg h, hw, hw2, e1, e2, e3, Option.bind_some, Int.toNat_natCast, if_pos (show (0 : Int) ≤ (l.length : Int) by omega), if_pos (show l.length ≤ 17592186044416 by omega), assign_len, List.length_replicate, if_true, bne_self_eq_false]
    refine ev_shift ?_
    simp only [switchboardlaw14_SlotsNone.j0, if_neg (show ¬ (false = true) by decide)]
    refine none_l0 _ _ _ l.length h60 (assign_len _ _ _) (assign_len _ _ _) (by rw [assign_len]; simp) (fun t ht => ?_) l.length 0 (by omega)
    obtain ⟨z1, z2⟩ := zeros_at l.length t ht
    refine ⟨?_, ?_, ?_, ?_, z1, z2⟩
    · rw [assign_at _ _ _ t ht 0 (.inl rfl)]; exact slotS_noroom _ _ _
    · rw [assign_at _ _ _ t ht 1 (.inr rfl)]; exact slotS_noroom _ _ _
    · rw [assign_at _ _ _ t ht 0 (.inl rfl)]; exact slotS_noone _ _ _
    · rw [assign_at _ _ _ t ht 1 (.inr rfl)]; exact slotS_noone _ _ _

end Go.Proofs.Ytglcmnhaoeohdaa.Pure
