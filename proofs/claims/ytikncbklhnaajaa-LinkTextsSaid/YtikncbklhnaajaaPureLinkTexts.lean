/- Proved here: what is pushed stands in the Queue with its text, in the order of the numbers, until it is told of (all texts of at most 20 bytes; of the first 60). No condition. -/
import Derived.Test.YtikncbklhnaajaaPr9
namespace Go.Proofs.Ytikncbklhnaajaa.Pure
open Go.RowKit Go.Proofs.Ytikncbklhnaajaa.Pr Go.Proofs.YtikncbklhnaajaaW.PrintWords Go.Proofs.YtikncbklhnaajaaW.PrintLast Go.Proofs.YtikncbklhnaajaaW.PrintMore
set_option linter.unusedVariables false
set_option linter.unusedSimpArgs false

def LinkTextsPure : Prop := ∀ (l0 : List ByteArray) (a1 : Int), l0.length ≤ maxLen → (∀ y ∈ l0, y.size ≤ maxLen) → (Lit.int .u8 a1).wf = true → ∃ k, switchboardlaw10_LinkTexts.f k l0 a1 = some true

theorem wrap_small {i : Int} (h0 : -9223372036854775808 ≤ i) (h1 : i < 9223372036854775808) : wrap64 i = i := by
  unfold wrap64
  omega

theorem ev_rounds {g : Nat → Option Bool} (h : Ev g true) : ∃ k, g k = some true := h.rounds
theorem ev_shift {α : Type} {g : Nat → Option α} {r : α} (h : Ev (fun k => g (k + 1)) r) : Ev g r := Ev.step (fun _ => rfl) h

def cv (x : S45) : S40 := ⟨x.f0, x.f1⟩
/-- Frames' numbers rise, from behind last on, and are below n. -/
def rf (n : Int) : Int → List S45 → Bool
  | _, [] => true
  | last, x :: r => decide (last < x.f0) && (decide (x.f0 < n) && rf n x.f0 r)
def tailB (n : Int) (q : List S45) : Bool := decide (0 ≤ n) && (decide (n ≤ 2147483647) && decide (q.length ≤ 64))
def rightB (n : Int) (q : List S45) : Bool := rf n (-1) q && tailB n q
theorem rdT_get {q : List S45} {i : Nat} (h : i < q.length) : rd_T45 q i = q[i] := by
  unfold rd_T45
  rw [Int.toNat_natCast, List.getD_eq_getElem?_getD, List.getElem?_eq_getElem h]
  rfl
theorem rdU_get {q : List S40} {i : Nat} (h : i < q.length) : rd_T40 q i = q[i] := by
  unfold rd_T40
  rw [Int.toNat_natCast, List.getD_eq_getElem?_getD, List.getElem?_eq_getElem h]
  rfl
theorem rdU_map {q : List S45} {i : Nat} (h : i < q.length) : rd_T40 (q.map cv) i = cv q[i] := by
  rw [rdU_get (by rw [List.length_map]; exact h), List.getElem_map]
theorem right_l0 (n : Int) (q : List S45) (hn : q.length ≤ 9223372036854775806) : ∀ (d i : Nat) (last : Int), i + d = q.length →
    Ev (fun k => link_Right.l0 k last q (q.length : Int) i n q) (rf n last (q.drop i) && tailB n q) := by
  intro d
  induction d with
  | zero =>
    intro i last hi
    refine ev_shift ?_
    rw [List.drop_eq_nil_of_le (by omega)]
    simp only [link_Right.l0, if_neg (show ¬ (i : Int) < (q.length : Int) by omega)]
    unfold tailB
    by_cases a : n ≥ 0
    · by_cases b : n ≤ 2147483647
      · simp only [if_pos a, if_pos b]
        have e : (rf n last [] && (decide (0 ≤ n) && (decide (n ≤ 2147483647) && decide (q.length ≤ 64)))) = decide ((q.length : Int) ≤ 64) := by
          rw [decide_eq_true (show 0 ≤ n from a), decide_eq_true b]
          simp only [rf, Bool.true_and]
          by_cases c : q.length ≤ 64
          · rw [decide_eq_true c, decide_eq_true (by omega)]
          · rw [decide_eq_false c, decide_eq_false (by omega)]
        rw [e]
        exact Ev.now _
      · simp only [if_pos a, if_neg b]
        rw [decide_eq_false b]
        simp only [Bool.false_and, Bool.and_false]
        exact Ev.now _
    · simp only [if_neg a]
      rw [decide_eq_false (show ¬ 0 ≤ n from a)]
      simp only [Bool.false_and, Bool.and_false]
      exact Ev.now _
  | succ d ih =>
    intro i last hi
    have hw : wrap64 ((i : Int) + 1) = ((i + 1 : Nat) : Int) := by rw [wrap_small (by omega) (by omega)]; omega
    refine ev_shift ?_
    have hlt : i < q.length := by omega
    rw [List.drop_eq_getElem_cons hlt]
    simp only [link_Right.l0, if_pos (show (i : Int) < (q.length : Int) by omega), if_pos (show (0 : Int) ≤ (i : Int) by omega), rdT_get hlt, hw, rf]
    by_cases a : q[i].f0 ≤ last
    · simp only [if_pos a, decide_eq_false (show ¬ last < q[i].f0 by omega), Bool.false_and]
      exact Ev.now _
    · simp only [if_neg a, decide_eq_true (show last < q[i].f0 by omega), Bool.true_and]
      by_cases b : q[i].f0 ≥ n
      · simp only [if_pos b, decide_eq_false (show ¬ q[i].f0 < n by omega), Bool.false_and]
        exact Ev.now _
      · simp only [if_neg b, decide_eq_true (show q[i].f0 < n by omega), Bool.true_and]
        exact ih (i + 1) q[i].f0 (by omega)
theorem right_ev (n : Int) (q : List S45) (hn : q.length ≤ 9223372036854775806) : Ev (fun k => link_Right.f k n q) (rightB n q) := by
  unfold link_Right.f
  exact right_l0 n q hn q.length 0 (-1) (by omega)
theorem clone_f {q : List S45} (h : q.length < 5864062014805) : link_Frame_16.f q = some q := by
  unfold link_Frame_16.f
  simp only [Option.bind_some, List.length_nil, Nat.zero_add, List.nil_append, if_pos h]
/-- What Push gives: the link, the number, the errno. -/
def pushR (n : Int) (q : List S45) (s : ByteArray) : Int × List S45 × Int × Int :=
  if rightB n q = true ∧ n ≠ 2147483647 then (if q.length = 64 then (n, q, 0, 8) else (n + 1, q ++ [⟨n, s⟩], n, 0)) else (n, q, 0, 1)
theorem rightB_true {n : Int} {q : List S45} (h : rightB n q = true) : rf n (-1) q = true ∧ 0 ≤ n ∧ n ≤ 2147483647 ∧ q.length ≤ 64 := by
  unfold rightB tailB at h
  simp only [Bool.and_eq_true, decide_eq_true_eq] at h
  exact ⟨h.1, h.2.1, h.2.2.1, h.2.2.2⟩
theorem push_j0 (n : Int) (q : List S45) (s : ByteArray) (hn : q.length < 5864062014805) (b : Bool) (hb : b = false → 0 ≤ n ∧ n < 2147483647) : Ev (fun k => link_Push.j0 k s b n q) (if b = true then (n, q, 0, 1) else (if q.length = 64 then (n, q, 0, 8) else (n + 1, q ++ [⟨n, s⟩], n, 0))) := by
  refine ev_shift ?_
  cases b
  · simp only [link_Push.j0, if_neg (show ¬ (false = true) by decide)]
    by_cases c : q.length = 64
    · simp only [if_pos (show (q.length : Int) = 64 by omega), if_pos c]
      exact Ev.now _
    · have hw : wrap64 (n + 1) = n + 1 := wrap_small (by have := hb rfl; omega) (by have := hb rfl; omega)
      simp only [if_neg (show ¬ (q.length : Int) = 64 by omega), if_neg c, clone_f hn, Option.bind_some, if_pos hn, hw]
      exact Ev.now _
  · simp only [link_Push.j0, if_true]
    exact Ev.now _
theorem push_ev (n : Int) (q : List S45) (s : ByteArray) (hn : q.length < 5864062014805) : Ev (fun k => link_Push.f k n q s) (pushR n q s) := by
  unfold link_Push.f pushR
  refine Ev.bind (right_ev n q (by omega)) ?_
  cases hr : rightB n q
  · simp only [if_neg (show ¬ (false = true) by decide), if_neg (show ¬ (false = true ∧ n ≠ 2147483647) by simp)]
    have key := push_j0 n q s hn true (by simp)
    simp only [if_true] at key
    exact key
  · have h := rightB_true hr
    by_cases c : n = 2147483647
    · rw [if_neg (show ¬ (true = true ∧ n ≠ 2147483647) by simp [c])]
      simp only [if_true, show (n == 2147483647) = true from beq_iff_eq.2 c]
      have key := push_j0 n q s hn true (by simp)
      simp only [if_true] at key
      exact key
    · rw [if_pos (show (true = true ∧ n ≠ 2147483647) from ⟨rfl, c⟩)]
      simp only [if_true, show (n == 2147483647) = false from beq_eq_false_iff_ne.2 c]
      have key := push_j0 n q s hn false (fun _ => by omega)
      simp only [if_neg (show ¬ (false = true) by decide)] at key
      exact key
def toldL (q : List S45) (a : Int) : List S45 := q.filter (fun x => !(x.f0 == a))
theorem told_f (n : Int) {q : List S45} (a : Int) (h : q.length < 5864062014805) : link_Told.f n q a = some (n, toldL q a) := by
  unfold link_Told.f toldL
  simp only [clone_f h, Option.bind_some]
theorem toldL_le (q : List S45) (a : Int) : (toldL q a).length ≤ q.length := List.length_filter_le ..

theorem awake_ev : Ev (fun k => switchboardlaw10_awake.f k) true := by
  unfold switchboardlaw10_awake.f
  have p1 := push_ev 0 [] ⟨#[97]⟩ (by decide)
  have e1 : pushR 0 [] ⟨#[97]⟩ = (1, [⟨0, ⟨#[97]⟩⟩], 0, 0) := rfl
  rw [e1] at p1
  refine Ev.bind p1 ?_
  have p2 := push_ev 1 [⟨0, ⟨#[97]⟩⟩] ⟨#[98]⟩ (by decide)
  have e2 : pushR 1 [⟨0, ⟨#[97]⟩⟩] ⟨#[98]⟩ = (2, [⟨0, ⟨#[97]⟩⟩, ⟨1, ⟨#[98]⟩⟩], 1, 0) := rfl
  rw [e2] at p2
  refine Ev.bind p2 ?_
  simp only [told_f (n := 2) (q := [⟨0, ⟨#[97]⟩⟩, ⟨1, ⟨#[98]⟩⟩]) 0 (by decide), Option.bind_some]
  have e3 : toldL [⟨0, ⟨#[97]⟩⟩, ⟨1, ⟨#[98]⟩⟩] 0 = [⟨1, ⟨#[98]⟩⟩] := rfl
  have e4 : (rd_T45 [⟨1, ⟨#[98]⟩⟩] 0).f1.toList = [98] := by
    show (⟨#[98]⟩ : ByteArray).toList = [98]
    decide +kernel
  simp only [e3, e4, if_true, List.length_singleton, if_pos (show ((1 : Nat) : Int) = 1 from rfl), if_pos (show (0 : Int) < ((1 : Nat) : Int) by decide)]
  have p3 := right_ev 2 [⟨1, ⟨#[98]⟩⟩] (by decide)
  have e5 : rightB 2 [⟨1, ⟨#[98]⟩⟩] = true := rfl
  rw [e5] at p3
  exact Ev.bind p3 (Ev.now true)
theorem awake2 : Ev (fun k => (switchboardlaw10_awake.f k).bind fun t => some t) true := Ev.bind awake_ev (Ev.now true)

/-- A queue whose numbers rise below n takes the number n behind. -/
theorem rf_snoc (n m : Int) (hm : n < m) (s : ByteArray) : ∀ (q : List S45) (last : Int), rf n last q = true → last < n → rf m last (q ++ [⟨n, s⟩]) = true := by
  intro q
  induction q with
  | nil =>
    intro last _ hl
    simp only [List.nil_append, rf, decide_eq_true hl, decide_eq_true hm, Bool.true_and]
  | cons x r ih =>
    intro last h hl
    simp only [rf, Bool.and_eq_true, decide_eq_true_eq] at h
    simp only [List.cons_append, rf, decide_eq_true h.1, decide_eq_true (show x.f0 < m by omega), Bool.true_and]
    exact ih x.f0 h.2.2 h.2.1
theorem rf_lift (n m : Int) (hm : n ≤ m) : ∀ (q : List S45) (last : Int), rf n last q = true → rf m last q = true := by
  intro q
  induction q with
  | nil => intro _ _; rfl
  | cons x r ih =>
    intro last h
    simp only [rf, Bool.and_eq_true, decide_eq_true_eq] at h
    simp only [rf, decide_eq_true h.1, decide_eq_true (show x.f0 < m by omega), Bool.true_and]
    exact ih x.f0 h.2.2
theorem rf_below (n : Int) : ∀ (q : List S45) (last : Int), rf n last q = true → ∀ x ∈ q, x.f0 < n := by
  intro q
  induction q with
  | nil => intro _ _ x hx; cases hx
  | cons y r ih =>
    intro last h x hx
    simp only [rf, Bool.and_eq_true, decide_eq_true_eq] at h
    rcases List.mem_cons.1 hx with rfl | hx
    · exact h.2.1
    · exact ih y.f0 h.2.2 x hx
theorem told_snoc (n : Int) (s : ByteArray) (q : List S45) (h : ∀ x ∈ q, x.f0 < n) : toldL (q ++ [⟨n, s⟩]) n = q := by
  unfold toldL
  rw [List.filter_append]
  have e : q.filter (fun x => !(x.f0 == n)) = q := by
    rw [List.filter_eq_self]
    intro x hx
    have := h x hx
    simp only [Bool.not_eq_true', beq_eq_false_iff_ne, ne_eq]
    omega
  rw [e]
  simp

abbrev rdS (l : List ByteArray) (i : Int) : ByteArray := rdOf ByteArray.empty l i
def fr (t : List ByteArray) (j : Nat) : S45 := ⟨(j : Int), rdS t j⟩
def frs (t : List ByteArray) (i : Nat) : List S45 := (List.range i).map (fr t)
theorem frs_succ (t : List ByteArray) (i : Nat) : frs t (i + 1) = frs t i ++ [fr t i] := by
  unfold frs
  rw [List.range_succ, List.map_append]
  rfl
theorem frs_len (t : List ByteArray) (i : Nat) : (frs t i).length = i := by simp [frs]
theorem frs_rf (t : List ByteArray) : ∀ i : Nat, rf (i : Int) (-1) (frs t i) = true := by
  intro i
  induction i with
  | zero => rfl
  | succ i ih =>
    rw [frs_succ]
    exact rf_snoc (i : Int) _ (by omega) _ _ _ ih (by omega)
/-- What is left of the frames when the one at c is told of. -/
def lost (t : List ByteArray) (m c : Nat) : List S45 := (List.range m).map (fun j => fr t (if j < c then j else j + 1))
theorem told_frs (t : List ByteArray) (c : Nat) : ∀ d : Nat, toldL (frs t (c + 1 + d)) (c : Int) = lost t (c + d) c := by
  intro d
  induction d with
  | zero =>
    rw [Nat.add_zero, Nat.add_zero, frs_succ]
    have h := told_snoc (c : Int) (rdS t c) (frs t c) (rf_below _ _ _ (frs_rf t c))
    refine h.trans ?_
    unfold frs lost
    refine List.map_congr_left fun j hj => ?_
    rw [if_pos (List.mem_range.1 hj)]
  | succ d ih =>
    rw [← Nat.add_assoc, frs_succ]
    unfold toldL at *
    rw [List.filter_append, ih]
    have e : lost t (c + (d + 1)) c = lost t (c + d) c ++ [fr t (c + 1 + d)] := by
      unfold lost
      rw [← Nat.add_assoc, List.range_succ, List.map_append]
      congr 1
      simp only [List.map_cons, List.map_nil]
      rw [if_neg (by omega), show c + d + 1 = c + 1 + d by omega]
    rw [e]
    congr 1
    have hne : ((fr t (c + 1 + d)).f0 == (c : Int)) = false := beq_eq_false_iff_ne.2 (by show ((c + 1 + d : Nat) : Int) ≠ (c : Int); omega)
    simp [hne]
theorem texts_l1 (t : List ByteArray) (m c : Nat) (hm : m + 1 ≤ t.length) (hs : m ≤ 60) (hc : c ≤ m) : ∀ (d j : Nat), j + d = m →
    Ev (fun k => switchboardlaw10_LinkTexts.l1 k t (c : Int) (lost t m c) ((lost t m c).length : Int) j) true := by
  have hl : (lost t m c).length = m := by simp [lost]
  intro d
  induction d with
  | zero =>
    intro j hj
    refine ev_shift ?_
    simp only [switchboardlaw10_LinkTexts.l1, hl, if_neg (show ¬ (j : Int) < (m : Int) by omega)]
    exact awake2
  | succ d ih =>
    intro j hj
    have hw : wrap64 ((j : Int) + 1) = ((j + 1 : Nat) : Int) := by rw [wrap_small (by omega) (by omega)]; omega
    have hg : rd_T45 (lost t m c) (j : Int) = fr t (if j < c then j else j + 1) := by
      rw [rdT_get (by omega)]
      simp [lost]
    have key := ih (j + 1) (by omega)
    rw [hl] at key
    refine ev_shift ?_
    simp only [switchboardlaw10_LinkTexts.l1, hl, if_pos (show (j : Int) < (m : Int) by omega), if_pos (show (0 : Int) ≤ (j : Int) by omega), hg, hw]
    by_cases e : j < c
    · simp only [if_neg (show ¬ (j : Int) ≥ (c : Int) by omega), if_pos e, show (fr t j).f0 = (j : Int) from rfl, show (fr t j).f1 = rdOf ByteArray.empty t (j : Int) from rfl, if_true, if_pos (show (j : Int) < (t.length : Int) by omega)]
      exact key
    · simp only [if_pos (show (j : Int) ≥ (c : Int) by omega), if_neg e, show (fr t (j + 1)).f0 = ((j + 1 : Nat) : Int) from rfl, show (fr t (j + 1)).f1 = rdOf ByteArray.empty t ((j + 1 : Nat) : Int) from rfl, if_true, if_pos (show (0 : Int) ≤ ((j + 1 : Nat) : Int) by omega), if_pos (show ((j + 1 : Nat) : Int) < (t.length : Int) by omega)]
      exact key
theorem texts_l0 (t : List ByteArray) (a : Int) (ha : 0 ≤ a ∧ a ≤ 255) (m : Nat) (hm : m ≤ t.length) (hs : m ≤ 60) : ∀ (d i : Nat), i + d = m →
    Ev (fun k => switchboardlaw10_LinkTexts.l0 k t a (m : Int) (m : Int) i i (frs t i)) true := by
  intro d
  induction d with
  | zero =>
    intro i hi
    obtain rfl : i = m := by omega
    refine ev_shift ?_
    simp only [switchboardlaw10_LinkTexts.l0, if_neg (show ¬ (i : Int) < (i : Int) by omega)]
    by_cases c : (i : Int) = 0
    · obtain rfl : i = 0 := by omega
      simp only [if_pos c]
      rw [told_f _ _ (by rw [frs_len]; omega)]
      have e : toldL (frs t 0) 0 = [] := rfl
      simp only [Option.bind_some, e, List.length_nil, if_pos (show ((0 : Nat) : Int) = 0 from rfl)]
      exact awake2
    · have hw : wrap64 a = a := wrap_small (by omega) (by omega)
      have h0 : 0 ≤ Int.tmod a (i : Int) := Int.tmod_nonneg _ ha.1
      have h1 : Int.tmod a (i : Int) < (i : Int) := Int.tmod_lt_of_pos _ (by omega)
      obtain ⟨k, hk⟩ : ∃ k : Nat, Int.tmod a (i : Int) = (k : Int) := ⟨(Int.tmod a (i : Int)).toNat, by omega⟩
      obtain ⟨e, he⟩ : ∃ e, i = k + 1 + e := ⟨i - (k + 1), by omega⟩
      have ht : toldL (frs t i) (k : Int) = lost t (k + e) k := by rw [he]; exact told_frs t k e
      have hl : (lost t (k + e) k).length = k + e := by simp [lost]
      have hw1 : wrap64 ((i : Int) - 1) = (i : Int) - 1 := wrap_small (by omega) (by omega)
      simp only [if_neg c, hw, hk]
      rw [told_f _ _ (by rw [frs_len]; omega), ht]
      simp only [Option.bind_some, hw1, if_pos (show ((lost t (k + e) k).length : Int) = (i : Int) - 1 by rw [hl]; omega)]
      exact texts_l1 t (k + e) k (by omega) (by omega) (by omega) (k + e) 0 (by omega)
  | succ d ih =>
    intro i hi
    have hw : wrap64 ((i : Int) + 1) = ((i + 1 : Nat) : Int) := by rw [wrap_small (by omega) (by omega)]; omega
    refine ev_shift ?_
    simp only [switchboardlaw10_LinkTexts.l0, if_pos (show (i : Int) < (m : Int) by omega), if_pos (show (0 : Int) ≤ (i : Int) by omega), if_pos (show (i : Int) < (t.length : Int) by omega)]
    by_cases c : ((rdOf ByteArray.empty t (i : Int)).size : Int) > 20
    · simp only [if_pos c]
      exact awake2
    · simp only [if_neg c]
      have hrb : rightB (i : Int) (frs t i) = true := by
        unfold rightB tailB
        rw [frs_rf, frs_len, decide_eq_true (show (0 : Int) ≤ (i : Int) by omega), decide_eq_true (show (i : Int) ≤ 2147483647 by omega), decide_eq_true (show i ≤ 64 by omega)]
        rfl
      have hp : pushR (i : Int) (frs t i) (rdOf ByteArray.empty t (i : Int)) = (((i + 1 : Nat) : Int), frs t (i + 1), (i : Int), 0) := by
        unfold pushR
        rw [if_pos ⟨hrb, by omega⟩, if_neg (by rw [frs_len]; omega), frs_succ]
        rfl
      have pe := push_ev (i : Int) (frs t i) (rdOf ByteArray.empty t (i : Int)) (by rw [frs_len]; omega)
      rw [hp] at pe
      refine Ev.bind pe ?_
      simp only [if_true, hw]
      exact ih (i + 1) (by omega)
theorem wf8 {x : Int} (h : (Lit.int .u8 x).wf = true) : 0 ≤ x ∧ x ≤ 255 := by
  simp [Lit.wf, IntKind.min, IntKind.max, IntKind.signed, IntKind.bits] at h
  omega
theorem LinkTexts : LinkTextsPure := by
  intro t a _ _ ha
  refine ev_rounds ?_
  unfold switchboardlaw10_LinkTexts.f
  have e : mn (t.length : Int) 60 = ((min t.length 60 : Nat) : Int) := by
    unfold mn
    split <;> omega
  rw [e]
  exact texts_l0 t a (wf8 ha) (min t.length 60) (by omega) (by omega) (min t.length 60) 0 (by omega)

end Go.Proofs.Ytikncbklhnaajaa.Pure
