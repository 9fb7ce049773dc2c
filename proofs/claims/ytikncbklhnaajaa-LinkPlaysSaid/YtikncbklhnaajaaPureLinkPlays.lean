/- Proved here: what was told of is not there any more, what was not is, in its order (every row of acts; of its first 100). No condition. -/
import Derived.Test.YtikncbklhnaajaaPr6
namespace Go.Proofs.Ytikncbklhnaajaa.Pure
open Go.RowKit Go.Proofs.Ytikncbklhnaajaa.Pr Go.Proofs.YtikncbklhnaajaaW.PrintWords Go.Proofs.YtikncbklhnaajaaW.PrintLast Go.Proofs.YtikncbklhnaajaaW.PrintMore
set_option linter.unusedVariables false
set_option linter.unusedSimpArgs false

def LinkPlaysPure : Prop := ∀ (l0 : List Int), l0.length ≤ maxLen → (∀ y ∈ l0, (Lit.int .i8 y).wf = true) → ∃ k, switchboardlaw10_LinkPlays.f k l0 = some true

theorem wrap_small {i : Int} (h0 : -9223372036854775808 ≤ i) (h1 : i < 9223372036854775808) : wrap64 i = i := by
  unfold wrap64
  omega

theorem ev_rounds {g : Nat → Option Bool} (h : Ev g true) : ∃ k, g k = some true := h.rounds
theorem ev_shift {α : Type} {g : Nat → Option α} {r : α} (h : Ev (fun k => g (k + 1)) r) : Ev g r := Ev.step (fun _ => rfl) h

theorem rd_get {v : List Int} {i : Int} (h0 : 0 ≤ i) (h1 : i < v.length) : ∃ h : i.toNat < v.length, rd v i = v[i.toNat]'h := by
  refine ⟨by omega, ?_⟩
  unfold rd
  rw [List.getD_eq_getElem?_getD, List.getElem?_eq_getElem (by omega)]
  rfl

theorem take_rd {v : List Int} {i : Nat} (h : i < v.length) : v.take i ++ [rd v i] = v.take (i + 1) := by
  obtain ⟨h', e⟩ := rd_get (v := v) (i := (i : Int)) (by omega) (by omega)
  rw [e]
  simp only [Int.toNat_natCast]
  rw [List.take_succ_eq_append_getElem h]

theorem rd_append_left {a b : List Int} {i : Int} (h0 : 0 ≤ i) (h1 : i < a.length) : rd (a ++ b) i = rd a i := by
  unfold rd
  rw [List.getD_eq_getElem?_getD, List.getD_eq_getElem?_getD, List.getElem?_append_left (by omega)]

theorem rd_append_right {a b : List Int} {i : Int} (h0 : 0 ≤ i) : rd (a ++ b) ((a.length : Int) + i) = rd b i := by
  unfold rd
  rw [List.getD_eq_getElem?_getD, List.getD_eq_getElem?_getD, List.getElem?_append_right (by omega)]
  congr 2
  omega

theorem rd_map {v : List Int} (f : Int → Int) {i : Int} (h0 : 0 ≤ i) (h1 : i < v.length) : rd (v.map f) i = f (rd v i) := by
  obtain ⟨h, e⟩ := rd_get h0 h1
  obtain ⟨h', e'⟩ := rd_get (v := v.map f) h0 (by simpa using h1)
  rw [e, e']
  simp

theorem rd_mem {v : List Int} {i : Int} (h0 : 0 ≤ i) (h1 : i < v.length) : rd v i ∈ v := by
  obtain ⟨h, e⟩ := rd_get h0 h1
  rw [e]
  exact List.getElem_mem h

def cv (x : S45) : S40 := ⟨x.f0, x.f1⟩
/-- Frames' numbers rise, from behind last on, and are below n. -/
def rf (n : Int) : Int → List S45 → Bool
  | _, [] => true
  | last, x :: r => decide (last < x.f0) && (decide (x.f0 < n) && rf n x.f0 r)
def tailB (n : Int) (q : List S45) : Bool := decide (0 ≤ n) && (decide (n ≤ 2147483647) && decide (q.length ≤ 64))
def rightB (n : Int) (q : List S45) : Bool := rf n (-1) q && tailB n q
theorem rdT_get {q : List S45} {i : Nat} (h : i < q.length) : rd_T45 q i = q[i] := by
  unfold rd_T45
  rw [Int.toNat_natCast, List.getD_eq_getElem?_getD, List.getElem?_eq_getElem h]
  rfl
theorem rdU_get {q : List S40} {i : Nat} (h : i < q.length) : rd_T40 q i = q[i] := by
  unfold rd_T40
  rw [Int.toNat_natCast, List.getD_eq_getElem?_getD, List.getElem?_eq_getElem h]
  rfl
theorem rdU_map {q : List S45} {i : Nat} (h : i < q.length) : rd_T40 (q.map cv) i = cv q[i] := by
  rw [rdU_get (by rw [List.length_map]; exact h), List.getElem_map]
theorem right_l0 (n : Int) (q : List S45) (hn : q.length ≤ 9223372036854775806) : ∀ (d i : Nat) (last : Int), i + d = q.length →
    Ev (fun k => link_Right.l0 k last q (q.length : Int) i n q) (rf n last (q.drop i) && tailB n q) := by
  intro d
  induction d with
  | zero =>
    intro i last hi
    refine ev_shift ?_
    rw [List.drop_eq_nil_of_le (by omega)]
    simp only [link_Right.l0, if_neg (show ¬ (i : Int) < (q.length : Int) by omega)]
    unfold tailB
    by_cases a : n ≥ 0
    · by_cases b : n ≤ 2147483647
      · simp only [if_pos a, if_pos b]
        have e : (rf n last [] && (decide (0 ≤ n) && (decide (n ≤ 2147483647) && decide (q.length ≤ 64)))) = decide ((q.length : Int) ≤ 64) := by
          rw [decide_eq_true (show 0 ≤ n from a), decide_eq_true b]
          simp only [rf, Bool.true_and]
          by_cases c : q.length ≤ 64
          · rw [decide_eq_true c, decide_eq_true (by omega)]
          · rw [decide_eq_false c, decide_eq_false (by omega)]
        rw [e]
        exact Ev.now _
      · simp only [if_pos a, if_neg b]
        rw [decide_eq_false b]
        simp only [Bool.false_and, Bool.and_false]
        exact Ev.now _
    · simp only [if_neg a]
      rw [decide_eq_false (show ¬ 0 ≤ n from a)]
      simp only [Bool.false_and, Bool.and_false]
      exact Ev.now _
  | succ d ih =>
    intro i last hi
    have hw : wrap64 ((i : Int) + 1) = ((i + 1 : Nat) : Int) := by rw [wrap_small (by omega) (by omega)]; omega
    refine ev_shift ?_
    have hlt : i < q.length := by omega
    rw [List.drop_eq_getElem_cons hlt]
    simp only [link_Right.l0, if_pos (show (i : Int) < (q.length : Int) by omega), if_pos (show (0 : Int) ≤ (i : Int) by omega), rdT_get hlt, hw, rf]
    by_cases a : q[i].f0 ≤ last
    · simp only [if_pos a, decide_eq_false (show ¬ last < q[i].f0 by omega), Bool.false_and]
      exact Ev.now _
    · simp only [if_neg a, decide_eq_true (show last < q[i].f0 by omega), Bool.true_and]
      by_cases b : q[i].f0 ≥ n
      · simp only [if_pos b, decide_eq_false (show ¬ q[i].f0 < n by omega), Bool.false_and]
        exact Ev.now _
      · simp only [if_neg b, decide_eq_true (show q[i].f0 < n by omega), Bool.true_and]
        exact ih (i + 1) q[i].f0 (by omega)
theorem right_ev (n : Int) (q : List S45) (hn : q.length ≤ 9223372036854775806) : Ev (fun k => link_Right.f k n q) (rightB n q) := by
  unfold link_Right.f
  exact right_l0 n q hn q.length 0 (-1) (by omega)
theorem clone_f {q : List S45} (h : q.length < 5864062014805) : link_Frame_16.f q = some q := by
  unfold link_Frame_16.f
  simp only [Option.bind_some, List.length_nil, Nat.zero_add, List.nil_append, if_pos h]
/-- What Push gives: the link, the number, the errno. -/
def pushR (n : Int) (q : List S45) (s : ByteArray) : Int × List S45 × Int × Int :=
  if rightB n q = true ∧ n ≠ 2147483647 then (if q.length = 64 then (n, q, 0, 8) else (n + 1, q ++ [⟨n, s⟩], n, 0)) else (n, q, 0, 1)
theorem rightB_true {n : Int} {q : List S45} (h : rightB n q = true) : rf n (-1) q = true ∧ 0 ≤ n ∧ n ≤ 2147483647 ∧ q.length ≤ 64 := by
  unfold rightB tailB at h
  simp only [Bool.and_eq_true, decide_eq_true_eq] at h
  exact ⟨h.1, h.2.1, h.2.2.1, h.2.2.2⟩
theorem push_j0 (n : Int) (q : List S45) (s : ByteArray) (hn : q.length < 5864062014805) (b : Bool) (hb : b = false → 0 ≤ n ∧ n < 2147483647) : Ev (fun k => link_Push.j0 k s b n q) (if b = true then (n, q, 0, 1) else (if q.length = 64 then (n, q, 0, 8) else (n + 1, q ++ [⟨n, s⟩], n, 0))) := by
  refine ev_shift ?_
  cases b
  · simp only [link_Push.j0, if_neg (show ¬ (false = true) by decide)]
    by_cases c : q.length = 64
    · simp only [if_pos (show (q.length : Int) = 64 by omega), if_pos c]
      exact Ev.now _
    · have hw : wrap64 (n + 1) = n + 1 := wrap_small (by have := hb rfl; omega) (by have := hb rfl; omega)
      simp only [if_neg (show ¬ (q.length : Int) = 64 by omega), if_neg c, clone_f hn, Option.bind_some, if_pos hn, hw]
      exact Ev.now _
  · simp only [link_Push.j0, if_true]
    exact Ev.now _
theorem push_ev (n : Int) (q : List S45) (s : ByteArray) (hn : q.length < 5864062014805) : Ev (fun k => link_Push.f k n q s) (pushR n q s) := by
  unfold link_Push.f pushR
  refine Ev.bind (right_ev n q (by omega)) ?_
  cases hr : rightB n q
  · simp only [if_neg (show ¬ (false = true) by decide), if_neg (show ¬ (false = true ∧ n ≠ 2147483647) by simp)]
    have key := push_j0 n q s hn true (by simp)
    simp only [if_true] at key
    exact key
  · have h := rightB_true hr
    by_cases c : n = 2147483647
    · rw [if_neg (show ¬ (true = true ∧ n ≠ 2147483647) by simp [c])]
      simp only [if_true, show (n == 2147483647) = true from beq_iff_eq.2 c]
      have key := push_j0 n q s hn true (by simp)
      simp only [if_true] at key
      exact key
    · rw [if_pos (show (true = true ∧ n ≠ 2147483647) from ⟨rfl, c⟩)]
      simp only [if_true, show (n == 2147483647) = false from beq_eq_false_iff_ne.2 c]
      have key := push_j0 n q s hn false (fun _ => by omega)
      simp only [if_neg (show ¬ (false = true) by decide)] at key
      exact key
def toldL (q : List S45) (a : Int) : List S45 := q.filter (fun x => !(x.f0 == a))
theorem told_f (n : Int) {q : List S45} (a : Int) (h : q.length < 5864062014805) : link_Told.f n q a = some (n, toldL q a) := by
  unfold link_Told.f toldL
  simp only [clone_f h, Option.bind_some]
theorem toldL_le (q : List S45) (a : Int) : (toldL q a).length ≤ q.length := List.length_filter_le ..

theorem awake_ev : Ev (fun k => switchboardlaw10_awake.f k) true := by
  unfold switchboardlaw10_awake.f
  have p1 := push_ev 0 [] ⟨#[97]⟩ (by decide)
  have e1 : pushR 0 [] ⟨#[97]⟩ = (1, [⟨0, ⟨#[97]⟩⟩], 0, 0) := rfl
  rw [e1] at p1
  refine Ev.bind p1 ?_
  have p2 := push_ev 1 [⟨0, ⟨#[97]⟩⟩] ⟨#[98]⟩ (by decide)
  have e2 : pushR 1 [⟨0, ⟨#[97]⟩⟩] ⟨#[98]⟩ = (2, [⟨0, ⟨#[97]⟩⟩, ⟨1, ⟨#[98]⟩⟩], 1, 0) := rfl
  rw [e2] at p2
  refine Ev.bind p2 ?_
  simp only [told_f (n := 2) (q := [⟨0, ⟨#[97]⟩⟩, ⟨1, ⟨#[98]⟩⟩]) 0 (by decide), Option.bind_some]
  have e3 : toldL [⟨0, ⟨#[97]⟩⟩, ⟨1, ⟨#[98]⟩⟩] 0 = [⟨1, ⟨#[98]⟩⟩] := rfl
  have e4 : (rd_T45 [⟨1, ⟨#[98]⟩⟩] 0).f1.toList = [98] := by
    show (⟨#[98]⟩ : ByteArray).toList = [98]
    decide +kernel
  simp only [e3, e4, if_true, List.length_singleton, if_pos (show ((1 : Nat) : Int) = 1 from rfl), if_pos (show (0 : Int) < ((1 : Nat) : Int) by decide)]
  have p3 := right_ev 2 [⟨1, ⟨#[98]⟩⟩] (by decide)
  have e5 : rightB 2 [⟨1, ⟨#[98]⟩⟩] = true := rfl
  rw [e5] at p3
  exact Ev.bind p3 (Ev.now true)
theorem awake2 : Ev (fun k => (switchboardlaw10_awake.f k).bind fun t => some t) true := Ev.bind awake_ev (Ev.now true)

/-- A queue whose numbers rise below n takes the number n behind. -/
theorem rf_snoc (n m : Int) (hm : n < m) (s : ByteArray) : ∀ (q : List S45) (last : Int), rf n last q = true → last < n → rf m last (q ++ [⟨n, s⟩]) = true := by
  intro q
  induction q with
  | nil =>
    intro last _ hl
    simp only [List.nil_append, rf, decide_eq_true hl, decide_eq_true hm, Bool.true_and]
  | cons x r ih =>
    intro last h hl
    simp only [rf, Bool.and_eq_true, decide_eq_true_eq] at h
    simp only [List.cons_append, rf, decide_eq_true h.1, decide_eq_true (show x.f0 < m by omega), Bool.true_and]
    exact ih x.f0 h.2.2 h.2.1
theorem rf_lift (n m : Int) (hm : n ≤ m) : ∀ (q : List S45) (last : Int), rf n last q = true → rf m last q = true := by
  intro q
  induction q with
  | nil => intro _ _; rfl
  | cons x r ih =>
    intro last h
    simp only [rf, Bool.and_eq_true, decide_eq_true_eq] at h
    simp only [rf, decide_eq_true h.1, decide_eq_true (show x.f0 < m by omega), Bool.true_and]
    exact ih x.f0 h.2.2
theorem rf_below (n : Int) : ∀ (q : List S45) (last : Int), rf n last q = true → ∀ x ∈ q, x.f0 < n := by
  intro q
  induction q with
  | nil => intro _ _ x hx; cases hx
  | cons y r ih =>
    intro last h x hx
    simp only [rf, Bool.and_eq_true, decide_eq_true_eq] at h
    rcases List.mem_cons.1 hx with rfl | hx
    · exact h.2.1
    · exact ih y.f0 h.2.2 x hx
theorem told_snoc (n : Int) (s : ByteArray) (q : List S45) (h : ∀ x ∈ q, x.f0 < n) : toldL (q ++ [⟨n, s⟩]) n = q := by
  unfold toldL
  rw [List.filter_append]
  have e : q.filter (fun x => !(x.f0 == n)) = q := by
    rw [List.filter_eq_self]
    intro x hx
    have := h x hx
    simp only [Bool.not_eq_true', beq_eq_false_iff_ne, ne_eq]
    omega
  rw [e]
  simp

structure Inv (n : Int) (left : List Int) (q : List S45) : Prop where
  l : q.map (fun x => x.f0) = left
  t : ∀ x ∈ q, x.f1 = (⟨#[120]⟩ : ByteArray)
  r : rf n (-1) q = true
  m : q.length ≤ 64
theorem rf_early (n : Int) : ∀ (q : List S45) (a b : Int), b ≤ a → rf n a q = true → rf n b q = true := by
  intro q
  cases q with
  | nil => intros; rfl
  | cons x r =>
    intro a b hab h
    simp only [rf, Bool.and_eq_true, decide_eq_true_eq] at h
    simp only [rf, decide_eq_true (show b < x.f0 by omega), decide_eq_true h.2.1, Bool.true_and]
    exact h.2.2
theorem rf_filter (n : Int) (p : S45 → Bool) : ∀ (q : List S45) (a : Int), rf n a q = true → rf n a (q.filter p) = true := by
  intro q
  induction q with
  | nil => intros; rfl
  | cons x r ih =>
    intro a h
    simp only [rf, Bool.and_eq_true, decide_eq_true_eq] at h
    rw [List.filter_cons]
    split
    · simp only [rf, decide_eq_true h.1, decide_eq_true h.2.1, Bool.true_and]
      exact ih x.f0 h.2.2
    · exact rf_early n _ x.f0 a (by omega) (ih x.f0 h.2.2)
theorem inv_told {n : Int} {left : List Int} {q : List S45} (h : Inv n left q) (a : Int) : Inv n (left.filter (fun y => !(y == a))) (toldL q a) := by
  refine ⟨?_, fun x hx => h.t x (List.mem_filter.1 hx).1, rf_filter n _ q (-1) h.r, Nat.le_trans (toldL_le q a) h.m⟩
  unfold toldL
  rw [← h.l, List.filter_map]
  rfl
theorem inv_push {n : Int} {left : List Int} {q : List S45} (h : Inv n left q) (h0 : 0 ≤ n) (hl : q.length < 64) : Inv (n + 1) (left ++ [n]) (q ++ [⟨n, ⟨#[120]⟩⟩]) := by
  refine ⟨by rw [List.map_append, h.l]; rfl, fun x hx => ?_, rf_snoc n (n + 1) (by omega) _ q (-1) h.r (by omega), by simp; omega⟩
  rcases List.mem_append.1 hx with hx | hx
  · exact h.t x hx
  · obtain rfl := List.mem_singleton.1 hx
    rfl
theorem inv_len {n : Int} {left : List Int} {q : List S45} (h : Inv n left q) : left.length = q.length := by rw [← h.l, List.length_map]
theorem inv_rd {n : Int} {left : List Int} {q : List S45} (h : Inv n left q) {j : Nat} (hj : j < q.length) : q[j].f0 = rd left (j : Int) := by
  obtain ⟨h1, h2⟩ := rd_get (v := left) (i := (j : Int)) (by omega) (by rw [inv_len h]; omega)
  rw [h2]
  simp only [← h.l, Int.toNat_natCast, List.getElem_map]
theorem plays_l2 (acts left : List Int) (n i : Int) (q : List S45) (hI : Inv n left q) (hnext : Ev (fun k => switchboardlaw10_LinkPlays.l0 k acts left (wrap64 (i + 1)) n q) true) : ∀ (d j : Nat), j + d = q.length →
    Ev (fun k => switchboardlaw10_LinkPlays.l2 k acts left i q (q.length : Int) j n q) true := by
  have hl := inv_len hI
  have hm := hI.m
  intro d
  induction d with
  | zero =>
    intro j hj
    refine ev_shift ?_
    simp only [switchboardlaw10_LinkPlays.l2, if_neg (show ¬ (j : Int) < (q.length : Int) by omega)]
    exact hnext
  | succ d ih =>
    intro j hj
    have hlt : j < q.length := by omega
    have hw : wrap64 ((j : Int) + 1) = ((j + 1 : Nat) : Int) := by rw [wrap_small (by omega) (by omega)]; omega
    have ht : (⟨#[120]⟩ : ByteArray).toList = [120] := by decide +kernel
    refine ev_shift ?_
    simp only [switchboardlaw10_LinkPlays.l2, if_pos (show (j : Int) < (q.length : Int) by omega), if_pos (show (0 : Int) ≤ (j : Int) by omega), if_pos (show (j : Int) < (left.length : Int) by omega), rdT_get hlt, if_pos (inv_rd hI hlt), hI.t q[j] (List.getElem_mem hlt), ht, if_true, hw]
    exact ih (j + 1) (by omega)
theorem plays_j3 (acts left : List Int) (n i : Int) (q : List S45) (hI : Inv n left q) (h0 : 0 ≤ n) (h1 : n ≤ 100) (hnext : Ev (fun k => switchboardlaw10_LinkPlays.l0 k acts left (wrap64 (i + 1)) n q) true) :
    Ev (fun k => switchboardlaw10_LinkPlays.j3 k acts left i n q) true := by
  have hl := inv_len hI
  have hm := hI.m
  have hrb : rightB n q = true := by
    unfold rightB tailB
    rw [hI.r, decide_eq_true h0, decide_eq_true (show n ≤ 2147483647 by omega), decide_eq_true hm]
    rfl
  refine ev_shift ?_
  simp only [switchboardlaw10_LinkPlays.j3, if_pos (show (q.length : Int) = (left.length : Int) by omega)]
  have pr := right_ev n q (by omega)
  rw [hrb] at pr
  refine Ev.bind pr ?_
  simp only [Bool.not_true]
  refine ev_shift ?_
  simp only [switchboardlaw10_LinkPlays.j4, if_neg (show ¬ (false = true) by decide)]
  exact plays_l2 acts left n i q hI hnext q.length 0 (by omega)
theorem filter_succ {left : List Int} {j : Nat} (a : Int) (h : j < left.length) : (left.take (j + 1)).filter (fun y => !(y == a)) = (left.take j).filter (fun y => !(y == a)) ++ (if rd left (j : Int) = a then [] else [rd left (j : Int)]) := by
  obtain ⟨h1, h2⟩ := rd_get (v := left) (i := (j : Int)) (by omega) (by omega)
  rw [h2]
  simp only [Int.toNat_natCast]
  rw [List.take_succ_eq_append_getElem h, List.filter_append]
  by_cases c : left[j] = a <;> simp [c]
theorem plays_l1 (acts left : List Int) (n : Int) (i : Nat) (q : List S45) (hi : i < acts.length) (hw8 : wrap64 (rd acts (i : Int)) = rd acts (i : Int)) (hl : left.length ≤ 64) (hend : Ev (fun k => switchboardlaw10_LinkPlays.j3 k acts (left.filter (fun y => !(y == rd acts (i : Int)))) i n q) true) : ∀ (d j : Nat), j + d = left.length →
    Ev (fun k => switchboardlaw10_LinkPlays.l1 k acts i ((left.take j).filter (fun y => !(y == rd acts (i : Int)))) left (left.length : Int) j n q) true := by
  intro d
  induction d with
  | zero =>
    intro j hj
    refine ev_shift ?_
    rw [List.take_of_length_le (by omega)]
    simp only [switchboardlaw10_LinkPlays.l1, if_neg (show ¬ (j : Int) < (left.length : Int) by omega)]
    exact hend
  | succ d ih =>
    intro j hj
    have hw : wrap64 ((j : Int) + 1) = ((j + 1 : Nat) : Int) := by rw [wrap_small (by omega) (by omega)]; omega
    have key := ih (j + 1) (by omega)
    rw [filter_succ _ (by omega)] at key
    have hb : ((left.take j).filter (fun y => !(y == rd acts (i : Int)))).length < 17592186044416 := by
      have := List.length_filter_le (fun y => !(y == rd acts (i : Int))) (left.take j)
      rw [List.length_take] at this
      omega
    refine ev_shift ?_
    simp only [switchboardlaw10_LinkPlays.l1, if_pos (show (j : Int) < (left.length : Int) by omega), if_pos (show (0 : Int) ≤ (j : Int) by omega), if_pos (show (0 : Int) ≤ (i : Int) by omega), if_pos (show (i : Int) < (acts.length : Int) by omega), hw8, hw]
    by_cases c : rd left (j : Int) = rd acts (i : Int)
    · rw [if_pos c, List.append_nil] at key
      simp only [if_pos c]
      exact key
    · rw [if_neg c] at key
      simp only [if_neg c, if_pos hb]
      exact key
theorem plays_l0 (acts : List Int) (ha : ∀ x ∈ acts, -128 ≤ x ∧ x ≤ 127) : ∀ (d i : Nat) (left : List Int) (n : Int) (q : List S45), i + d = min acts.length 100 → Inv n left q → 0 ≤ n → n ≤ (i : Int) →
    Ev (fun k => switchboardlaw10_LinkPlays.l0 k acts left i n q) true := by
  intro d
  induction d with
  | zero =>
    intro i left n q hi _ _ _
    have key : Ev (fun k => switchboardlaw10_LinkPlays.j1 k acts left i false n q) true := by
      refine ev_shift ?_
      simp only [switchboardlaw10_LinkPlays.j1, if_neg (show ¬ (false = true) by decide)]
      exact awake2
    refine ev_shift ?_
    simp only [switchboardlaw10_LinkPlays.l0]
    by_cases c : (i : Int) < (acts.length : Int)
    · simp only [if_pos c, decide_eq_false (show ¬ (i : Int) < 100 by omega)]
      exact key
    · simp only [if_neg c]
      exact key
  | succ d ih =>
    intro i left n q hi hI h0 h1
    have hw : wrap64 ((i : Int) + 1) = ((i + 1 : Nat) : Int) := by rw [wrap_small (by omega) (by omega)]; omega
    have hm := hI.m
    have hl := inv_len hI
    have hr := ha _ (rd_mem (v := acts) (i := (i : Int)) (by omega) (by omega))
    have hw8 : wrap64 (rd acts (i : Int)) = rd acts (i : Int) := wrap_small (by omega) (by omega)
    refine ev_shift ?_
    simp only [switchboardlaw10_LinkPlays.l0, if_pos (show (i : Int) < (acts.length : Int) by omega), decide_eq_true (show (i : Int) < 100 by omega)]
    refine ev_shift ?_
    simp only [switchboardlaw10_LinkPlays.j1, if_true, if_pos (show (0 : Int) ≤ (i : Int) by omega), if_pos (show (i : Int) < (acts.length : Int) by omega), hw8]
    by_cases c : rd acts (i : Int) ≥ 0
    · simp only [if_pos c]
      rw [told_f n _ (by omega)]
      simp only [Option.bind_some]
      have key := plays_l1 acts left n i (toldL q (rd acts (i : Int))) (by omega) hw8 (by omega)
        (plays_j3 acts _ n i _ (inv_told hI _) h0 (by omega) (by rw [hw]; exact ih (i + 1) _ n _ (by omega) (inv_told hI _) h0 (by omega))) left.length 0 (by omega)
      exact key
    · simp only [if_neg c]
      have hrb : rightB n q = true := by
        unfold rightB tailB
        rw [hI.r, decide_eq_true h0, decide_eq_true (show n ≤ 2147483647 by omega), decide_eq_true hm]
        rfl
      have pe := push_ev n q ⟨#[120]⟩ (by omega)
      by_cases e : q.length = 64
      · have hp : pushR n q ⟨#[120]⟩ = (n, q, 0, 8) := by
          unfold pushR
          rw [if_pos ⟨hrb, by omega⟩, if_pos e]
        rw [hp] at pe
        refine Ev.bind pe ?_
        have hf : (((8 : Int) == 0) != decide ((left.length : Int) < 64)) = false := by rw [decide_eq_false (by omega)]; rfl
        simp only [hf, if_neg (show ¬ (false = true) by decide), if_neg (show ¬ (8 : Int) = 0 by decide)]
        exact plays_j3 acts left n i q hI h0 (by omega) (by rw [hw]; exact ih (i + 1) left n q (by omega) hI h0 (by omega))
      · have hp : pushR n q ⟨#[120]⟩ = (n + 1, q ++ [⟨n, ⟨#[120]⟩⟩], n, 0) := by
          unfold pushR
          rw [if_pos ⟨hrb, by omega⟩, if_neg e]
        rw [hp] at pe
        refine Ev.bind pe ?_
        have hf : (((0 : Int) == 0) != decide ((left.length : Int) < 64)) = false := by rw [decide_eq_true (by omega)]; rfl
        simp only [hf, if_neg (show ¬ (false = true) by decide), if_true, if_pos (show left.length < 17592186044416 by omega)]
        have hI2 := inv_push hI h0 (by omega)
        exact plays_j3 acts _ (n + 1) i _ hI2 (by omega) (by omega) (by rw [hw]; exact ih (i + 1) _ (n + 1) _ (by omega) hI2 (by omega) (by omega))
theorem wfi8 {x : Int} (h : (Lit.int .i8 x).wf = true) : -128 ≤ x ∧ x ≤ 127 := by
  simp [Lit.wf, IntKind.min, IntKind.max, IntKind.signed, IntKind.bits] at h
  omega
theorem LinkPlays : LinkPlaysPure := by
  intro acts _ ha
  refine ev_rounds ?_
  unfold switchboardlaw10_LinkPlays.f
  exact plays_l0 acts (fun x hx => wfi8 (ha x hx)) (min acts.length 100) 0 [] 0 [] (by omega) ⟨rfl, (fun x hx => by cases hx), rfl, by simp⟩ (by omega) (by omega)

end Go.Proofs.Ytikncbklhnaajaa.Pure
