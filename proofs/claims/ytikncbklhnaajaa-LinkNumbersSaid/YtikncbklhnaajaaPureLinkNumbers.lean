/- Proved here: numbers of pushes rise by one, whatever was told of between (every row of answers; of its first 200). No condition. -/
import Derived.Test.YtikncbklhnaajaaPr8
namespace Go.Proofs.Ytikncbklhnaajaa.Pure
open Go.RowKit Go.Proofs.Ytikncbklhnaajaa.Pr Go.Proofs.YtikncbklhnaajaaW.PrintWords Go.Proofs.YtikncbklhnaajaaW.PrintLast Go.Proofs.YtikncbklhnaajaaW.PrintMore
set_option linter.unusedVariables false
set_option linter.unusedSimpArgs false

def LinkNumbersPure : Prop := ∀ (l0 : List Bool), l0.length ≤ maxLen → (∀ y ∈ l0, True) → ∃ k, switchboardlaw10_LinkNumbers.f k l0 = some true

theorem wrap_small {i : Int} (h0 : -9223372036854775808 ≤ i) (h1 : i < 9223372036854775808) : wrap64 i = i := by
  unfold wrap64
  omega

theorem ev_rounds {g : Nat → Option Bool} (h : Ev g true) : ∃ k, g k = some true := h.rounds
theorem ev_shift {α : Type} {g : Nat → Option α} {r : α} (h : Ev (fun k => g (k + 1)) r) : Ev g r := Ev.step (fun _ => rfl) h

def cv (x : S45) : S40 := ⟨x.f0, x.f1⟩
/-- Frames' numbers rise, from behind last on, and are below n. -/
def rf (n : Int) : Int → List S45 → Bool
  | _, [] => true
  | last, x :: r => decide (last < x.f0) && (decide (x.f0 < n) && rf n x.f0 r)
def tailB (n : Int) (q : List S45) : Bool := decide (0 ≤ n) && (decide (n ≤ 2147483647) && decide (q.length ≤ 64))
def rightB (n : Int) (q : List S45) : Bool := rf n (-1) q && tailB n q
theorem rdT_get {q : List S45} {i : Nat} (h : i < q.length) : rd_T45 q i = q[i] := by
  unfold rd_T45
  rw [Int.toNat_natCast, List.getD_eq_getElem?_getD, List.getElem?_eq_getElem h]
  rfl
theorem rdU_get {q : List S40} {i : Nat} (h : i < q.length) : rd_T40 q i = q[i] := by
  unfold rd_T40
  rw [Int.toNat_natCast, List.getD_eq_getElem?_getD, List.getElem?_eq_getElem h]
  rfl
theorem rdU_map {q : List S45} {i : Nat} (h : i < q.length) : rd_T40 (q.map cv) i = cv q[i] := by
  rw [rdU_get (by rw [List.length_map]; exact h), List.getElem_map]
theorem right_l0 (n : Int) (q : List S45) (hn : q.length ≤ 9223372036854775806) : ∀ (d i : Nat) (last : Int), i + d = q.length →
    Ev (fun k => link_Right.l0 k last q (q.length : Int) i n q) (rf n last (q.drop i) && tailB n q) := by
  intro d
  induction d with
  | zero =>
    intro i last hi
    refine ev_shift ?_
    rw [List.drop_eq_nil_of_le (by omega)]
    simp only [link_Right.l0, if_neg (show ¬ (i : Int) < (q.length : Int) by omega)]
    unfold tailB
    by_cases a : n ≥ 0
    · by_cases b : n ≤ 2147483647
      · simp only [if_pos a, if_pos b]
        have e : (rf n last [] && (decide (0 ≤ n) && (decide (n ≤ 2147483647) && decide (q.length ≤ 64)))) = decide ((q.length : Int) ≤ 64) := by
          rw [decide_eq_true (show 0 ≤ n from a), decide_eq_true b]
          simp only [rf, Bool.true_and]
          by_cases c : q.length ≤ 64
          · rw [decide_eq_true c, decide_eq_true (by omega)]
          · rw [decide_eq_false c, decide_eq_false (by omega)]
        rw [e]
        exact Ev.now _
      · simp only [if_pos a, if_neg b]
        rw [decide_eq_false b]
        simp only [Bool.false_and, Bool.and_false]
        exact Ev.now _
    · simp only [if_neg a]
      rw [decide_eq_false (show ¬ 0 ≤ n from a)]
      simp only [Bool.false_and, Bool.and_false]
      exact Ev.now _
  | succ d ih =>
    intro i last hi
    have hw : wrap64 ((i : Int) + 1) = ((i + 1 : Nat) : Int) := by rw [wrap_small (by omega) (by omega)]; omega
    refine ev_shift ?_
    have hlt : i < q.length := by omega
    rw [List.drop_eq_getElem_cons hlt]
    simp only [link_Right.l0, if_pos (show (i : Int) < (q.length : Int) by omega), if_pos (show (0 : Int) ≤ (i : Int) by omega), rdT_get hlt, hw, rf]
    by_cases a : q[i].f0 ≤ last
    · simp only [if_pos a, decide_eq_false (show ¬ last < q[i].f0 by omega), Bool.false_and]
      exact Ev.now _
    · simp only [if_neg a, decide_eq_true (show last < q[i].f0 by omega), Bool.true_and]
      by_cases b : q[i].f0 ≥ n
      · simp only [if_pos b, decide_eq_false (show ¬ q[i].f0 < n by omega), Bool.false_and]
        exact Ev.now _
      · simp only [if_neg b, decide_eq_true (show q[i].f0 < n by omega), Bool.true_and]
        exact ih (i + 1) q[i].f0 (by omega)
theorem right_ev (n : Int) (q : List S45) (hn : q.length ≤ 9223372036854775806) : Ev (fun k => link_Right.f k n q) (rightB n q) := by
  unfold link_Right.f
  exact right_l0 n q hn q.length 0 (-1) (by omega)
theorem clone_f {q : List S45} (h : q.length < 5864062014805) : link_Frame_16.f q = some q := by
  unfold link_Frame_16.f
  simp only [Option.bind_some, List.length_nil, Nat.zero_add, List.nil_append, if_pos h]
/-- What Push gives: the link, the number, the errno. -/
def pushR (n : Int) (q : List S45) (s : ByteArray) : Int × List S45 × Int × Int :=
  if rightB n q = true ∧ n ≠ 2147483647 then (if q.length = 64 then (n, q, 0, 8) else (n + 1, q ++ [⟨n, s⟩], n, 0)) else (n, q, 0, 1)
theorem rightB_true {n : Int} {q : List S45} (h : rightB n q = true) : rf n (-1) q = true ∧ 0 ≤ n ∧ n ≤ 2147483647 ∧ q.length ≤ 64 := by
  unfold rightB tailB at h
  simp only [Bool.and_eq_true, decide_eq_true_eq] at h
  exact ⟨h.1, h.2.1, h.2.2.1, h.2.2.2⟩
theorem push_j0 (n : Int) (q : List S45) (s : ByteArray) (hn : q.length < 5864062014805) (b : Bool) (hb : b = false → 0 ≤ n ∧ n < 2147483647) : Ev (fun k => link_Push.j0 k s b n q) (if b = true then (n, q, 0, 1) else (if q.length = 64 then (n, q, 0, 8) else (n + 1, q ++ [⟨n, s⟩], n, 0))) := by
  refine ev_shift ?_
  cases b
  · simp only [link_Push.j0, if_neg (show ¬ (false = true) by decide)]
    by_cases c : q.length = 64
    · simp only [if_pos (show (q.length : Int) = 64 by omega), if_pos c]
      exact Ev.now _
    · have hw : wrap64 (n + 1) = n + 1 := wrap_small (by have := hb rfl; omega) (by have := hb rfl; omega)
      simp only [if_neg (show ¬ (q.length : Int) = 64 by omega), if_neg c, clone_f hn, Option.bind_some, if_pos hn, hw]
      exact Ev.now _
  · simp only [link_Push.j0, if_true]
    exact Ev.now _
theorem push_ev (n : Int) (q : List S45) (s : ByteArray) (hn : q.length < 5864062014805) : Ev (fun k => link_Push.f k n q s) (pushR n q s) := by
  unfold link_Push.f pushR
  refine Ev.bind (right_ev n q (by omega)) ?_
  cases hr : rightB n q
  · simp only [if_neg (show ¬ (false = true) by decide), if_neg (show ¬ (false = true ∧ n ≠ 2147483647) by simp)]
    have key := push_j0 n q s hn true (by simp)
    simp only [if_true] at key
    exact key
  · have h := rightB_true hr
    by_cases c : n = 2147483647
    · rw [if_neg (show ¬ (true = true ∧ n ≠ 2147483647) by simp [c])]
      simp only [if_true, show (n == 2147483647) = true from beq_iff_eq.2 c]
      have key := push_j0 n q s hn true (by simp)
      simp only [if_true] at key
      exact key
    · rw [if_pos (show (true = true ∧ n ≠ 2147483647) from ⟨rfl, c⟩)]
      simp only [if_true, show (n == 2147483647) = false from beq_eq_false_iff_ne.2 c]
      have key := push_j0 n q s hn false (fun _ => by omega)
      simp only [if_neg (show ¬ (false = true) by decide)] at key
      exact key
def toldL (q : List S45) (a : Int) : List S45 := q.filter (fun x => !(x.f0 == a))
theorem told_f (n : Int) {q : List S45} (a : Int) (h : q.length < 5864062014805) : link_Told.f n q a = some (n, toldL q a) := by
  unfold link_Told.f toldL
  simp only [clone_f h, Option.bind_some]
theorem toldL_le (q : List S45) (a : Int) : (toldL q a).length ≤ q.length := List.length_filter_le ..

theorem awake_ev : Ev (fun k => switchboardlaw10_awake.f k) true := by
  unfold switchboardlaw10_awake.f
  have p1 := push_ev 0 [] ⟨#[97]⟩ (by decide)
  have e1 : pushR 0 [] ⟨#[97]⟩ = (1, [⟨0, ⟨#[97]⟩⟩], 0, 0) := rfl
  rw [e1] at p1
  refine Ev.bind p1 ?_
  have p2 := push_ev 1 [⟨0, ⟨#[97]⟩⟩] ⟨#[98]⟩ (by decide)
  have e2 : pushR 1 [⟨0, ⟨#[97]⟩⟩] ⟨#[98]⟩ = (2, [⟨0, ⟨#[97]⟩⟩, ⟨1, ⟨#[98]⟩⟩], 1, 0) := rfl
  rw [e2] at p2
  refine Ev.bind p2 ?_
  simp only [told_f (n := 2) (q := [⟨0, ⟨#[97]⟩⟩, ⟨1, ⟨#[98]⟩⟩]) 0 (by decide), Option.bind_some]
  have e3 : toldL [⟨0, ⟨#[97]⟩⟩, ⟨1, ⟨#[98]⟩⟩] 0 = [⟨1, ⟨#[98]⟩⟩] := rfl
  have e4 : (rd_T45 [⟨1, ⟨#[98]⟩⟩] 0).f1.toList = [98] := by
    show (⟨#[98]⟩ : ByteArray).toList = [98]
    decide +kernel
  simp only [e3, e4, if_true, List.length_singleton, if_pos (show ((1 : Nat) : Int) = 1 from rfl), if_pos (show (0 : Int) < ((1 : Nat) : Int) by decide)]
  have p3 := right_ev 2 [⟨1, ⟨#[98]⟩⟩] (by decide)
  have e5 : rightB 2 [⟨1, ⟨#[98]⟩⟩] = true := rfl
  rw [e5] at p3
  exact Ev.bind p3 (Ev.now true)
theorem awake2 : Ev (fun k => (switchboardlaw10_awake.f k).bind fun t => some t) true := Ev.bind awake_ev (Ev.now true)

/-- A queue whose numbers rise below n takes the number n behind. -/
theorem rf_snoc (n m : Int) (hm : n < m) (s : ByteArray) : ∀ (q : List S45) (last : Int), rf n last q = true → last < n → rf m last (q ++ [⟨n, s⟩]) = true := by
  intro q
  induction q with
  | nil =>
    intro last _ hl
    simp only [List.nil_append, rf, decide_eq_true hl, decide_eq_true hm, Bool.true_and]
  | cons x r ih =>
    intro last h hl
    simp only [rf, Bool.and_eq_true, decide_eq_true_eq] at h
    simp only [List.cons_append, rf, decide_eq_true h.1, decide_eq_true (show x.f0 < m by omega), Bool.true_and]
    exact ih x.f0 h.2.2 h.2.1
theorem rf_lift (n m : Int) (hm : n ≤ m) : ∀ (q : List S45) (last : Int), rf n last q = true → rf m last q = true := by
  intro q
  induction q with
  | nil => intro _ _; rfl
  | cons x r ih =>
    intro last h
    simp only [rf, Bool.and_eq_true, decide_eq_true_eq] at h
    simp only [rf, decide_eq_true h.1, decide_eq_true (show x.f0 < m by omega), Bool.true_and]
    exact ih x.f0 h.2.2
theorem rf_below (n : Int) : ∀ (q : List S45) (last : Int), rf n last q = true → ∀ x ∈ q, x.f0 < n := by
  intro q
  induction q with
  | nil => intro _ _ x hx; cases hx
  | cons y r ih =>
    intro last h x hx
    simp only [rf, Bool.and_eq_true, decide_eq_true_eq] at h
    rcases List.mem_cons.1 hx with rfl | hx
    · exact h.2.1
    · exact ih y.f0 h.2.2 x hx
theorem told_snoc (n : Int) (s : ByteArray) (q : List S45) (h : ∀ x ∈ q, x.f0 < n) : toldL (q ++ [⟨n, s⟩]) n = q := by
  unfold toldL
  rw [List.filter_append]
  have e : q.filter (fun x => !(x.f0 == n)) = q := by
    rw [List.filter_eq_self]
    intro x hx
    have := h x hx
    simp only [Bool.not_eq_true', beq_eq_false_iff_ne, ne_eq]
    omega
  rw [e]
  simp
theorem numbers_l0 (b : List Bool) : ∀ (d i : Nat) (q : List S45), i + d = min b.length 200 → rf (i : Int) (-1) q = true → q.length ≤ min i 60 →
    Ev (fun k => switchboardlaw10_LinkNumbers.l0 k b (q.length : Int) i i q) true := by
  intro d
  induction d with
  | zero =>
    intro i q hi hr hl
    have key : Ev (fun k => switchboardlaw10_LinkNumbers.j1 k b (q.length : Int) i false i q) true := by
      refine ev_shift ?_
      simp only [switchboardlaw10_LinkNumbers.j1, if_neg (show ¬ (false = true) by decide)]
      exact awake2
    refine ev_shift ?_
    simp only [switchboardlaw10_LinkNumbers.l0]
    by_cases c : (i : Int) < (b.length : Int)
    · simp only [if_pos c, decide_eq_false (show ¬ (i : Int) < 200 by omega)]
      exact key
    · simp only [if_neg c]
      exact key
  | succ d ih =>
    intro i q hi hr hl
    have hw : wrap64 ((i : Int) + 1) = ((i + 1 : Nat) : Int) := by rw [wrap_small (by omega) (by omega)]; omega
    have hw2 : wrap64 ((q.length : Int) + 1) = ((q.length + 1 : Nat) : Int) := by rw [wrap_small (by omega) (by omega)]; omega
    have hrb : rightB (i : Int) q = true := by
      unfold rightB tailB
      rw [hr, decide_eq_true (show (0 : Int) ≤ (i : Int) by omega), decide_eq_true (show (i : Int) ≤ 2147483647 by omega), decide_eq_true (show q.length ≤ 64 by omega)]
      rfl
    have hp : pushR (i : Int) q ⟨#[120]⟩ = ((i : Int) + 1, q ++ [⟨(i : Int), ⟨#[120]⟩⟩], (i : Int), 0) := by
      unfold pushR
      rw [if_pos ⟨hrb, by omega⟩, if_neg (by omega)]
    have hs : rf ((i + 1 : Nat) : Int) (-1) (q ++ [⟨(i : Int), ⟨#[120]⟩⟩]) = true := rf_snoc (i : Int) _ (by omega) _ q (-1) hr (by omega)
    refine ev_shift ?_
    simp only [switchboardlaw10_LinkNumbers.l0, if_pos (show (i : Int) < (b.length : Int) by omega), decide_eq_true (show (i : Int) < 200 by omega)]
    refine ev_shift ?_
    simp only [switchboardlaw10_LinkNumbers.j1, if_true]
    have pe := push_ev (i : Int) q ⟨#[120]⟩ (by omega)
    rw [hp] at pe
    refine Ev.bind pe ?_
    have hwc : ((i : Int) + 1 != wrap64 ((i : Int) + 1)) = false := by rw [hw]; simp
    simp only [if_true, hwc]
    refine ev_shift ?_
    simp only [switchboardlaw10_LinkNumbers.j2, if_neg (show ¬ (false = true) by decide)]
    have ktold : Ev (fun k => switchboardlaw10_LinkNumbers.j3 k b (q.length : Int) i i false ((i : Int) + 1) (q ++ [⟨(i : Int), ⟨#[120]⟩⟩])) true := by
      refine ev_shift ?_
      simp only [switchboardlaw10_LinkNumbers.j3, if_neg (show ¬ (false = true) by decide)]
      rw [told_f _ _ (by simp; omega), told_snoc _ _ _ (rf_below _ q (-1) hr)]
      simp only [Option.bind_some, if_true, hw]
      exact ih (i + 1) q (by omega) (rf_lift _ _ (by omega) q (-1) hr) (by omega)
    by_cases c : (i : Int) < 60
    · simp only [if_pos c, if_pos (show (0 : Int) ≤ (i : Int) by omega), if_pos (show (i : Int) < (b.length : Int) by omega)]
      cases hv : rdOf false b (i : Int)
      · exact ktold
      · refine ev_shift ?_
        have hlen : (q ++ [(⟨(i : Int), ⟨#[120]⟩⟩ : S45)]).length = q.length + 1 := by simp
        simp only [switchboardlaw10_LinkNumbers.j3, if_true, hw2, hw, if_pos (show ((q ++ [(⟨(i : Int), ⟨#[120]⟩⟩ : S45)]).length : Int) = ((q.length + 1 : Nat) : Int) by rw [hlen])]
        have key := ih (i + 1) (q ++ [⟨(i : Int), ⟨#[120]⟩⟩]) (by omega) hs (by rw [hlen]; omega)
        rw [hlen] at key
        exact key
    · simp only [if_neg c]
      exact ktold
theorem LinkNumbers : LinkNumbersPure := by
  intro b hb _
  refine ev_rounds ?_
  unfold switchboardlaw10_LinkNumbers.f
  exact numbers_l0 b (min b.length 200) 0 [] (by omega) rfl (by simp)

end Go.Proofs.Ytikncbklhnaajaa.Pure
