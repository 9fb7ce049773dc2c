/- Proved here: on a wrong link, or a full one, nothing is pushed, and it is as it was; what nobody sent is not told of (all links and texts; past 100 frames of 100 bytes the fixed answer alone). No condition. -/
import Derived.Test.YtikncbklhnaajaaPr7
namespace Go.Proofs.Ytikncbklhnaajaa.Pure
open Go.RowKit Go.Proofs.Ytikncbklhnaajaa.Pr Go.Proofs.YtikncbklhnaajaaW.PrintWords Go.Proofs.YtikncbklhnaajaaW.PrintLast Go.Proofs.YtikncbklhnaajaaW.PrintMore
set_option linter.unusedVariables false
set_option linter.unusedSimpArgs false

def LinkWrongPure : Prop := ∀ (a0_0 : Int) (l0_1 : List S45) (a1 : ByteArray), ((Lit.int .i64 a0_0).wf = true) → (l0_1.length ≤ maxLen ∧ ∀ y2 ∈ l0_1, ((Lit.int .i64 y2.f0).wf = true) ∧ (y2.f1.size ≤ maxLen)) → a1.size ≤ 140737488351232 → ∃ k, switchboardlaw10_LinkWrong.f k a0_0 l0_1 a1 = some true

theorem wrap_small {i : Int} (h0 : -9223372036854775808 ≤ i) (h1 : i < 9223372036854775808) : wrap64 i = i := by
  unfold wrap64
  omega

theorem ev_rounds {g : Nat → Option Bool} (h : Ev g true) : ∃ k, g k = some true := h.rounds
theorem ev_shift {α : Type} {g : Nat → Option α} {r : α} (h : Ev (fun k => g (k + 1)) r) : Ev g r := Ev.step (fun _ => rfl) h

def cv (x : S45) : S40 := ⟨x.f0, x.f1⟩
/-- Frames' numbers rise, from behind last on, and are below n. -/
def rf (n : Int) : Int → List S45 → Bool
  | _, [] => true
  | last, x :: r => decide (last < x.f0) && (decide (x.f0 < n) && rf n x.f0 r)
def tailB (n : Int) (q : List S45) : Bool := decide (0 ≤ n) && (decide (n ≤ 2147483647) && decide (q.length ≤ 64))
def rightB (n : Int) (q : List S45) : Bool := rf n (-1) q && tailB n q
theorem rdT_get {q : List S45} {i : Nat} (h : i < q.length) : rd_T45 q i = q[i] := by
  unfold rd_T45
  rw [Int.toNat_natCast, List.getD_eq_getElem?_getD, List.getElem?_eq_getElem h]
  rfl
theorem rdU_get {q : List S40} {i : Nat} (h : i < q.length) : rd_T40 q i = q[i] := by
  unfold rd_T40
  rw [Int.toNat_natCast, List.getD_eq_getElem?_getD, List.getElem?_eq_getElem h]
  rfl
theorem rdU_map {q : List S45} {i : Nat} (h : i < q.length) : rd_T40 (q.map cv) i = cv q[i] := by
  rw [rdU_get (by rw [List.length_map]; exact h), List.getElem_map]
theorem right_l0 (n : Int) (q : List S45) (hn : q.length ≤ 9223372036854775806) : ∀ (d i : Nat) (last : Int), i + d = q.length →
    Ev (fun k => link_Right.l0 k last q (q.length : Int) i n q) (rf n last (q.drop i) && tailB n q) := by
  intro d
  induction d with
  | zero =>
    intro i last hi
    refine ev_shift ?_
    rw [List.drop_eq_nil_of_le (by omega)]
    simp only [link_Right.l0, if_neg (show ¬ (i : Int) < (q.length : Int) by omega)]
    unfold tailB
    by_cases a : n ≥ 0
    · by_cases b : n ≤ 2147483647
      · simp only [if_pos a, if_pos b]
        have e : (rf n last [] && (decide (0 ≤ n) && (decide (n ≤ 2147483647) && decide (q.length ≤ 64)))) = decide ((q.length : Int) ≤ 64) := by
          rw [decide_eq_true (show 0 ≤ n from a), decide_eq_true b]
          simp only [rf, Bool.true_and]
          by_cases c : q.length ≤ 64
          · rw [decide_eq_true c, decide_eq_true (by omega)]
          · rw [decide_eq_false c, decide_eq_false (by omega)]
        rw [e]
        exact Ev.now _
      · simp only [if_pos a, if_neg b]
        rw [decide_eq_false b]
        simp only [Bool.false_and, Bool.and_false]
        exact Ev.now _
    · simp only [if_neg a]
      rw [decide_eq_false (show ¬ 0 ≤ n from a)]
      simp only [Bool.false_and, Bool.and_false]
      exact Ev.now _
  | succ d ih =>
    intro i last hi
    have hw : wrap64 ((i : Int) + 1) = ((i + 1 : Nat) : Int) := by rw [wrap_small (by omega) (by omega)]; omega
    refine ev_shift ?_
    have hlt : i < q.length := by omega
    rw [List.drop_eq_getElem_cons hlt]
    simp only [link_Right.l0, if_pos (show (i : Int) < (q.length : Int) by omega), if_pos (show (0 : Int) ≤ (i : Int) by omega), rdT_get hlt, hw, rf]
    by_cases a : q[i].f0 ≤ last
    · simp only [if_pos a, decide_eq_false (show ¬ last < q[i].f0 by omega), Bool.false_and]
      exact Ev.now _
    · simp only [if_neg a, decide_eq_true (show last < q[i].f0 by omega), Bool.true_and]
      by_cases b : q[i].f0 ≥ n
      · simp only [if_pos b, decide_eq_false (show ¬ q[i].f0 < n by omega), Bool.false_and]
        exact Ev.now _
      · simp only [if_neg b, decide_eq_true (show q[i].f0 < n by omega), Bool.true_and]
        exact ih (i + 1) q[i].f0 (by omega)
theorem right_ev (n : Int) (q : List S45) (hn : q.length ≤ 9223372036854775806) : Ev (fun k => link_Right.f k n q) (rightB n q) := by
  unfold link_Right.f
  exact right_l0 n q hn q.length 0 (-1) (by omega)
theorem clone_f {q : List S45} (h : q.length < 5864062014805) : link_Frame_16.f q = some q := by
  unfold link_Frame_16.f
  simp only [Option.bind_some, List.length_nil, Nat.zero_add, List.nil_append, if_pos h]
/-- What Push gives: the link, the number, the errno. -/
def pushR (n : Int) (q : List S45) (s : ByteArray) : Int × List S45 × Int × Int :=
  if rightB n q = true ∧ n ≠ 2147483647 then (if q.length = 64 then (n, q, 0, 8) else (n + 1, q ++ [⟨n, s⟩], n, 0)) else (n, q, 0, 1)
theorem rightB_true {n : Int} {q : List S45} (h : rightB n q = true) : rf n (-1) q = true ∧ 0 ≤ n ∧ n ≤ 2147483647 ∧ q.length ≤ 64 := by
  unfold rightB tailB at h
  simp only [Bool.and_eq_true, decide_eq_true_eq] at h
  exact ⟨h.1, h.2.1, h.2.2.1, h.2.2.2⟩
theorem push_j0 (n : Int) (q : List S45) (s : ByteArray) (hn : q.length < 5864062014805) (b : Bool) (hb : b = false → 0 ≤ n ∧ n < 2147483647) : Ev (fun k => link_Push.j0 k s b n q) (if b = true then (n, q, 0, 1) else (if q.length = 64 then (n, q, 0, 8) else (n + 1, q ++ [⟨n, s⟩], n, 0))) := by
  refine ev_shift ?_
  cases b
  · simp only [link_Push.j0, if_neg (show ¬ (false = true) by decide)]
    by_cases c : q.length = 64
    · simp only [if_pos (show (q.length : Int) = 64 by omega), if_pos c]
      exact Ev.now _
    · have hw : wrap64 (n + 1) = n + 1 := wrap_small (by have := hb rfl; omega) (by have := hb rfl; omega)
      simp only [if_neg (show ¬ (q.length : Int) = 64 by omega), if_neg c, clone_f hn, Option.bind_some, if_pos hn, hw]
      exact Ev.now _
  · simp only [link_Push.j0, if_true]
    exact Ev.now _
theorem push_ev (n : Int) (q : List S45) (s : ByteArray) (hn : q.length < 5864062014805) : Ev (fun k => link_Push.f k n q s) (pushR n q s) := by
  unfold link_Push.f pushR
  refine Ev.bind (right_ev n q (by omega)) ?_
  cases hr : rightB n q
  · simp only [if_neg (show ¬ (false = true) by decide), if_neg (show ¬ (false = true ∧ n ≠ 2147483647) by simp)]
    have key := push_j0 n q s hn true (by simp)
    simp only [if_true] at key
    exact key
  · have h := rightB_true hr
    by_cases c : n = 2147483647
    · rw [if_neg (show ¬ (true = true ∧ n ≠ 2147483647) by simp [c])]
      simp only [if_true, show (n == 2147483647) = true from beq_iff_eq.2 c]
      have key := push_j0 n q s hn true (by simp)
      simp only [if_true] at key
      exact key
    · rw [if_pos (show (true = true ∧ n ≠ 2147483647) from ⟨rfl, c⟩)]
      simp only [if_true, show (n == 2147483647) = false from beq_eq_false_iff_ne.2 c]
      have key := push_j0 n q s hn false (fun _ => by omega)
      simp only [if_neg (show ¬ (false = true) by decide)] at key
      exact key
def toldL (q : List S45) (a : Int) : List S45 := q.filter (fun x => !(x.f0 == a))
theorem told_f (n : Int) {q : List S45} (a : Int) (h : q.length < 5864062014805) : link_Told.f n q a = some (n, toldL q a) := by
  unfold link_Told.f toldL
  simp only [clone_f h, Option.bind_some]
theorem toldL_le (q : List S45) (a : Int) : (toldL q a).length ≤ q.length := List.length_filter_le ..

theorem awake_ev : Ev (fun k => switchboardlaw10_awake.f k) true := by
  unfold switchboardlaw10_awake.f
  have p1 := push_ev 0 [] ⟨#[97]⟩ (by decide)
  have e1 : pushR 0 [] ⟨#[97]⟩ = (1, [⟨0, ⟨#[97]⟩⟩], 0, 0) := rfl
  rw [e1] at p1
  refine Ev.bind p1 ?_
  have p2 := push_ev 1 [⟨0, ⟨#[97]⟩⟩] ⟨#[98]⟩ (by decide)
  have e2 : pushR 1 [⟨0, ⟨#[97]⟩⟩] ⟨#[98]⟩ = (2, [⟨0, ⟨#[97]⟩⟩, ⟨1, ⟨#[98]⟩⟩], 1, 0) := rfl
  rw [e2] at p2
  refine Ev.bind p2 ?_
  simp only [told_f (n := 2) (q := [⟨0, ⟨#[97]⟩⟩, ⟨1, ⟨#[98]⟩⟩]) 0 (by decide), Option.bind_some]
  have e3 : toldL [⟨0, ⟨#[97]⟩⟩, ⟨1, ⟨#[98]⟩⟩] 0 = [⟨1, ⟨#[98]⟩⟩] := rfl
  have e4 : (rd_T45 [⟨1, ⟨#[98]⟩⟩] 0).f1.toList = [98] := by
    show (⟨#[98]⟩ : ByteArray).toList = [98]
    decide +kernel
  simp only [e3, e4, if_true, List.length_singleton, if_pos (show ((1 : Nat) : Int) = 1 from rfl), if_pos (show (0 : Int) < ((1 : Nat) : Int) by decide)]
  have p3 := right_ev 2 [⟨1, ⟨#[98]⟩⟩] (by decide)
  have e5 : rightB 2 [⟨1, ⟨#[98]⟩⟩] = true := rfl
  rw [e5] at p3
  exact Ev.bind p3 (Ev.now true)
theorem awake2 : Ev (fun k => (switchboardlaw10_awake.f k).bind fun t => some t) true := Ev.bind awake_ev (Ev.now true)

def szB (q : List S45) : Bool := q.all (fun x => decide ((x.f1.size : Int) ≤ 100))
def okL (q : List S45) : Bool := decide (q.length ≤ 100) && szB q
theorem take_map {q : List S45} {i : Nat} (h : i < q.length) : (q.take i).map cv ++ [cv q[i]] = (q.take (i + 1)).map cv := by
  rw [List.take_succ_eq_append_getElem h, List.map_append]
  rfl
theorem ref_l0 (n : Int) (q : List S45) (hn : q.length ≤ 100) : ∀ (d i : Nat), i + d = q.length →
    ∃ xs, Ev (fun k => switchboardlaw10_ref.l0 k q (q.length : Int) i n ((q.take i).map cv)) (n, xs, szB (q.drop i)) ∧ (szB (q.drop i) = true → xs = q.map cv) := by
  intro d
  induction d with
  | zero =>
    intro i hi
    rw [List.drop_eq_nil_of_le (by omega), List.take_of_length_le (by omega)]
    refine ⟨q.map cv, ?_, fun _ => rfl⟩
    refine ev_shift ?_
    simp only [switchboardlaw10_ref.l0, if_neg (show ¬ (i : Int) < (q.length : Int) by omega)]
    exact Ev.now _
  | succ d ih =>
    intro i hi
    have hlt : i < q.length := by omega
    have hw : wrap64 ((i : Int) + 1) = ((i + 1 : Nat) : Int) := by rw [wrap_small (by omega) (by omega)]; omega
    rw [List.drop_eq_getElem_cons hlt]
    by_cases c : ((q[i].f1).size : Int) > 100
    · have e : szB (q[i] :: q.drop (i + 1)) = false := by
        unfold szB
        rw [List.all_cons, decide_eq_false (by omega), Bool.false_and]
      refine ⟨(q.take i).map cv, ?_, fun h => by rw [e] at h; cases h⟩
      rw [e]
      refine ev_shift ?_
      simp only [switchboardlaw10_ref.l0, if_pos (show (i : Int) < (q.length : Int) by omega), if_pos (show (0 : Int) ≤ (i : Int) by omega), rdT_get hlt, if_pos c]
      exact Ev.now _
    · have e : szB (q[i] :: q.drop (i + 1)) = szB (q.drop (i + 1)) := by
        unfold szB
        rw [List.all_cons, decide_eq_true (show ((q[i].f1).size : Int) ≤ 100 by omega), Bool.true_and]
      obtain ⟨xs, h1, h2⟩ := ih (i + 1) (by omega)
      refine ⟨xs, ?_, fun h => h2 (by rw [← e]; exact h)⟩
      rw [e]
      refine ev_shift ?_
      simp only [switchboardlaw10_ref.l0, if_pos (show (i : Int) < (q.length : Int) by omega), if_pos (show (0 : Int) ≤ (i : Int) by omega), rdT_get hlt, if_neg c, if_pos (show ((q.take i).map cv).length < 5864062014805 by rw [List.length_map, List.length_take]; omega), hw]
      have hh := take_map hlt
      unfold cv at hh h1 ⊢
      rw [hh]
      exact h1
theorem ref_ev (n : Int) (q : List S45) : ∃ xs, Ev (fun k => switchboardlaw10_ref.f k n q) (n, xs, okL q) ∧ (okL q = true → xs = q.map cv) := by
  unfold switchboardlaw10_ref.f okL
  by_cases c : q.length ≤ 100
  · obtain ⟨xs, h1, h2⟩ := ref_l0 n q c q.length 0 (by omega)
    rw [List.drop_zero] at h1 h2
    refine ⟨xs, ?_, fun h => h2 (by rw [decide_eq_true c, Bool.true_and] at h; exact h)⟩
    rw [decide_eq_true c, Bool.true_and]
    simp only [if_neg (show ¬ (q.length : Int) > 100 by omega)]
    exact h1
  · refine ⟨[], ?_, fun h => by rw [decide_eq_false c, Bool.false_and] at h; cases h⟩
    rw [decide_eq_false c, Bool.false_and]
    simp only [if_pos (show (q.length : Int) > 100 by omega)]
    exact Ev.now _
theorem ref_ok (n : Int) {q : List S45} (h : okL q = true) : Ev (fun k => switchboardlaw10_ref.f k n q) (n, q.map cv, true) := by
  obtain ⟨xs, h1, h2⟩ := ref_ev n q
  rw [h2 h, h] at h1
  exact h1
theorem okL_len {q : List S45} (h : okL q = true) : q.length ≤ 100 ∧ szB q = true := by
  unfold okL at h
  simp only [Bool.and_eq_true, decide_eq_true_eq] at h
  exact h
theorem okL_told {q : List S45} (a : Int) (h : okL q = true) : okL (toldL q a) = true := by
  obtain ⟨h1, h2⟩ := okL_len h
  unfold okL
  rw [decide_eq_true (Nat.le_trans (toldL_le q a) h1), Bool.true_and]
  unfold szB toldL at *
  rw [List.all_eq_true] at *
  intro x hx
  exact h2 x (List.mem_filter.1 hx).1
theorem okL_push {q : List S45} (n : Int) {s : ByteArray} (h : okL q = true) (hs : ¬ (s.size : Int) > 100) : okL (pushR n q s).2.1 = true := by
  unfold pushR
  split
  · rename_i c
    split
    · exact h
    · have hl := (rightB_true c.1).2.2.2
      unfold okL szB
      simp only [List.length_append, List.length_singleton, List.all_append, List.all_cons, List.all_nil, Bool.and_true, decide_eq_true (show (s.size : Int) ≤ 100 by omega)]
      rw [decide_eq_true (by omega), Bool.true_and]
      exact (okL_len h).2
  · exact h
theorem sameF_l0 (n : Int) (a : List S40) (hn : a.length ≤ 9223372036854775806) : ∀ (d i : Nat), i + d = a.length →
    Ev (fun k => switchboardref10_Same.l0 k i n a n a) true := by
  intro d
  induction d with
  | zero =>
    intro i hi
    refine ev_shift ?_
    simp only [switchboardref10_Same.l0, if_neg (show ¬ (i : Int) < (a.length : Int) by omega)]
    exact Ev.now _
  | succ d ih =>
    intro i hi
    have hw : wrap64 ((i : Int) + 1) = ((i + 1 : Nat) : Int) := by rw [wrap_small (by omega) (by omega)]; omega
    refine ev_shift ?_
    have e : (!((rd_T40 a i).f0 == (rd_T40 a i).f0) || !((rd_T40 a i).f1.toList == (rd_T40 a i).f1.toList)) = false := by simp
    simp only [switchboardref10_Same.l0, if_pos (show (i : Int) < (a.length : Int) by omega), if_pos (show (0 : Int) ≤ (i : Int) by omega), e, if_neg (show ¬ (false = true) by decide), hw]
    exact ih (i + 1) (by omega)
theorem sameF_ev {n m : Int} {a b : List S40} (h1 : n = m) (h2 : a = b) (hn : a.length ≤ 9223372036854775806) : Ev (fun k => switchboardref10_Same.f k n a m b) true := by
  subst h1; subst h2
  unfold switchboardref10_Same.f
  have e : ((a.length : Int) != (a.length : Int)) = false := by simp
  simp only [if_true, e]
  refine ev_shift ?_
  simp only [switchboardref10_Same.j0, if_neg (show ¬ (false = true) by decide)]
  exact sameF_l0 n a hn a.length 0 (by omega)
theorem toldL_succ {q : List S45} {i : Nat} (a : Int) (h : i < q.length) : toldL (q.take (i + 1)) a = toldL (q.take i) a ++ (if q[i].f0 = a then [] else [q[i]]) := by
  unfold toldL
  rw [List.take_succ_eq_append_getElem h, List.filter_append]
  by_cases c : q[i].f0 = a <;> simp [c]
theorem refTold_l0 (n a : Int) (q : List S45) (hn : q.length < 5864062014805) : ∀ (d i : Nat), i + d = q.length →
    Ev (fun k => switchboardref10_Told.l0 k a i n (q.map cv) n ((toldL (q.take i) a).map cv)) (n, (toldL q a).map cv) := by
  intro d
  induction d with
  | zero =>
    intro i hi
    refine ev_shift ?_
    rw [List.take_of_length_le (by omega)]
    simp only [switchboardref10_Told.l0, List.length_map, if_neg (show ¬ (i : Int) < (q.length : Int) by omega)]
    exact Ev.now _
  | succ d ih =>
    intro i hi
    have hlt : i < q.length := by omega
    have hw : wrap64 ((i : Int) + 1) = ((i + 1 : Nat) : Int) := by rw [wrap_small (by omega) (by omega)]; omega
    have key := ih (i + 1) (by omega)
    rw [toldL_succ a hlt] at key
    have hl : (toldL (q.take i) a).length ≤ q.length := Nat.le_trans (toldL_le _ _) (by rw [List.length_take]; omega)
    refine ev_shift ?_
    simp only [switchboardref10_Told.l0, List.length_map, if_pos (show (i : Int) < (q.length : Int) by omega), if_pos (show (0 : Int) ≤ (i : Int) by omega), rdU_map hlt, hw]
    by_cases c : (cv q[i]).f0 = a
    · rw [if_pos (show q[i].f0 = a from c), List.append_nil] at key
      simp only [if_pos c]
      exact key
    · rw [if_neg (show ¬ q[i].f0 = a from c), List.map_append] at key
      simp only [if_neg c, if_pos (show (toldL (q.take i) a).length < 5864062014805 by omega)]
      exact key
theorem refTold_ev (n a : Int) (q : List S45) (hn : q.length < 5864062014805) : Ev (fun k => switchboardref10_Told.f k n (q.map cv) a) (n, (toldL q a).map cv) := by
  unfold switchboardref10_Told.f
  exact refTold_l0 n a q hn q.length 0 (by omega)

theorem wrong_true (n : Int) (q : List S45) (s : ByteArray) (xs : List S40) : Ev (fun k => switchboardlaw10_LinkWrong.j0 k s true n q n xs) true := by
  refine ev_shift ?_
  simp only [switchboardlaw10_LinkWrong.j0, if_true]
  exact awake2
theorem toldL_none {q : List S45} (a : Int) (h : ∀ x ∈ q, x.f0 ≠ a) : toldL q a = q := by
  unfold toldL
  rw [List.filter_eq_self]
  intro x hx
  simp [h x hx]
theorem wrong_l0 (n : Int) (q : List S45) (e : Int) (he : e ≠ 0) (hq : q.length ≤ 100) : ∀ (d i : Nat), i + d = q.length → (∀ j (h : j < q.length), j < i → q[j].f0 ≠ -1) →
    Ev (fun k => switchboardlaw10_LinkWrong.l0 k 0 e q (q.length : Int) i n (q.map cv) n (q.map cv) n ((toldL q (-1)).map cv)) true := by
  intro d
  induction d with
  | zero =>
    intro i hi h
    have ht : toldL q (-1) = q := toldL_none _ (fun x hx => by
      obtain ⟨j, hj, rfl⟩ := List.getElem_of_mem hx
      exact h j hj (by omega))
    refine ev_shift ?_
    simp only [switchboardlaw10_LinkWrong.l0, if_neg (show ¬ (i : Int) < (q.length : Int) by omega), if_neg he, if_true, ht]
    refine Ev.bind (sameF_ev rfl rfl (by rw [List.length_map]; omega)) ?_
    simp only [if_true]
    refine Ev.bind (sameF_ev rfl rfl (by rw [List.length_map]; omega)) ?_
    simp only [if_true]
    exact awake2
  | succ d ih =>
    intro i hi h
    have hlt : i < q.length := by omega
    have hw : wrap64 ((i : Int) + 1) = ((i + 1 : Nat) : Int) := by rw [wrap_small (by omega) (by omega)]; omega
    refine ev_shift ?_
    simp only [switchboardlaw10_LinkWrong.l0, if_pos (show (i : Int) < (q.length : Int) by omega), if_pos (show (0 : Int) ≤ (i : Int) by omega), rdT_get hlt, hw]
    by_cases c : q[i].f0 = -1
    · simp only [if_pos c, if_neg he]
      exact awake2
    · simp only [if_neg c]
      exact ih (i + 1) (by omega) (fun j hj hji => by
        rcases Nat.lt_or_ge j i with h1 | h1
        · exact h j hj h1
        · obtain rfl : j = i := by omega
          exact c)
theorem wrong_refused (n : Int) (q : List S45) (e : Int) (he : e ≠ 0) (hq : q.length ≤ 100) : Ev (fun k => switchboardlaw10_LinkWrong.j1 k 0 e false n q n (q.map cv) n q n (q.map cv) n ((toldL q (-1)).map cv)) true := by
  refine ev_shift ?_
  simp only [switchboardlaw10_LinkWrong.j1, if_neg (show ¬ (false = true) by decide)]
  exact wrong_l0 n q e he hq q.length 0 (by omega) (fun j _ h => absurd h (Nat.not_lt_zero _))
theorem LinkWrong : LinkWrongPure := by
  intro n q s
  intros
  refine ev_rounds ?_
  unfold switchboardlaw10_LinkWrong.f
  obtain ⟨xs, h1, h2⟩ := ref_ev n q
  refine Ev.bind h1 ?_
  cases hk : okL q
  · simp only [if_neg (show ¬ (false = true) by decide)]
    exact wrong_true n q s xs
  · obtain rfl := h2 hk
    simp only [if_true]
    by_cases c : (s.size : Int) > 100
    · simp only [decide_eq_true c]
      exact wrong_true n q s _
    · simp only [decide_eq_false c]
      have hq := (okL_len hk).1
      refine ev_shift ?_
      simp only [switchboardlaw10_LinkWrong.j0, if_neg (show ¬ (false = true) by decide)]
      refine Ev.bind (push_ev n q s (by omega)) ?_
      refine Ev.bind (ref_ok _ (okL_push n hk c)) ?_
      simp only [told_f n (q := q) (-1) (by omega), Option.bind_some]
      refine Ev.bind (ref_ok n (okL_told (-1) hk)) ?_
      refine Ev.bind (right_ev n q (by omega)) ?_
      cases hr : rightB n q
      · have hp : pushR n q s = (n, q, 0, 1) := by unfold pushR; rw [if_neg (by simp [hr])]
        rw [hp]
        simp only [if_neg (show ¬ (false = true) by decide)]
        exact wrong_refused n q 1 (by decide) hq
      · have hb := rightB_true hr
        simp only [if_true]
        by_cases d : q.length = 64
        · simp only [if_neg (show ¬ (q.length : Int) < 64 by omega)]
          by_cases e : n = 2147483647
          · have hp : pushR n q s = (n, q, 0, 1) := by unfold pushR; rw [if_neg (by simp [e])]
            rw [hp]
            exact wrong_refused n q 1 (by decide) hq
          · have hp : pushR n q s = (n, q, 0, 8) := by unfold pushR; rw [if_pos ⟨hr, e⟩, if_pos d]
            rw [hp]
            exact wrong_refused n q 8 (by decide) hq
        · simp only [if_pos (show (q.length : Int) < 64 by omega)]
          by_cases e : n = 2147483647
          · have hp : pushR n q s = (n, q, 0, 1) := by unfold pushR; rw [if_neg (by simp [e])]
            rw [hp]
            simp only [decide_eq_false (show ¬ n < 2147483647 by omega)]
            exact wrong_refused n q 1 (by decide) hq
          · have hp : pushR n q s = (n + 1, q ++ [⟨n, s⟩], n, 0) := by unfold pushR; rw [if_pos ⟨hr, e⟩, if_neg d]
            rw [hp]
            simp only [decide_eq_true (show n < 2147483647 by omega)]
            refine ev_shift ?_
            have hw : wrap64 ((q.length : Int) + 1) = ((q.length + 1 : Nat) : Int) := by rw [wrap_small (by omega) (by omega)]; omega
            have hlen : (q ++ [(⟨n, s⟩ : S45)]).length = q.length + 1 := by simp
            simp only [switchboardlaw10_LinkWrong.j1, if_true, hw, hlen]
            exact awake2

end Go.Proofs.Ytikncbklhnaajaa.Pure
