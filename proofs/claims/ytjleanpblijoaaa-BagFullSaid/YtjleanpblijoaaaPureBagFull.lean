/- Proved here: a bag that has 200 takes no frame more; with one taken out it takes one (every text of 20 bytes, every number). No condition. -/
import Derived.Test.YtjleanpblijoaaaPr4
namespace Go.Proofs.Ytjleanpblijoaaa.Pure
open Go.RowKit Go.Proofs.Ytjleanpblijoaaa.Pr Go.Proofs.YtjleanpblijoaaaW.PrintWords Go.Proofs.YtjleanpblijoaaaW.PrintLast Go.Proofs.YtjleanpblijoaaaW.PrintMore
set_option linter.unusedVariables false
set_option linter.unusedSimpArgs false

def BagFullPure : Prop := ∀ (a0 : ByteArray) (a1 : Int), a0.size ≤ 140737488351232 → (Lit.int .u8 a1).wf = true → ∃ k, switchboardlaw08_BagFull.f k a0 a1 = some true

theorem wrap_small {i : Int} (h0 : -9223372036854775808 ≤ i) (h1 : i < 9223372036854775808) : wrap64 i = i := by
  unfold wrap64
  omega

theorem ev_rounds {g : Nat → Option Bool} (h : Ev g true) : ∃ k, g k = some true := h.rounds
theorem ev_shift {α : Type} {g : Nat → Option α} {r : α} (h : Ev (fun k => g (k + 1)) r) : Ev g r := Ev.step (fun _ => rfl) h

abbrev rdS (l : List ByteArray) (i : Int) : ByteArray := rdOf ByteArray.empty l i
def putL (l : List ByteArray) (s : ByteArray) : List ByteArray := if l.length < 200 then l ++ [s] else l
def inR (l : List ByteArray) (i : Int) : Prop := 0 ≤ i ∧ i < (l.length : Int)
instance (l : List ByteArray) (i : Int) : Decidable (inR l i) := inferInstanceAs (Decidable (_ ∧ _))
theorem clone_f {l : List ByteArray} (h : l.length < 8796093022208) : slices_Clone_string_string.f l = some l := by
  unfold slices_Clone_string_string.f
  simp only [Option.bind_some, List.length_nil, Nat.zero_add, List.nil_append, if_pos h]
theorem take_yes {l : List ByteArray} {i : Int} (h : l.length < 8796093022208) (hi : inR l i) : bag_Take.f l i = some (rdS l i, l.eraseIdx i.toNat, true) := by
  unfold bag_Take.f
  simp only [clone_f h, Option.bind_some]
  rw [if_neg (by have := hi.1; omega), if_neg (by have := hi.2; omega)]
theorem take_no {l : List ByteArray} {i : Int} (h : l.length < 8796093022208) (hi : ¬ inR l i) : bag_Take.f l i = some (ByteArray.empty, l, false) := by
  unfold bag_Take.f
  simp only [clone_f h, Option.bind_some]
  by_cases c : i < 0
  · rw [if_pos c]
  · rw [if_neg c, if_pos (Int.not_lt.1 fun hh => hi ⟨by omega, hh⟩)]
theorem put_f {l : List ByteArray} (s : ByteArray) (h : l.length < 8796093022208) : bag_Put.f l s = some (putL l s) := by
  unfold bag_Put.f putL
  simp only [clone_f h, Option.bind_some]
  by_cases c : l.length < 200
  · rw [if_pos (by omega), if_pos h, if_pos c]
  · rw [if_neg (by omega), if_neg c]
theorem refPut_f {l : List ByteArray} (s : ByteArray) (h : l.length < 8796093022208) : switchboardref08_Put.f l s = some (putL l s) := by
  unfold switchboardref08_Put.f putL
  simp only [List.length_nil, Nat.zero_add, List.nil_append, if_pos h, Option.bind_some]
  by_cases c : l.length < 200
  · rw [if_neg (by omega), if_pos c]
  · rw [if_pos (by omega), if_neg c]
theorem twice_yes {l : List ByteArray} {i : Int} (h : l.length < 8796093022208) (hi : inR l i) : Ev (fun k => bag_Twice.f k l i) (putL l (rdS l i)) := by
  unfold bag_Twice.f
  simp only [if_neg (show ¬ i < 0 by have := hi.1; omega), show decide (i ≥ (l.length : Int)) = false from decide_eq_false (by have := hi.2; omega)]
  refine ev_shift ?_
  simp only [bag_Twice.j0, if_neg (show ¬ (false = true) by decide), if_pos hi.1, if_pos hi.2, put_f _ h, Option.bind_some]
  exact Ev.now _
theorem twice_no {l : List ByteArray} {i : Int} (h : l.length < 8796093022208) (hi : ¬ inR l i) : Ev (fun k => bag_Twice.f k l i) l := by
  unfold bag_Twice.f
  have key : Ev (fun k => bag_Twice.j0 k l i true) l := by
    refine ev_shift ?_
    simp only [bag_Twice.j0, if_true, clone_f h, Option.bind_some]
    exact Ev.now _
  by_cases c : i < 0
  · simp only [if_pos c]
    exact key
  · simp only [if_neg c, show decide (i ≥ (l.length : Int)) = true from decide_eq_true (Int.not_lt.1 fun hh => hi ⟨by omega, hh⟩)]
    exact key
theorem sameS_l0 (a : List ByteArray) (hn : a.length ≤ 9223372036854775806) : ∀ (d i : Nat), i + d = a.length →
    Ev (fun k => switchboardref08_Same.l0 k a a i) true := by
  intro d
  induction d with
  | zero =>
    intro i hi
    refine ev_shift ?_
    simp only [switchboardref08_Same.l0, if_neg (show ¬ (i : Int) < (a.length : Int) by omega)]
    exact Ev.now _
  | succ d ih =>
    intro i hi
    have hw : wrap64 ((i : Int) + 1) = ((i + 1 : Nat) : Int) := by rw [wrap_small (by omega) (by omega)]; omega
    refine ev_shift ?_
    simp only [switchboardref08_Same.l0, if_pos (show (i : Int) < (a.length : Int) by omega), if_pos (show (0 : Int) ≤ (i : Int) by omega), if_true, hw]
    exact ih (i + 1) (by omega)
theorem sameS_refl (a : List ByteArray) (hn : a.length ≤ 9223372036854775806) : Ev (fun k => switchboardref08_Same.f k a a) true := by
  unfold switchboardref08_Same.f
  simp only [if_true]
  exact sameS_l0 a hn a.length 0 (by omega)
theorem sameS_ev {a b : List ByteArray} (h : a = b) (hn : a.length ≤ 9223372036854775806) : Ev (fun k => switchboardref08_Same.f k a b) true := by
  subst h
  exact sameS_refl a hn
theorem rdS_get {l : List ByteArray} {i : Nat} (h : i < l.length) : rdS l i = l[i] := by
  unfold rdS rdOf
  rw [Int.toNat_natCast, List.getD_eq_getElem?_getD, List.getElem?_eq_getElem h]
  rfl
/-- What Without has gathered when it has seen j of l. -/
def seen (l : List ByteArray) (i : Int) (j : Nat) : List ByteArray := if 0 ≤ i then (l.take j).eraseIdx i.toNat else l.take j
theorem seen_le (l : List ByteArray) (i : Int) (j : Nat) : (seen l i j).length ≤ l.length := by
  unfold seen
  have h : (l.take j).length ≤ l.length := by rw [List.length_take]; omega
  split
  · exact Nat.le_trans (List.length_eraseIdx_le ..) h
  · exact h
theorem seen_at {l : List ByteArray} {j : Nat} (h : j < l.length) : seen l (j : Int) (j + 1) = seen l (j : Int) j := by
  unfold seen
  rw [if_pos (by omega), if_pos (by omega), Int.toNat_natCast, List.take_succ_eq_append_getElem h]
  rw [List.eraseIdx_of_length_le (l := l.take j) (by rw [List.length_take]; omega)]
  rw [List.eraseIdx_append_of_length_le (by rw [List.length_take]; omega)]
  rw [show j - (l.take j).length = 0 by rw [List.length_take]; omega]
  simp
theorem seen_else {l : List ByteArray} {i : Int} {j : Nat} (h : j < l.length) (hi : ¬ (j : Int) = i) : seen l i (j + 1) = seen l i j ++ [rdS l j] := by
  unfold seen
  rw [rdS_get h, List.take_succ_eq_append_getElem h]
  by_cases c : 0 ≤ i
  · rw [if_pos c, if_pos c]
    by_cases d : i < j
    · rw [List.eraseIdx_append_of_lt_length (by rw [List.length_take]; omega)]
    · rw [List.eraseIdx_of_length_le (by rw [List.length_append, List.length_take, List.length_singleton]; omega), List.eraseIdx_of_length_le (by rw [List.length_take]; omega)]
  · rw [if_neg c, if_neg c]
theorem without_l0 (l : List ByteArray) (i : Int) (hn : l.length < 8796093022208) : ∀ (d j : Nat), j + d = l.length →
    Ev (fun k => switchboardref08_Without.l0 k l i (seen l i j) j) (seen l i l.length) := by
  intro d
  induction d with
  | zero =>
    intro j hj
    refine ev_shift ?_
    simp only [switchboardref08_Without.l0, if_neg (show ¬ (j : Int) < (l.length : Int) by omega)]
    rw [show j = l.length by omega]
    exact Ev.now _
  | succ d ih =>
    intro j hj
    have hw : wrap64 ((j : Int) + 1) = ((j + 1 : Nat) : Int) := by rw [wrap_small (by omega) (by omega)]; omega
    refine ev_shift ?_
    have key := ih (j + 1) (by omega)
    by_cases c : (j : Int) = i
    · simp only [switchboardref08_Without.l0, if_pos (show (j : Int) < (l.length : Int) by omega), if_pos c, hw]
      subst c
      rw [seen_at (by omega)] at key
      exact key
    · simp only [switchboardref08_Without.l0, if_pos (show (j : Int) < (l.length : Int) by omega), if_neg c, if_pos (show (0 : Int) ≤ (j : Int) by omega), if_pos (show (seen l i j).length < 8796093022208 from Nat.lt_of_le_of_lt (seen_le l i j) hn), hw]
      rw [seen_else (by omega) c] at key
      exact key
theorem without_ev (l : List ByteArray) (i : Int) (hn : l.length < 8796093022208) : Ev (fun k => switchboardref08_Without.f k l i) (seen l i l.length) := by
  unfold switchboardref08_Without.f
  have key := without_l0 l i hn l.length 0 (by omega)
  rw [show seen l i 0 = [] by unfold seen; split <;> simp] at key
  exact key
theorem seen_yes {l : List ByteArray} {i : Int} (hi : inR l i) : l.eraseIdx i.toNat = seen l i l.length := by
  unfold seen
  rw [if_pos hi.1, List.take_length]
theorem seen_no {l : List ByteArray} {i : Int} (hi : ¬ inR l i) : l = seen l i l.length := by
  unfold seen
  rw [List.take_length]
  split
  · rename_i c
    rw [List.eraseIdx_of_length_le]
    have := Int.not_lt.1 fun hh => hi ⟨c, hh⟩
    omega
  · rfl
theorem putL_le (l : List ByteArray) (s : ByteArray) : (putL l s).length ≤ l.length + 1 := by
  unfold putL
  split
  · simp
  · omega

theorem awake_ev : Ev (fun k => switchboardlaw08_awake.f k) true := by
  unfold switchboardlaw08_awake.f
  simp only [put_f (l := [(⟨#[97]⟩ : ByteArray)]) _ (by decide), Option.bind_some]
  have e : putL [(⟨#[97]⟩ : ByteArray)] ⟨#[98]⟩ = [⟨#[97]⟩, ⟨#[98]⟩] := rfl
  rw [e]
  simp only [take_yes (l := [(⟨#[97]⟩ : ByteArray), ⟨#[98]⟩]) (i := 0) (by decide) (by decide), Option.bind_some]
  have e1 : (rdS [(⟨#[97]⟩ : ByteArray), ⟨#[98]⟩] 0) = ⟨#[97]⟩ := rfl
  have e2 : [(⟨#[97]⟩ : ByteArray), ⟨#[98]⟩].eraseIdx (0 : Int).toNat = [⟨#[98]⟩] := rfl
  have e3 : (rdOf ByteArray.empty [(⟨#[98]⟩ : ByteArray)] 0) = ⟨#[98]⟩ := rfl
  have t1 : (⟨#[97]⟩ : ByteArray).toList = [97] := by decide +kernel
  have t2 : (⟨#[98]⟩ : ByteArray).toList = [98] := by decide +kernel
  simp only [e1, e2, e3, t1, t2, if_true, List.length_singleton, if_pos (show (0 : Int) < ((1 : Nat) : Int) by decide), if_pos (show ((1 : Nat) : Int) = 1 from rfl)]
  refine Ev.bind (twice_yes (l := [(⟨#[98]⟩ : ByteArray)]) (i := 0) (by decide) (by decide)) ?_
  exact Ev.now _
theorem awake2 : Ev (fun k => (switchboardlaw08_awake.f k).bind fun t => some t) true := Ev.bind awake_ev (Ev.now true)

theorem rep_at (s : ByteArray) (n : Nat) (i : Int) (hi : inR (List.replicate n s) i) : rdS (List.replicate n s) i = s := by
  obtain ⟨j, rfl⟩ : ∃ j : Nat, i = (j : Int) := ⟨i.toNat, by have := hi.1; omega⟩
  rw [rdS_get (by have := hi.2; omega)]
  exact List.getElem_replicate ..
theorem rep_put (s : ByteArray) (n : Nat) : putL (List.replicate n s) s = List.replicate (min (n + 1) (max n 200)) s := by
  unfold putL
  rw [List.length_replicate]
  split
  · rw [show min (n + 1) (max n 200) = n + 1 by omega, List.replicate_succ']
  · rw [show min (n + 1) (max n 200) = n by omega]
theorem full_j1 (s : ByteArray) (i : Int) (h0 : 0 ≤ i) (h1 : i < 200) : Ev (fun k => switchboardlaw08_BagFull.j1 k s (List.replicate 200 s) i false) true := by
  have hi : inR (List.replicate 200 s) i := ⟨h0, by rw [List.length_replicate]; exact h1⟩
  have he : ((List.replicate 200 s).eraseIdx i.toNat) = List.replicate 199 s := by
    rw [List.eraseIdx_replicate, if_pos (by omega)]
  have hm0 : 0 ≤ Int.tmod i 199 := Int.tmod_nonneg _ h0
  have hm1 : Int.tmod i 199 < 199 := Int.tmod_lt_of_pos _ (by decide)
  refine ev_shift ?_
  simp only [switchboardlaw08_BagFull.j1, if_neg (show ¬ (false = true) by decide)]
  rw [take_yes (l := List.replicate 200 s) (by rw [List.length_replicate]; decide) hi, rep_at s 200 i hi, he]
  simp only [Option.bind_some, if_true, List.length_replicate, if_pos (show ((199 : Nat) : Int) = 199 from rfl), put_f (l := List.replicate 199 s) s (by rw [List.length_replicate]; decide), rep_put, show min (199 + 1) (max 199 200) = 200 from rfl, if_pos (show ((200 : Nat) : Int) = 200 from rfl)]
  have hi2 : inR (List.replicate 199 s) (Int.tmod i 199) := ⟨hm0, by rw [List.length_replicate]; exact hm1⟩
  have key := twice_yes (l := List.replicate 199 s) (by rw [List.length_replicate]; decide) hi2
  rw [rep_at s 199 _ hi2, rep_put] at key
  refine Ev.bind key ?_
  simp only [List.length_replicate, show min (199 + 1) (max 199 200) = 200 from rfl, if_pos (show ((200 : Nat) : Int) = 200 from rfl)]
  exact awake2
theorem full_l0 (s : ByteArray) (i : Int) (h0 : 0 ≤ i) (h1 : i < 256) : ∀ (d j : Nat), j + d = 205 →
    Ev (fun k => switchboardlaw08_BagFull.l0 k s i (List.replicate (min j 200) s) j) true := by
  intro d
  induction d with
  | zero =>
    intro j hj
    obtain rfl : j = 205 := by omega
    have hw : wrap64 i = i := wrap_small (by omega) (by omega)
    have hm0 : 0 ≤ Int.tmod i 200 := Int.tmod_nonneg _ h0
    have hm1 : Int.tmod i 200 < 200 := Int.tmod_lt_of_pos _ (by decide)
    refine ev_shift ?_
    simp only [switchboardlaw08_BagFull.l0, if_neg (show ¬ ((205 : Nat) : Int) < 205 by decide), hw, show min 205 200 = 200 from rfl, List.length_replicate, if_pos (show ((200 : Nat) : Int) = 200 from rfl)]
    have hi : inR (List.replicate 200 s) (Int.tmod i 200) := ⟨hm0, by rw [List.length_replicate]; exact hm1⟩
    have key := twice_yes (l := List.replicate 200 s) (by rw [List.length_replicate]; decide) hi
    rw [rep_at s 200 _ hi, rep_put] at key
    refine Ev.bind key ?_
    simp only [List.length_replicate, show min (200 + 1) (max 200 200) = 200 from rfl, show (((200 : Nat) : Int) != 200) = false from rfl]
    exact full_j1 s _ hm0 hm1
  | succ d ih =>
    intro j hj
    have hw : wrap64 ((j : Int) + 1) = ((j + 1 : Nat) : Int) := by rw [wrap_small (by omega) (by omega)]; omega
    refine ev_shift ?_
    simp only [switchboardlaw08_BagFull.l0, if_pos (show (j : Int) < 205 by omega), put_f (l := List.replicate (min j 200) s) s (by rw [List.length_replicate]; omega), Option.bind_some, rep_put, hw, show min (min j 200 + 1) (max (min j 200) 200) = min (j + 1) 200 by omega]
    exact ih (j + 1) (by omega)
theorem wf8 {x : Int} (h : (Lit.int .u8 x).wf = true) : 0 ≤ x ∧ x ≤ 255 := by
  simp [Lit.wf, IntKind.min, IntKind.max, IntKind.signed, IntKind.bits] at h
  omega
theorem BagFull : BagFullPure := by
  intro s i _ hw
  have := wf8 hw
  refine ev_rounds ?_
  unfold switchboardlaw08_BagFull.f
  by_cases h : (s.size : Int) > 20
  · simp only [if_pos h]
    exact awake2
  · simp only [if_neg h]
    exact full_l0 s i (by omega) (by omega) 205 0 (by omega)

end Go.Proofs.Ytjleanpblijoaaa.Pure
