/- Own text, by hand: PuV, PuX, PuY, PuM, PuAa, PuAb, PuAc, PuZ -/
import Derived.Laws.BitsAllLaws
import Derived.Test.YtfipiohchnaglaaPu0
import Derived.Test.YtfipiohchnaglaaPu1
import Derived.Test.YtfipiohchnaglaaPu2
import Derived.Test.YtfipiohchnaglaaPu3
import Derived.Test.YtfipiohchnaglaaPu4
import Derived.Test.YtfipiohchnaglaaPu5
import Derived.Test.YtfipiohchnaglaaPu6
import Derived.Test.YtfipiohchnaglaaPu7
import Derived.Test.YtfipiohchnaglaaPu8
import Derived.Test.YtfipiohchnaglaaPu9
import Derived.Test.YtfipiohchnaglaaPu10
import Derived.Test.YtfipiohchnaglaaPu11
import Derived.Test.YtfipiohchnaglaaPu12
import Derived.Test.YtfipiohchnaglaaPu13
import Derived.Test.YtfipiohchnaglaaPu14
import Derived.Test.YtfipiohchnaglaaPu15
import Derived.Test.YtfipiohchnaglaaPu16
import Derived.Test.YtfipiohchnaglaaPuP
import Derived.Test.YtfipiohchnaglaaPuHd
import Derived.Test.YtfipiohchnaglaaPuHa
import Derived.Test.YtfipiohchnaglaaPuHc
import Derived.Test.YtfipiohchnaglaaPuHe
import Derived.Test.YtfipiohchnaglaaPuHb
namespace Go.Proofs.Ytfipiohchnaglaa.Pu
open Go.RowKit Go.Proofs.YtfipiohchnaglaaW.PrintWords Go.Proofs.YtfipiohchnaglaaW.PrintLast Go.Proofs.YtfipiohchnaglaaW.PrintMore
attribute [local go_sem] max2_int min2_int max_two min_two max_three min_three max_four min_four
set_option linter.unusedVariables false
set_option linter.unusedSimpArgs false
/-! ### Numbers as bytes, and back -/
theorem bt_list (s : ByteArray) (i : Nat) : bt s (i : Int) = ((s.data.toList.getD i 0).toNat : Int) := by
  unfold bt
  rw [Int.toNat_natCast]
  split
  · rename_i h
    have h' : i < s.data.toList.length := by rw [Array.length_toList]; exact h
    rw [List.getD_eq_getElem?_getD, List.getElem?_eq_getElem h']
    rfl
  · rename_i h
    have h' : s.data.toList.length ≤ i := by rw [Array.length_toList]; exact Nat.le_of_not_lt h
    rw [List.getD_eq_getElem?_getD, List.getElem?_eq_none h']
    rfl
def fourS (n : Int) : ByteArray := strOfNums (([n % 256, (n / 256) % 256, (n / 65536) % 256, (n / 16777216) % 256] : List Int))
def four4 (n : Int) : List UInt8 := (fourS n).data.toList
def bsOf (n : Int) : List UInt8 := [UInt8.ofNat (n % 256).toNat, UInt8.ofNat ((n / 256) % 256).toNat, UInt8.ofNat ((n / 65536) % 256).toNat, UInt8.ofNat ((n / 16777216) % 256).toNat]
theorem four4_bs (n : Int) : four4 n = bsOf n := by
  unfold four4 fourS
  rw [strOfNums_data]
  rfl
theorem fourS_size (n : Int) : (fourS n).size = 4 := rfl
theorem four4_length (n : Int) : (four4 n).length = 4 := rfl
theorem four_is (n : Int) : wire_four.f n = some (fourS n) := by unfold wire_four.f fourS; rfl
theorem byte_of (x : Int) : ((UInt8.ofNat (x % 256).toNat).toNat : Int) = x % 256 := by
  rw [UInt8.toNat_ofNat']
  omega
theorem flat4_length (r : List Int) : (r.flatMap four4).length = 4 * r.length := by
  induction r with
  | nil => rfl
  | cons x r ih =>
    rw [List.flatMap_cons, List.length_append, four4_length, List.length_cons, ih]
    omega
theorem flat4_get : ∀ (ns : List Int) (i : Nat) (h : i < ns.length) (r : Nat), r < 4 → (ns.flatMap four4).getD (4 * i + r) 0 = (bsOf ns[i]).getD r 0 := by
  intro ns
  induction ns with
  | nil => intro i h; cases h
  | cons n ns ih =>
    intro i h r hr
    have e4 : (four4 n).length = 4 := four4_length n
    rw [List.flatMap_cons]
    cases i with
    | zero =>
      rw [Nat.mul_zero, Nat.zero_add, List.getD_eq_getElem?_getD, List.getElem?_append_left (by omega), four4_bs]
      rw [List.getD_eq_getElem?_getD]
      rfl
    | succ i =>
      have e : 4 * (i + 1) + r = 4 + (4 * i + r) := by omega
      rw [List.getD_eq_getElem?_getD, e, List.getElem?_append_right (by omega), e4, Nat.add_sub_cancel_left, ← List.getD_eq_getElem?_getD]
      exact ih i (by simpa using h) r hr
theorem ofInt_64 (a : Nat) (ha : a < 18446744073709551616) : (BitVec.ofInt 64 (a : Int)).toNat = a := by
  rw [BitVec.ofInt_natCast, BitVec.toNat_ofNat]; exact Nat.mod_eq_of_lt (by omega)
theorem i64_or_nat (a b : Nat) (ha : a < 4294967296) (hb : b < 4294967296) : Go.bits .or .i64 (a : Int) (b : Int) = ((a ||| b : Nat) : Int) := by
  have hx : a ||| b < 2 ^ 32 := Nat.or_lt_two_pow (by omega) (by omega)
  show IntKind.i64.wrap ((BitVec.ofInt 64 (a : Int) ||| BitVec.ofInt 64 (b : Int)).toNat : Int) = _
  rw [BitVec.toNat_or, ofInt_64 a (by omega), ofInt_64 b (by omega), i64_w]
  unfold wrap64
  omega
theorem or_step (n b : Nat) (hn : n < 16777216) (hb : b < 256) : Go.bits .or .i64 (wrap64 ((n : Int) * 256)) (wrap64 ((b : Nat) : Int)) = ((256 * n + b : Nat) : Int) := by
  have e1 : wrap64 ((n : Int) * 256) = ((256 * n : Nat) : Int) := by unfold wrap64; omega
  have e2 : wrap64 ((b : Nat) : Int) = ((b : Nat) : Int) := by unfold wrap64; omega
  have o : 256 * n ||| b = 256 * n + b := by
    have := Nat.two_pow_add_eq_or_of_lt (i := 8) (b := b) (by omega) n
    rw [show (256 : Nat) = 2 ^ 8 from rfl, ← this]
  rw [e1, e2, i64_or_nat _ _ (by omega) (by omega), o]
theorem wnum_ev (s : ByteArray) (i : Nat) (hi : 4 * i + 3 < s.size) (hs : s.size ≤ 1000000) (b0 b1 b2 b3 : Nat) (h0 : bt s ((4 * i + 0 : Nat) : Int) = b0) (h1 : bt s ((4 * i + 1 : Nat) : Int) = b1) (h2 : bt s ((4 * i + 2 : Nat) : Int) = b2) (h3 : bt s ((4 * i + 3 : Nat) : Int) = b3) (l0 : b0 < 256) (l1 : b1 < 256) (l2 : b2 < 256) (l3 : b3 < 256) :
    Ev (fun k => wire_number.f k s (i : Int)) ((256 * (256 * (256 * b3 + b2) + b1) + b0 : Nat) : Int) := by
  have z1 : b3 < 16777216 := by omega
  have z2 : 256 * b3 + b2 < 16777216 := by omega
  have z3 : 256 * (256 * b3 + b2) + b1 < 16777216 := by omega
  have e2 := or_step b3 b2 z1 l2
  have e1 := or_step (256 * b3 + b2) b1 z2 l1
  have e0 := or_step (256 * (256 * b3 + b2) + b1) b0 z3 l0
  have w4 : wrap64 (4 * (i : Int)) = ((4 * i : Nat) : Int) := by unfold wrap64; omega
  have w3 : wrap64 (((4 * i : Nat) : Int) + 3) = ((4 * i + 3 : Nat) : Int) := by unfold wrap64; omega
  have w2 : wrap64 (((4 * i : Nat) : Int) + 2) = ((4 * i + 2 : Nat) : Int) := by unfold wrap64; omega
  have w1 : wrap64 (((4 * i : Nat) : Int) + 1) = ((4 * i + 1 : Nat) : Int) := by unfold wrap64; omega
  have w0 : wrap64 (((4 * i : Nat) : Int) + 0) = ((4 * i + 0 : Nat) : Int) := by unfold wrap64; omega
  have m3 : wrap64 ((3 : Int) - 1) = 2 := by unfold wrap64; omega
  have m2 : wrap64 ((2 : Int) - 1) = 1 := by unfold wrap64; omega
  have m1 : wrap64 ((1 : Int) - 1) = 0 := by unfold wrap64; omega
  have m0 : wrap64 ((0 : Int) - 1) = -1 := by unfold wrap64; omega
  have o3 : Go.bits .or .i64 (wrap64 ((0 : Int) * 256)) (wrap64 ((b3 : Nat) : Int)) = ((b3 : Nat) : Int) := by have := or_step 0 b3 (by omega) l3; rwa [Nat.mul_zero, Nat.zero_add] at this
  have step : ∀ (n : Int) (r : Int) (x r' : Int) (y : Nat), 0 ≤ r → wrap64 (wrap64 (4 * (i : Int)) + r) = x → 0 ≤ x → x < (s.size : Int) → bt s x = (y : Int) → wrap64 (r - 1) = r' → ∀ {z : Int}, Ev (fun k => wire_number.l0 k s (i : Int) (Go.bits .or .i64 (wrap64 (n * 256)) (wrap64 (y : Int))) r') z → Ev (fun k => wire_number.l0 k s (i : Int) n r) z := by
    intro n r x r' y hr hx h0 h1 hy hr' z hz
    subst hr'
    refine ev_shift ?_
    simp only [wire_number.l0, if_pos hr, hx, if_pos h0, if_pos h1, hy]
    exact hz
  unfold wire_number.f
  refine step 0 3 _ _ b3 (by omega) (by rw [w4]; exact w3) (Int.natCast_nonneg _) (by omega) h3 m3 ?_
  rw [o3]
  refine step _ 2 _ _ b2 (by omega) (by rw [w4]; exact w2) (Int.natCast_nonneg _) (by omega) h2 m2 ?_
  rw [e2]
  refine step _ 1 _ _ b1 (by omega) (by rw [w4]; exact w1) (Int.natCast_nonneg _) (by omega) h1 m1 ?_
  rw [e1]
  refine step _ 0 _ _ b0 (by omega) (by rw [w4]; exact w0) (Int.natCast_nonneg _) (by omega) h0 m0 ?_
  rw [e0]
  refine ev_shift ?_
  simp only [wire_number.l0, if_neg (show ¬ (-1 : Int) ≥ 0 by omega)]
  exact Ev.now _
/-- The i-th number of a text of numbers. -/
theorem wnum_at (ns : List Int) (s : ByteArray) (hs : s.data.toList = ns.flatMap four4) (i : Nat) (h : i < ns.length) (hl : ns.length ≤ 100000) : Ev (fun k => wire_number.f k s (i : Int)) (ns[i] % 4294967296) := by
  have hsz : s.size = 4 * ns.length := by
    have e : s.size = s.data.toList.length := (Array.length_toList).symm
    rw [e, hs, flat4_length]
  have b0 := flat4_get ns i h 0 (by omega)
  have b1 := flat4_get ns i h 1 (by omega)
  have b2 := flat4_get ns i h 2 (by omega)
  have b3 := flat4_get ns i h 3 (by omega)
  rw [← hs] at b0 b1 b2 b3
  obtain ⟨n, hn⟩ : ∃ n, n = ns[i] := ⟨_, rfl⟩
  rw [← hn] at b0 b1 b2 b3 ⊢
  have q0 := byte_of n
  have q1 := byte_of (n / 256)
  have q2 := byte_of (n / 65536)
  have q3 := byte_of (n / 16777216)
  have e := wnum_ev s i (by omega) (by omega) (UInt8.ofNat (n % 256).toNat).toNat (UInt8.ofNat ((n / 256) % 256).toNat).toNat (UInt8.ofNat ((n / 65536) % 256).toNat).toNat (UInt8.ofNat ((n / 16777216) % 256).toNat).toNat
    (by rw [bt_list, b0]; rfl) (by rw [bt_list, b1]; rfl) (by rw [bt_list, b2]; rfl) (by rw [bt_list, b3]; rfl) (UInt8.toNat_lt _) (UInt8.toNat_lt _) (UInt8.toNat_lt _) (UInt8.toNat_lt _)
  have q : ((256 * (256 * (256 * (UInt8.ofNat ((n / 16777216) % 256).toNat).toNat + (UInt8.ofNat ((n / 65536) % 256).toNat).toNat) + (UInt8.ofNat ((n / 256) % 256).toNat).toNat) + (UInt8.ofNat (n % 256).toNat).toNat : Nat) : Int) = n % 4294967296 := by omega
  rw [q] at e
  exact e

theorem ev_all_below {α : Type} {n : Nat} {g : Nat → Nat → Option α} {r : (i : Nat) → i < n → α} (h : ∀ i (hi : i < n), Ev (g i) (r i hi)) : ∃ K, ∀ k, K ≤ k → ∀ i (hi : i < n), g i k = some (r i hi) := by
  induction n with
  | zero => exact ⟨0, fun k _ i hi => absurd hi (Nat.not_lt_zero _)⟩
  | succ n ih =>
    obtain ⟨K, hK⟩ := ih (fun i hi => h i (Nat.lt_succ_of_lt hi))
    obtain ⟨K2, hK2⟩ := h n (Nat.lt_succ_self _)
    refine ⟨max K K2, fun k hk i hi => ?_⟩
    by_cases hin : i = n
    · subst hin
      exact hK2 k (by omega)
    · exact hK k (by omega) i (by omega)
/-! ### A message's text -/
def bodyS (ns : List Int) : ByteArray := ⟨(ns.flatMap four4).toArray⟩
def putS (ns : List Int) : ByteArray := fourS ((bodyS ns ++ fourS (crcF (bodyS ns))).size : Int) ++ (bodyS ns ++ fourS (crcF (bodyS ns)))
theorem fourS_bytes (n : Int) : (fourS n).data.toList = four4 n := by unfold four4; rfl
theorem bodyS_bytes (ns : List Int) : (bodyS ns).data.toList = ns.flatMap four4 := by unfold bodyS; rfl
theorem bodyS_size (ns : List Int) : (bodyS ns).size = 4 * ns.length := by
  show (ns.flatMap four4).toArray.size = _
  rw [List.size_toArray, flat4_length]
theorem bodyS_snoc (ns : List Int) (n : Int) : bodyS ns ++ fourS n = bodyS (ns ++ [n]) := by
  apply ByteArray.ext
  apply Array.toList_inj.1
  rw [ByteArray.data_append, Array.toList_append, bodyS_bytes, bodyS_bytes, fourS_bytes, List.flatMap_append, List.flatMap_cons, List.flatMap_nil, List.append_nil]
theorem putS_bytes (ns : List Int) : (putS ns).data.toList = (((4 * ns.length + 4 : Nat) : Int) :: (ns ++ [crcF (bodyS ns)])).flatMap four4 := by
  unfold putS
  rw [bodyS_snoc, bodyS_size, List.length_append, List.length_singleton, ByteArray.data_append, Array.toList_append, List.flatMap_cons, show 4 * (ns.length + 1) = 4 * ns.length + 4 by omega, fourS_bytes, bodyS_bytes]
theorem putS_size (ns : List Int) : (putS ns).size = 4 * (ns.length + 2) := by
  have e : (putS ns).size = (putS ns).data.toList.length := (Array.length_toList).symm
  rw [e, putS_bytes, flat4_length, List.length_cons, List.length_append, List.length_singleton]
theorem putS_cut (ns : List Int) : (putS ns).extract 4 (4 * (ns.length + 1)) = bodyS ns := by
  apply ByteArray.ext
  apply Array.toList_inj.1
  rw [ByteArray.data_extract, Array.toList_extract, putS_bytes]
  rw [List.flatMap_cons, List.flatMap_append, bodyS_bytes]
  rw [List.extract_eq_take_drop]
  have e4 : (four4 ((4 * ns.length + 4 : Nat) : Int)).length = 4 := four4_length _
  rw [List.drop_left' e4, List.take_left' (by rw [flat4_length]; omega)]
theorem crcF_range (s : ByteArray) : 0 ≤ crcF s ∧ crcF s < 4294967296 := by
  have h : ∀ a b : Int, 0 ≤ Go.bits .xor .u32 a b ∧ Go.bits .xor .u32 a b < 4294967296 := fun a b => by
    show 0 ≤ IntKind.u32.wrap ((BitVec.ofInt 32 a ^^^ BitVec.ofInt 32 b).toNat : Int) ∧ IntKind.u32.wrap ((BitVec.ofInt 32 a ^^^ BitVec.ofInt 32 b).toNat : Int) < 4294967296
    rw [IntKind.wrap_u32']
    omega
  have := h (crcTo s s.size) 4294967295
  unfold crcF wrap64
  omega
theorem put_l0 (ns : List Int) (hl : ns.length ≤ 1000) : ∀ (d j : Nat), j + d = ns.length → Ev (fun k => wire_Put.l0 k (bodyS (ns.take j)) ns (ns.length : Int) (j : Int)) (putS ns, 0) := by
  intro d
  induction d with
  | zero =>
    intro j hj
    have hz := bodyS_size ns
    refine ev_shift ?_
    simp only [wire_Put.l0, if_neg (show ¬ (j : Int) < (ns.length : Int) by omega), List.take_of_length_le (show ns.length ≤ j by omega)]
    have hc : crc_Sum.f (bodyS ns) = some (crcF (bodyS ns)) := by
      unfold crc_Sum.f
      rw [if_pos (by omega)]
    rw [hc]
    simp only [Option.bind_some, four_is]
    rw [if_pos (show (bodyS ns).size + (fourS (crcF (bodyS ns))).size ≤ 9223372036854775807 by rw [fourS_size]; omega), if_pos (show (fourS _).size + (bodyS ns ++ fourS (crcF (bodyS ns))).size ≤ 9223372036854775807 by rw [fourS_size, ByteArray.size_append, fourS_size]; omega)]
    exact Ev.now _
  | succ d ih =>
    intro j hj
    have hjl : j < ns.length := by omega
    have hw : wrap64 ((j : Int) + 1) = ((j + 1 : Nat) : Int) := by rw [wrap_small (by omega) (by omega)]; omega
    have hz := bodyS_size (ns.take j)
    rw [List.length_take] at hz
    have hr : rd ns (j : Int) = ns[j] := rd_at hjl
    have hs : bodyS (ns.take j) ++ fourS ns[j] = bodyS (ns.take (j + 1)) := by rw [bodyS_snoc, List.take_succ_eq_append_getElem hjl]
    refine ev_shift ?_
    simp only [wire_Put.l0, if_pos (show (j : Int) < (ns.length : Int) by omega), if_pos (show (0 : Int) ≤ (j : Int) by omega), four_is, Option.bind_some, hr, hs, hw]
    have hq : (bodyS (ns.take j)).size + (fourS ns[j]).size ≤ 9223372036854775807 := by rw [fourS_size]; omega
    simp only [if_pos hq]
    exact ih (j + 1) (by omega)
section
variable {a0 a1 a2 a3 a4 a5 a6 a7 a8 a9 : Int} {v : List Int}
def msgL (a0 a1 a2 a3 a4 a5 a6 a7 a8 a9 : Int) (v : List Int) : List Int := [a0, a1, a2, a3, a4, a5, a6, a7, a8, a9] ++ [(v.length : Int)] ++ v
theorem msgL_length : (msgL a0 a1 a2 a3 a4 a5 a6 a7 a8 a9 v).length = 11 + v.length := by
  unfold msgL
  rw [List.length_append]
  rfl
theorem put_ev (hv : v.length ≤ 60) (h : wireB a0 a1 a2 a3 a4 a5 a6 a7 a8 a9 v = true) : Ev (fun k => wire_Put.f k a0 a1 a2 a3 a4 a5 a6 a7 a8 a9 v) (putS (msgL a0 a1 a2 a3 a4 a5 a6 a7 a8 a9 v), 0) := by
  have hw := wire_ev a0 a1 a2 a3 a4 a5 a6 a7 a8 a9 v (by omega)
  rw [h] at hw
  unfold wire_Put.f
  refine Ev.bind hw ?_
  simp only [if_true, wire_numbers.f, Option.bind_some]
  have q1 : ([a0, a1, a2, a3, a4, a5, a6, a7, a8, a9] : List Int).length + [(v.length : Int)].length < 17592186044416 := by simp only [List.length_cons, List.length_nil]; omega
  have q2 : (([a0, a1, a2, a3, a4, a5, a6, a7, a8, a9] : List Int) ++ [(v.length : Int)]).length + v.length < 17592186044416 := by rw [List.length_append]; simp only [List.length_cons, List.length_nil]; omega
  simp only [if_pos q1, if_pos q2]
  exact put_l0 (msgL a0 a1 a2 a3 a4 a5 a6 a7 a8 a9 v) (by rw [msgL_length]; omega) _ 0 (Nat.zero_add _)
theorem mod_self {x : Int} (h : inR x = true) : x % 4294967296 = x := by have := inR_iff.1 h; omega
/-- What Put wrote, Take reads. -/
theorem take_ev (hv : v.length ≤ 60) (hp : 1 ≤ v.length) (h : wireB a0 a1 a2 a3 a4 a5 a6 a7 a8 a9 v = true) : ∃ K, ∀ k, K ≤ k → TakeH k (putS (msgL a0 a1 a2 a3 a4 a5 a6 a7 a8 a9 v)) a0 a1 a2 a3 a4 a5 a6 a7 a8 a9 v (v.map (· % 4294967296)) (crcF (bodyS (msgL a0 a1 a2 a3 a4 a5 a6 a7 a8 a9 v))) := by
  obtain ⟨ns, hns⟩ : ∃ ns, ns = msgL a0 a1 a2 a3 a4 a5 a6 a7 a8 a9 v := ⟨_, rfl⟩
  have hnl : ns.length = 11 + v.length := by rw [hns, msgL_length]
  rw [← hns]
  have hw := wire_ev a0 a1 a2 a3 a4 a5 a6 a7 a8 a9 v (by omega)
  rw [h] at hw
  have hsz := putS_size ns
  have hby := putS_bytes ns
  obtain ⟨all, hall⟩ : ∃ all, all = ((4 * ns.length + 4 : Nat) : Int) :: (ns ++ [crcF (bodyS ns)]) := ⟨_, rfl⟩
  rw [← hall] at hby
  have hal : all.length = 13 + v.length := by rw [hall, List.length_cons, List.length_append, List.length_singleton, hnl]; omega
  have hnum : ∀ i (hi : i < all.length), Ev (fun k => wire_number.f k (putS ns) (i : Int)) (all[i] % 4294967296) := fun i hi => wnum_at all (putS ns) hby i hi (by omega)
  obtain ⟨K, hK⟩ := ev_all_below hnum
  obtain ⟨K2, hK2⟩ := hw
  unfold wireB at h
  rw [Bool.and_eq_true, Bool.and_eq_true] at h
  obtain ⟨h1, h2, _⟩ := h
  simp only [List.all_cons, List.all_nil, Bool.and_true, Bool.and_eq_true] at h1
  obtain ⟨g0, g1, g2, g3, g4, g5, g6, g7, g8, g9⟩ := h1
  have hc := crcF_range (bodyS ns)
  have hmap : ((((putS ns).size : Int) - 4) :: a0 :: a1 :: a2 :: a3 :: a4 :: a5 :: a6 :: a7 :: a8 :: a9 :: (v.length : Int) :: v.map (· % 4294967296)) = (((4 * ns.length + 4 : Nat) : Int) :: ns).map (· % 4294967296) := by
    rw [hns, List.map_cons]
    unfold msgL
    simp only [List.cons_append, List.nil_append, List.map_cons, mod_self g0, mod_self g1, mod_self g2, mod_self g3, mod_self g4, mod_self g5, mod_self g6, mod_self g7, mod_self g8, mod_self g9]
    rw [show ((v.length : Int) % 4294967296) = (v.length : Int) by omega]
    congr 1
    have e := hsz
    rw [hns] at e
    have e2 := hnl
    rw [hns] at e2
    unfold msgL at e e2
    simp only [List.cons_append, List.nil_append] at e e2
    omega
  refine ⟨max K K2, fun k hk => ⟨by omega, by omega, hp, by rw [List.length_map], fun i hi => ?_, ?_, ?_, fun j hj => ?_, hK2 k (by omega)⟩⟩
  · rw [hmap, hK k (by omega) i (by omega)]
    congr 1
    unfold rd
    rw [Int.toNat_natCast, List.getD_eq_getElem?_getD, List.getElem?_map, List.getElem?_eq_getElem (show i < (((4 * ns.length + 4 : Nat) : Int) :: ns).length by rw [List.length_cons]; omega)]
    show _ = (((4 * ns.length + 4 : Nat) : Int) :: ns)[i]'_ % 4294967296
    congr 1
    have e : all = (((4 * ns.length + 4 : Nat) : Int) :: ns) ++ [crcF (bodyS ns)] := by rw [hall]; rfl
    simp only [e]
    rw [List.getElem_append_left]
  · have h3 := hK k (by omega) (12 + v.length) (by omega)
    have e : all = (((4 * ns.length + 4 : Nat) : Int) :: ns) ++ [crcF (bodyS ns)] := by rw [hall]; rfl
    have e2 : all[12 + v.length]'(by omega) = crcF (bodyS ns) := by
      simp only [e]
      rw [List.getElem_append_right (by rw [List.length_cons]; omega)]
      simp
    rw [h3, e2]
    congr 1
    omega
  · rw [show 4 * (12 + v.length) = 4 * (ns.length + 1) by omega, putS_cut]
    unfold crc_Sum.f
    rw [if_pos (by rw [bodyS_size]; omega)]
  · unfold wire_signed.f rd
    rw [Int.toNat_natCast, List.getD_eq_getElem?_getD, List.getD_eq_getElem?_getD, List.getElem?_map, List.getElem?_eq_getElem hj]
    have h4 := inV_iff.1 (List.all_eq_true.1 h2 _ (List.getElem_mem hj))
    show some (wrap64 (wrap32 (v[j] % 4294967296))) = some v[j]
    congr 1
    unfold wrap64 wrap32
    omega
end
/-- From some number of rounds on. -/
def Evp (P : Nat → Prop) : Prop := ∃ K, ∀ k, K ≤ k → P k
theorem Evp.and {P Q : Nat → Prop} (h : Evp P) (h' : Evp Q) : Evp (fun k => P k ∧ Q k) := by
  obtain ⟨K, h⟩ := h
  obtain ⟨K', h'⟩ := h'
  exact ⟨max K K', fun k hk => ⟨h k (by omega), h' k (by omega)⟩⟩
theorem Evp.mono {P Q : Nat → Prop} (h : Evp P) (hi : ∀ k, P k → Q k) : Evp Q := by
  obtain ⟨K, h⟩ := h
  exact ⟨K, fun k hk => hi k (h k hk)⟩
theorem Evp.all {n : Nat} {P : Nat → Nat → Prop} (h : ∀ i, i < n → Evp (P i)) : Evp (fun k => ∀ i, i < n → P i k) := by
  induction n with
  | zero => exact ⟨0, fun k _ i hi => absurd hi (Nat.not_lt_zero _)⟩
  | succ n ih =>
    obtain ⟨K, hK⟩ := ih (fun i hi => h i (Nat.lt_succ_of_lt hi))
    obtain ⟨K2, hK2⟩ := h n (Nat.lt_succ_self _)
    refine ⟨max K K2, fun k hk i hi => ?_⟩
    by_cases hin : i = n
    · subst hin
      exact hK2 k (by omega)
    · exact hK k (by omega) i (by omega)
theorem Evp.of {α : Type} {g : Nat → Option α} {r : α} (h : Ev g r) : Evp (fun k => g k = some r) := h
theorem Evp.yes {P : Nat → Prop} (h : ∀ k, P k) : Evp P := ⟨0, fun k _ => h k⟩
theorem ev_down {α : Type} {g : Nat → Option α} {r : α} (h : Ev g r) : Ev (fun k => g (k + 1)) r := by
  obtain ⟨K, h⟩ := h
  exact ⟨K, fun k hk => h (k + 1) (by omega)⟩
theorem ev_no {P : Prop} (h : Ev (fun _ => (some false : Option Bool)) true) : P := by
  obtain ⟨K, h⟩ := h
  have := h K (Nat.le_refl _)
  cases this
/-! ### A right map -/
theorem pg_l1 (H : List (List Int)) (e : Int) (i : Nat) (hi : i < H.length) (hH : H.length ≤ 1000) (x : List Int) (hx : x.length ≤ 1000) : ∀ (d j : Nat) (last : Int), j + d = x.length → 0 ≤ last → Ev (fun k => place_Right.l1 k x last H (H.length : Int) (i : Int) x (x.length : Int) (j : Int) e H) true →
    (∀ q : Nat, j ≤ q → q < x.length → 1 ≤ rd x (q : Int) ∧ rd x (q : Int) ≤ 4) ∧ x.length ≠ 0 ∧ Ev (fun k => place_Right.l0 k H (H.length : Int) ((i + 1 : Nat) : Int) e H) true := by
  have hwi : wrap64 ((i : Int) + 1) = ((i + 1 : Nat) : Int) := by rw [wrap_small (by omega) (by omega)]; omega
  intro d
  induction d with
  | zero =>
    intro j last hj hl h
    have h := ev_down h
    simp only [place_Right.l1, if_neg (show ¬ (j : Int) < (x.length : Int) by omega), hwi] at h
    by_cases h0 : (x.length : Int) = 0
    · simp only [if_pos h0] at h
      exact ev_no h
    · simp only [if_neg h0] at h
      exact ⟨fun q h1 h2 => by omega, by omega, h⟩
  | succ d ih =>
    intro j last hj hl h
    have hw : wrap64 ((j : Int) + 1) = ((j + 1 : Nat) : Int) := by rw [wrap_small (by omega) (by omega)]; omega
    have hjl : (j : Int) < (x.length : Int) := by omega
    have hj0 : (0 : Int) ≤ (j : Int) := by omega
    have h := ev_down h
    simp only [place_Right.l1, if_pos hjl, if_pos hj0, hw] at h
    by_cases g1 : rd x (j : Int) ≤ last
    · simp only [if_pos g1] at h
      exact ev_no h
    · by_cases g4 : rd x (j : Int) > 4
      · simp only [if_neg g1, if_pos g4] at h
        exact ev_no h
      · simp only [if_neg g1, if_neg g4] at h
        obtain ⟨a, b, c⟩ := ih (j + 1) _ (by omega) (by omega) h
        refine ⟨fun q h1 h2 => ?_, b, c⟩
        by_cases hq : q = j
        · subst hq
          omega
        · exact a q (by omega) h2
theorem pg_l0 (H : List (List Int)) (e : Int) (hH : H.length ≤ 1000) (hx : ∀ x ∈ H, x.length ≤ 1000) : ∀ (d i : Nat), i + d = H.length → Ev (fun k => place_Right.l0 k H (H.length : Int) (i : Int) e H) true →
    (0 ≤ e ∧ e ≤ 2147483647 ∧ H.length ≤ 8) ∧ ∀ q : Nat, i ≤ q → q < H.length → (rd_L1 H (q : Int)).length ≠ 0 ∧ ∀ t : Nat, t < (rd_L1 H (q : Int)).length → 1 ≤ rd (rd_L1 H (q : Int)) (t : Int) ∧ rd (rd_L1 H (q : Int)) (t : Int) ≤ 4 := by
  intro d
  induction d with
  | zero =>
    intro i hi h
    have h := ev_down h
    simp only [place_Right.l0, if_neg (show ¬ (i : Int) < (H.length : Int) by omega)] at h
    refine ⟨?_, fun q h1 h2 => by omega⟩
    by_cases h1 : e ≥ 0
    · by_cases h2 : e ≤ 2147483647
      · by_cases h3 : (H.length : Int) ≤ 8
        · exact ⟨h1, h2, by omega⟩
        · simp only [if_pos h1, if_pos h2, decide_eq_false h3] at h
          exact ev_no h
      · simp only [if_pos h1, if_neg h2] at h
        exact ev_no h
    · simp only [if_neg h1] at h
      exact ev_no h
  | succ d ih =>
    intro i hi h
    have h := ev_down h
    simp only [place_Right.l0, if_pos (show (i : Int) < (H.length : Int) by omega), if_pos (show (0 : Int) ≤ (i : Int) by omega)] at h
    obtain ⟨a, b, c⟩ := pg_l1 H e i (by omega) hH (rd_L1 H (i : Int)) (hx _ (rdL_mem (by omega))) (rd_L1 H (i : Int)).length 0 0 (Nat.zero_add _) (Int.le_refl _) h
    obtain ⟨p, q⟩ := ih (i + 1) (by omega) c
    refine ⟨p, fun r h1 h2 => ?_⟩
    by_cases hr : r = i
    · subst hr
      exact ⟨b, fun t ht => a t (Nat.zero_le _) ht⟩
    · exact q r (by omega) h2
/-- What a right map is. -/
structure MapOk (e : Int) (hs : List (List Int)) : Prop where
  e0 : 0 ≤ e
  e1 : e ≤ 2147483647
  len : hs.length ≤ 8
  few : ∀ x ∈ hs, x.length ≤ 1000
  row : ∀ q : Nat, q < hs.length → (rd_L1 hs (q : Int)).length ≠ 0 ∧ ∀ t : Nat, t < (rd_L1 hs (q : Int)).length → 1 ≤ rd (rd_L1 hs (q : Int)) (t : Int) ∧ rd (rd_L1 hs (q : Int)) (t : Int) ≤ 4
  ev : Ev (fun k => place_Right.f k e hs) true
theorem mapOk {e : Int} {hs : List (List Int)} (hf : Few hs) (h : Ev (fun k => place_Right.f k e hs) true) : MapOk e hs := by
  have hx : ∀ x ∈ hs, x.length ≤ 1000 := fun x hx => by have := hf.2 x hx; omega
  obtain ⟨⟨a, b, c⟩, d⟩ := pg_l0 hs e (by have := hf.1; omega) hx hs.length 0 (Nat.zero_add _) h
  exact ⟨a, b, c, hx, fun q hq => d q (Nat.zero_le _) hq, h⟩
/-- Who is asked. -/
def dstOf (hs : List (List Int)) (p : S76) : Int := rd (rd_L1 hs p.f2) (Int.tmod (p.f0 + p.f1) ((rd_L1 hs p.f2).length : Int))
theorem tmod_at {a : Int} {n : Nat} (ha : 0 ≤ a) (hn : n ≠ 0) : ∃ t : Nat, Int.tmod a (n : Int) = (t : Int) ∧ t < n := by
  refine ⟨(Int.tmod a (n : Int)).toNat, ?_, ?_⟩
  · have := Int.tmod_nonneg (n : Int) ha
    omega
  · have h1 := Int.tmod_lt_of_pos a (show (0 : Int) < (n : Int) by omega)
    have h2 := Int.tmod_nonneg (n : Int) ha
    omega
theorem pick_ev {e : Int} {hs : List (List Int)} (hM : MapOk e hs) {p : S76} (h0 : 0 ≤ p.f0) (h1 : 0 ≤ p.f1) (h2 : 0 ≤ p.f2) (h3 : p.f2 < (hs.length : Int)) : Ev (fun k => place_Pick.f k e hs p.f2 (p.f0 + p.f1)) (dstOf hs p, true) := by
  obtain ⟨q, hq⟩ : ∃ q : Nat, p.f2 = (q : Int) := ⟨p.f2.toNat, by omega⟩
  have hr := (hM.row q (by omega)).1
  rw [← hq] at hr
  obtain ⟨t, ht, htl⟩ := tmod_at (show 0 ≤ p.f0 + p.f1 by omega) hr
  unfold place_Pick.f
  refine Ev.bind hM.ev ?_
  simp only [if_true, if_neg (show ¬ p.f2 < 0 by omega), if_neg (show ¬ p.f2 ≥ (hs.length : Int) by omega), if_neg (show ¬ p.f0 + p.f1 < 0 by omega), if_pos h2, if_pos h3, if_neg (show ¬ ((rd_L1 hs p.f2).length : Int) = 0 by omega), if_pos (show 0 ≤ Int.tmod (p.f0 + p.f1) ((rd_L1 hs p.f2).length : Int) by omega), if_pos (show Int.tmod (p.f0 + p.f1) ((rd_L1 hs p.f2).length : Int) < ((rd_L1 hs p.f2).length : Int) by omega)]
  exact Ev.now _
theorem dst_range {e : Int} {hs : List (List Int)} (hM : MapOk e hs) {p : S76} (h0 : 0 ≤ p.f0) (h1 : 0 ≤ p.f1) (h2 : 0 ≤ p.f2) (h3 : p.f2 < (hs.length : Int)) : 1 ≤ dstOf hs p ∧ dstOf hs p ≤ 4 ∧ ∃ t : Nat, t < (rd_L1 hs p.f2).length ∧ rd (rd_L1 hs p.f2) (t : Int) = dstOf hs p := by
  obtain ⟨q, hq⟩ : ∃ q : Nat, p.f2 = (q : Int) := ⟨p.f2.toNat, by omega⟩
  obtain ⟨hr, ha⟩ := hM.row q (by omega)
  rw [← hq] at hr ha
  obtain ⟨t, ht, htl⟩ := tmod_at (show 0 ≤ p.f0 + p.f1 by omega) hr
  have := ha t htl
  unfold dstOf
  rw [ht]
  exact ⟨this.1, this.2, t, htl, rfl⟩
theorem index_in (x : List Int) (y : Int) (hx : x.length ≤ 1000) (q : Nat) (hq : q < x.length) (hy : rd x (q : Int) = y) : ∀ (d i : Nat), i + d = x.length → i ≤ q → ∃ r, 0 ≤ r ∧ Ev (fun k => slices_Index_int_int.l0 k x y (x.length : Int) (i : Int)) r := by
  intro d
  induction d with
  | zero => intro i hi h; omega
  | succ d ih =>
    intro i hi h
    have hw : wrap64 ((i : Int) + 1) = ((i + 1 : Nat) : Int) := by rw [wrap_small (by omega) (by omega)]; omega
    by_cases he : y = rd x (i : Int)
    · refine ⟨(i : Int), by omega, ev_shift ?_⟩
      simp only [slices_Index_int_int.l0, if_pos (show (i : Int) < (x.length : Int) by omega), if_pos (show (0 : Int) ≤ (i : Int) by omega), if_pos he]
      exact Ev.now _
    · have hne : i ≠ q := fun h_ => he (by rw [h_]; exact hy.symm)
      obtain ⟨r, h0, hr⟩ := ih (i + 1) (by omega) (by omega)
      refine ⟨r, h0, ev_shift ?_⟩
      simp only [slices_Index_int_int.l0, if_pos (show (i : Int) < (x.length : Int) by omega), if_pos (show (0 : Int) ≤ (i : Int) by omega), if_neg he, hw]
      exact hr
theorem holds_ev {e : Int} {hs : List (List Int)} (hM : MapOk e hs) {p : S76} (h0 : 0 ≤ p.f0) (h1 : 0 ≤ p.f1) (h2 : 0 ≤ p.f2) (h3 : p.f2 < (hs.length : Int)) : Ev (fun k => place_Holds.f k e hs p.f2 (dstOf hs p)) true := by
  obtain ⟨_, _, t, ht, hy⟩ := dst_range hM h0 h1 h2 h3
  obtain ⟨q, hq⟩ : ∃ q : Nat, p.f2 = (q : Int) := ⟨p.f2.toNat, by omega⟩
  have hl : (rd_L1 hs p.f2).length ≤ 1000 := by rw [hq]; exact hM.few _ (rdL_mem (by omega))
  obtain ⟨r, hr0, hr⟩ := index_in (rd_L1 hs p.f2) (dstOf hs p) hl t ht hy (rd_L1 hs p.f2).length 0 (Nat.zero_add _) (Nat.zero_le _)
  have hc : Ev (fun k => slices_Contains_int_int.f k (rd_L1 hs p.f2) (dstOf hs p)) true := by
    unfold slices_Contains_int_int.f slices_Index_int_int.f
    refine Ev.bind hr ?_
    simp only [decide_eq_true (show r ≥ 0 from hr0)]
    exact Ev.now _
  unfold place_Holds.f
  simp only [if_pos (show p.f2 ≥ 0 from h2), if_pos h3]
  exact Ev.bind hc (Ev.now _)
/-! ### Something unanswered? -/
theorem has_false (x : List Bool) (hx : x.length ≤ 32) : ∀ (d i k : Nat), i + d = x.length → d < k → ∃ r, slices_Index_bool_bool.l0 k x false (x.length : Int) (i : Int) = some r ∧ (r ≥ 0 ↔ false ∈ x.drop i) := by
  intro d
  induction d with
  | zero =>
    intro i k hi hk
    obtain ⟨k, rfl⟩ : ∃ q, k = q + 1 := ⟨k - 1, by omega⟩
    refine ⟨-1, ?_, ?_⟩
    · simp only [slices_Index_bool_bool.l0, if_neg (show ¬ (i : Int) < (x.length : Int) by omega)]
    · rw [List.drop_of_length_le (by omega)]
      exact ⟨fun h => absurd h (by decide), fun h => by cases h⟩
  | succ d ih =>
    intro i k hi hk
    obtain ⟨k, rfl⟩ : ∃ q, k = q + 1 := ⟨k - 1, by omega⟩
    have hw : wrap64 ((i : Int) + 1) = ((i + 1 : Nat) : Int) := by rw [wrap_small (by omega) (by omega)]; omega
    have hil : i < x.length := by omega
    have hr : rdOf false x (i : Int) = x[i] := by
      unfold rdOf
      rw [Int.toNat_natCast, List.getD_eq_getElem?_getD, List.getElem?_eq_getElem hil]
      rfl
    rw [List.drop_eq_getElem_cons hil]
    cases hb : x[i] with
    | false =>
      refine ⟨(i : Int), ?_, ⟨fun _ => List.mem_cons_self .., fun _ => Int.natCast_nonneg _⟩⟩
      simp only [slices_Index_bool_bool.l0, if_pos (show (i : Int) < (x.length : Int) by omega), if_pos (show (0 : Int) ≤ (i : Int) by omega), hr, hb, BEq.rfl, if_true]
    | true =>
      obtain ⟨r, h1, h2⟩ := ih (i + 1) k (by omega) (by omega)
      refine ⟨r, ?_, h2.trans ⟨fun h => List.mem_cons_of_mem _ h, fun h => by rcases List.mem_cons.1 h with h | h; cases h; exact h⟩⟩
      simp only [slices_Index_bool_bool.l0, if_pos (show (i : Int) < (x.length : Int) by omega), if_pos (show (0 : Int) ≤ (i : Int) by omega), hr, hb, show ((false == true) = true) = False from by simp, if_false, hw]
      exact h1
theorem cont_all : Evp (fun k => ∀ l : List Bool, l.length ≤ 32 → slices_Contains_bool_bool.f k l false = some (decide (false ∈ l))) := by
  refine ⟨34, fun k hk l hl => ?_⟩
  obtain ⟨r, h1, h2⟩ := has_false l hl l.length 0 k (Nat.zero_add _) (by omega)
  rw [List.drop_zero] at h2
  unfold slices_Contains_bool_bool.f slices_Index_bool_bool.f
  rw [show ((0 : Nat) : Int) = 0 from rfl] at h1
  rw [h1]
  show some (decide (r ≥ 0)) = _
  rw [decide_eq_decide.2 h2]
/-! ### Parts: their ranks, and that they are unlike -/
def keyP (p : S76) : Int := 2 * p.f0 + p.f1
theorem pAt_mem {a w : List S105} {c : List S102} {t : Nat} {k : Int} {p : S76} (h : p ∈ pAt a w c t k) : p.f0 = (t : Int) ∧ p.f1 = k := by
  unfold pAt at h
  split at h
  · obtain rfl := List.mem_singleton.1 h
    exact ⟨rfl, rfl⟩
  · cases h
theorem partsTo_keys (a w : List S105) (c : List S102) : ∀ n : Nat, (∀ p ∈ partsTo a w c n, 0 ≤ p.f0 ∧ p.f0 < (n : Int) ∧ 0 ≤ p.f1 ∧ p.f1 ≤ 1) ∧ (partsTo a w c n).Pairwise (fun p q => keyP p < keyP q)
  | 0 => ⟨(fun p hp => (List.not_mem_nil hp).elim), List.Pairwise.nil⟩
  | n + 1 => by
    obtain ⟨h1, h2⟩ := partsTo_keys a w c n
    have m0 : ∀ p ∈ pAt a w c n 0, p.f0 = (n : Int) ∧ p.f1 = 0 := fun p hp => pAt_mem hp
    have m1 : ∀ p ∈ pAt a w c n 1, p.f0 = (n : Int) ∧ p.f1 = 1 := fun p hp => pAt_mem hp
    have one : ∀ k, (pAt a w c n k).Pairwise (fun p q => keyP p < keyP q) := fun k => by
      unfold pAt
      split
      · exact List.pairwise_singleton _ _
      · exact List.Pairwise.nil
    refine ⟨fun p hp => ?_, ?_⟩
    · rcases List.mem_append.1 hp with hp | hp
      · have := h1 p hp
        omega
      · rcases List.mem_append.1 hp with hp | hp
        · have := m0 p hp
          omega
        · have := m1 p hp
          omega
    · refine List.pairwise_append.2 ⟨h2, List.pairwise_append.2 ⟨one 0, one 1, fun p hp q hq => ?_⟩, fun p hp q hq => ?_⟩
      · have := m0 p hp
        have := m1 q hq
        unfold keyP
        omega
      · have := h1 p hp
        unfold keyP
        rcases List.mem_append.1 hq with hq | hq
        · have := m0 q hq
          omega
        · have := m1 q hq
          omega
theorem rdP_at {l : List S76} {t : Nat} (h : t < l.length) : rd_T76 l (t : Int) = l[t] := by
  unfold rd_T76
  rw [Int.toNat_natCast, List.getD_eq_getElem?_getD, List.getElem?_eq_getElem h]
  rfl
theorem idx_at (p : S76 → Bool) : ∀ (l : List S76) (i j : Nat) (hj : j < l.length), p l[j] = true → (∀ q (hq : q < j), p (l[q]'(by omega)) = false) → idxFrom90 p l i = ((i + j : Nat) : Int)
  | [], _, _, hj, _, _ => absurd hj (Nat.not_lt_zero _)
  | x :: r, i, 0, _, h, _ => by
    show (if p x = true then (i : Int) else idxFrom90 p r (i + 1)) = _
    rw [if_pos (show p x = true from h)]
    rfl
  | x :: r, i, j + 1, hj, h, hn => by
    have h0 := hn 0 (by omega)
    have hx : ¬ p x = true := by rw [show p x = false from h0]; decide
    show (if p x = true then (i : Int) else idxFrom90 p r (i + 1)) = _
    rw [if_neg hx, idx_at p r (i + 1) j (by simpa using hj) (by simpa using h) (fun q hq => by have := hn (q + 1) (by omega); simpa using this)]
    congr 1
    omega
theorem partB_iff {x : S76} {a b c : Int} : partB x a b c = true ↔ x.f0 = a ∧ x.f1 = b ∧ x.f2 = c := by
  unfold partB
  rw [Bool.and_eq_true, Bool.and_eq_true, beq_iff_eq, beq_iff_eq, beq_iff_eq]
/-! ### What is answered lies in range -/
theorem applyTo_range (m : List (List Int)) (v : List Int) : ∀ n, ∀ y ∈ applyTo m v n, -2147483647 ≤ y ∧ y ≤ 2147483647
  | 0, y, hy => by cases hy
  | n + 1, y, hy => by
    simp only [applyTo] at hy
    rcases List.mem_append.1 hy with hy | hy
    · exact applyTo_range m v n y hy
    · obtain rfl := List.mem_singleton.1 hy
      exact dotN_range _ _ _
/-! ### The run -/
def layOf (ls : List S31) (i : Nat) : S31 := rd_T31 ls (i : Int)
def tokT (ch : Chs) (ls : List S31) (tk : List (List Int)) (i : Nat) : List (List Int) := fwdV ch (ls.take i) tk
def prtT (ch : Chs) (ls : List S31) (tk : List (List Int)) (i : Nat) : List S76 := partsV ch (layOf ls i).f0 ((layOf ls i).f1.length : Int) (layOf ls i).f2 (tokT ch ls tk i)
def ansT (ch : Chs) (ls : List S31) (tk : List (List Int)) (i j : Nat) : List Int := ansP (layOf ls i).f1 (tokT ch ls tk i) (rd_T76 (prtT ch ls tk i) (j : Int))
def mapsR (ch : Chs) (ls : List S31) (tk : List (List Int)) (e : Int) (hs : List (List Int)) : RunD where
  T := tokT ch ls tk
  P := prtT ch ls tk
  d := fun i j => dstOf hs (rd_T76 (prtT ch ls tk i) (j : Int))
  fa := fun i j => putS (msgL 1 0 (dstOf hs (rd_T76 (prtT ch ls tk i) (j : Int))) 0 1 (i : Int) (rd_T76 (prtT ch ls tk i) (j : Int)).f0 (rd_T76 (prtT ch ls tk i) (j : Int)).f1 (rd_T76 (prtT ch ls tk i) (j : Int)).f2 e (rd_L1 (tokT ch ls tk i) (rd_T76 (prtT ch ls tk i) (j : Int)).f0))
  fb := fun i j => putS (msgL 2 (dstOf hs (rd_T76 (prtT ch ls tk i) (j : Int))) 0 0 1 (i : Int) (rd_T76 (prtT ch ls tk i) (j : Int)).f0 (rd_T76 (prtT ch ls tk i) (j : Int)).f1 (rd_T76 (prtT ch ls tk i) (j : Int)).f2 e (ansT ch ls tk i j))
  an := ansT ch ls tk
theorem fwdV_snoc (ch : Chs) : ∀ (l : List S31) (x : S31) (T : List (List Int)), fwdV ch (l ++ [x]) T = layerV ch x (fwdV ch l T)
  | [], _, _ => rfl
  | y :: r, x, T => by
    simp only [List.cons_append, fwdV]
    exact fwdV_snoc ch r x _
theorem tokT_succ (ch : Chs) {ls : List S31} (tk : List (List Int)) {i : Nat} (h : i < ls.length) : tokT ch ls tk (i + 1) = layerV ch (layOf ls i) (tokT ch ls tk i) := by
  unfold tokT layOf
  rw [List.take_succ_eq_append_getElem h, fwdV_snoc, rdY_get h]
theorem map_rd (P : List S76) (f : S76 → List Int) : (List.range P.length).map (fun j : Nat => f (rd_T76 P (j : Int))) = P.map f := by
  apply List.ext_getElem
  · simp
  · intro j h1 h2
    simp only [List.getElem_map, List.getElem_range]
    rw [rdP_at (by simpa using h1)]
section
variable {ch : Chs} {n e : Int} {ls : List S31} {tk hs : List (List Int)}
/-- What is asked of a batch. -/
structure BatchOk (ch : Chs) (n e : Int) (ls : List S31) (tk hs : List (List Int)) : Prop where
  ch : ChAll ch
  M : GoodM n ls
  T : GoodT n tk
  P : MapOk e hs
  fit : ∀ x ∈ ls, x.f1.length ≤ hs.length
theorem BatchOk.tok (h : BatchOk ch n e ls tk hs) (i : Nat) : GoodT n (tokT ch ls tk i) := fwdV_good ch _ _ h.T
theorem BatchOk.lay (h : BatchOk ch n e ls tk hs) {i : Nat} (hi : i < ls.length) : GoodY n (layOf ls i) := h.M.2.2.2.2 _ (rdY_mem hi)
/-- What is known of a part. -/
structure PartG (n e : Int) (ls : List S31) (tk hs : List (List Int)) (ch : Chs) (i : Nat) (p : S76) : Prop where
  t0 : 0 ≤ p.f0
  t1 : p.f0 < ((tokT ch ls tk i).length : Int)
  t2 : p.f0 < 16
  r0 : 0 ≤ p.f1
  r1 : p.f1 ≤ 1
  x0 : 0 ≤ p.f2
  x1 : p.f2 < ((layOf ls i).f1.length : Int)
  x2 : p.f2 < (hs.length : Int)
  x3 : p.f2 < 8
  row : ((rd_L1 (tokT ch ls tk i) p.f0).length : Int) = n
  rowR : ∀ y ∈ rd_L1 (tokT ch ls tk i) p.f0, -2147483647 ≤ y ∧ y ≤ 2147483647
  rowW : rowWrong n (rd_L1 (tokT ch ls tk i) p.f0) = false
  al : ((ansP (layOf ls i).f1 (tokT ch ls tk i) p).length : Int) = n
  aR : ∀ y ∈ ansP (layOf ls i).f1 (tokT ch ls tk i) p, -2147483647 ≤ y ∧ y ≤ 2147483647
theorem BatchOk.part (h : BatchOk ch n e ls tk hs) {i j : Nat} (hi : i < ls.length) (hj : j < (prtT ch ls tk i).length) : PartG n e ls tk hs ch i (rd_T76 (prtT ch ls tk i) (j : Int)) := by
  have hm : rd_T76 (prtT ch ls tk i) (j : Int) ∈ prtT ch ls tk i := by rw [rdP_at hj]; exact List.getElem_mem hj
  obtain ⟨p, hp⟩ : ∃ p, p = rd_T76 (prtT ch ls tk i) (j : Int) := ⟨_, rfl⟩
  rw [← hp] at hm ⊢
  have hy := h.lay hi
  have hT := h.tok i
  obtain ⟨a0, a1, a2, a3⟩ := partsV_ok ch _ _ _ _ p hm
  obtain ⟨b0, b1, b2, b3⟩ := (partsTo_keys _ _ _ _).1 p hm
  have hfit := h.fit _ (rdY_mem hi)
  obtain ⟨q, hq⟩ : ∃ q : Nat, p.f0 = (q : Int) := ⟨p.f0.toNat, by omega⟩
  have hrm : rd_L1 (tokT ch ls tk i) p.f0 ∈ tokT ch ls tk i := by rw [hq]; exact rdL_mem (by omega)
  have h16 := hT.2.1
  have h8 := hy.2.1
  refine ⟨a0, a1, by omega, b2, b3, a2, a3, ?_, by omega, rows_length hT.2.2 _ hrm, row_range hT.2.2 hrm, ?_, ansP_length hy.2.2.2.2.2 _ a2 a3, ?_⟩
  · have h9 : (layOf ls i).f1.length ≤ hs.length := hfit
    omega
  · have h10 := List.any_eq_false.1 hT.2.2 _ hrm
    simpa using h10
  · unfold ansP runE
    exact applyTo_range _ _ _
/-- A message of the run is right. -/
theorem msg_right {a0 a1 a2 : Int} {i : Nat} {p : S76} {v : List Int} (hi : i < 5) (h0 : a0 = 1 ∨ a0 = 2) (h1 : 0 ≤ a1 ∧ a1 ≤ 4) (h2 : 0 ≤ a2 ∧ a2 ≤ 4) (he : 0 ≤ e ∧ e ≤ 2147483647) (g : PartG n e ls tk hs ch i p) (hn : n ≤ 8) (hv : (v.length : Int) = n) (hr : ∀ y ∈ v, -2147483647 ≤ y ∧ y ≤ 2147483647) :
    wireB a0 a1 a2 0 1 (i : Int) p.f0 p.f1 p.f2 e v = true := by
  have g1 := g.t0
  have g2 := g.t2
  have g3 := g.r0
  have g4 := g.r1
  have g5 := g.x0
  have g6 := g.x3
  unfold wireB tailB
  simp only [List.all_cons, List.all_nil, Bool.and_true, Bool.and_eq_true, decide_eq_true_eq, List.all_eq_true]
  refine ⟨⟨inR_iff.2 (by omega), inR_iff.2 (by omega), inR_iff.2 (by omega), inR_iff.2 (by omega), inR_iff.2 (by omega), inR_iff.2 (by omega), inR_iff.2 (by omega), inR_iff.2 (by omega), inR_iff.2 (by omega), inR_iff.2 (by omega)⟩, fun y hy => inV_iff.2 ?_, by omega, by omega, by omega⟩
  have := hr y hy
  omega
end
section
variable {ch : Chs} {n e : Int} {ls : List S31} {tk hs : List (List Int)}
/-- What each part's messages and work come to. -/
structure PartE (ch : Chs) (n e : Int) (ls : List S31) (tk hs : List (List Int)) (i j k : Nat) : Prop where
  pick : place_Pick.f k e hs ((mapsR ch ls tk e hs).p i j).f2 (((mapsR ch ls tk e hs).p i j).f0 + ((mapsR ch ls tk e hs).p i j).f1) = some ((mapsR ch ls tk e hs).d i j, true)
  putA : wire_Put.f k 1 0 ((mapsR ch ls tk e hs).d i j) 0 1 (i : Int) ((mapsR ch ls tk e hs).p i j).f0 ((mapsR ch ls tk e hs).p i j).f1 ((mapsR ch ls tk e hs).p i j).f2 e ((mapsR ch ls tk e hs).row i j) = some ((mapsR ch ls tk e hs).fa i j, 0)
  putB : wire_Put.f k 2 ((mapsR ch ls tk e hs).d i j) 0 0 1 (i : Int) ((mapsR ch ls tk e hs).p i j).f0 ((mapsR ch ls tk e hs).p i j).f1 ((mapsR ch ls tk e hs).p i j).f2 e ((mapsR ch ls tk e hs).an i j) = some ((mapsR ch ls tk e hs).fb i j, 0)
  takeA : ∃ u c, TakeH k ((mapsR ch ls tk e hs).fa i j) 1 0 ((mapsR ch ls tk e hs).d i j) 0 1 (i : Int) ((mapsR ch ls tk e hs).p i j).f0 ((mapsR ch ls tk e hs).p i j).f1 ((mapsR ch ls tk e hs).p i j).f2 e ((mapsR ch ls tk e hs).row i j) u c
  takeB : ∃ u c, TakeH k ((mapsR ch ls tk e hs).fb i j) 2 ((mapsR ch ls tk e hs).d i j) 0 0 1 (i : Int) ((mapsR ch ls tk e hs).p i j).f0 ((mapsR ch ls tk e hs).p i j).f1 ((mapsR ch ls tk e hs).p i j).f2 e ((mapsR ch ls tk e hs).an i j) u c
  wire : wire_Right.f k 1 0 ((mapsR ch ls tk e hs).d i j) 0 1 (i : Int) ((mapsR ch ls tk e hs).p i j).f0 ((mapsR ch ls tk e hs).p i j).f1 ((mapsR ch ls tk e hs).p i j).f2 e ((mapsR ch ls tk e hs).row i j) = some true
  holds : place_Holds.f k e hs ((mapsR ch ls tk e hs).p i j).f2 ((mapsR ch ls tk e hs).d i j) = some true
  run : expert_Run.f k (rd_T33 (rd_T31 ls (i : Int)).f1 ((mapsR ch ls tk e hs).p i j).f2).f0 (rd_T33 (rd_T31 ls (i : Int)).f1 ((mapsR ch ls tk e hs).p i j).f2).f1 ((mapsR ch ls tk e hs).row i j) = some ((mapsR ch ls tk e hs).an i j, true)
theorem BatchOk.partE (h : BatchOk ch n e ls tk hs) {i j : Nat} (hi : i < ls.length) (hj : j < (prtT ch ls tk i).length) : Evp (PartE ch n e ls tk hs i j) := by
  have g := h.part hi hj
  obtain ⟨hn1, hn8, hl1, hl4, _⟩ := h.M
  obtain ⟨d1, d4, _⟩ := dst_range h.P g.t0 g.r0 g.x0 g.x2
  have he := And.intro h.P.e0 h.P.e1
  have hrl := g.row
  have hal := g.al
  have wA := msg_right (a0 := 1) (a1 := 0) (by omega) (.inl rfl) ⟨by omega, by omega⟩ ⟨by omega, d4⟩ he g hn8 g.row g.rowR
  have wB := msg_right (a0 := 2) (a2 := 0) (by omega) (.inr rfl) ⟨by omega, d4⟩ ⟨by omega, by omega⟩ he g hn8 g.al g.aR
  have e1 := Evp.of (pick_ev h.P g.t0 g.r0 g.x0 g.x2)
  have e2 := Evp.of (put_ev (by omega) wA)
  have e3 := Evp.of (put_ev (by omega) wB)
  have e4 : Evp _ := take_ev (by omega) (by omega) wA
  have e5 : Evp _ := take_ev (by omega) (by omega) wB
  have e6 := wire_ev 1 0 (dstOf hs (rd_T76 (prtT ch ls tk i) (j : Int))) 0 1 (i : Int) (rd_T76 (prtT ch ls tk i) (j : Int)).f0 (rd_T76 (prtT ch ls tk i) (j : Int)).f1 (rd_T76 (prtT ch ls tk i) (j : Int)).f2 e (rd_L1 (tokT ch ls tk i) (rd_T76 (prtT ch ls tk i) (j : Int)).f0) (by omega)
  rw [wA] at e6
  have e7 := Evp.of (holds_ev h.P g.t0 g.r0 g.x0 g.x2)
  obtain ⟨q, hq⟩ : ∃ q : Nat, (rd_T76 (prtT ch ls tk i) (j : Int)).f2 = (q : Int) := ⟨(rd_T76 (prtT ch ls tk i) (j : Int)).f2.toNat, by have := g.x0; omega⟩
  have hx1 := g.x1
  have hgx : GoodX n (rd_T33 (layOf ls i).f1 (rd_T76 (prtT ch ls tk i) (j : Int)).f2) := by
    rw [hq]
    exact (h.lay hi).2.2.2.2.2 _ (rdE_mem (by omega))
  have e8 := Evp.of (run_yes (a := (rd_T33 (layOf ls i).f1 (rd_T76 (prtT ch ls tk i) (j : Int)).f2).f0) (b := (rd_T33 (layOf ls i).f1 (rd_T76 (prtT ch ls tk i) (j : Int)).f2).f1) (v := rd_L1 (tokT ch ls tk i) (rd_T76 (prtT ch ls tk i) (j : Int)).f0) (by rw [hrl]; exact goodX_er ⟨hn1, hn8⟩ hgx))
  exact (e1.and (e2.and (e3.and (e4.and (e5.and ((Evp.of e6).and (e7.and e8))))))).mono (fun k ⟨a, b, c, d, f, w, o, r⟩ => ⟨a, b, c, ⟨_, _, d⟩, ⟨_, _, f⟩, w, o, r⟩)
theorem BatchOk.fresh (h : BatchOk ch n e ls tk hs) {i j : Nat} (hj : j < (prtT ch ls tk i).length) {L : Nat → List S167} (ho : (mapsR ch ls tk e hs).Old i j L) (t : Nat) : ¬ There (L t) 1 (i : Int) (rd_T76 (prtT ch ls tk i) (j : Int)).f0 (rd_T76 (prtT ch ls tk i) (j : Int)).f1 := by
  rintro ⟨x, hx, hk⟩
  obtain ⟨_, k1, k2, k3⟩ := keyB_iff.1 hk
  rcases (ho t).2 x hx with h1 | ⟨_, q, hq, h2, h3⟩
  · omega
  · have hp := (partsTo_keys (assignL ((layOf ls i).f1.length : Int) (layOf ls i).f2 (fun _ => 0) (wantL ch (layOf ls i).f0 (tokT ch ls tk i))) (wantL ch (layOf ls i).f0 (tokT ch ls tk i)) (chL ch (layOf ls i).f0 (tokT ch ls tk i)) (tokT ch ls tk i).length).2
    have hlt := List.pairwise_iff_getElem.1 hp q j (by have h_ : j < (prtT ch ls tk i).length := hj; exact Nat.lt_trans hq h_) hj hq
    have a1 : rd_T76 (prtT ch ls tk i) (q : Int) = (prtT ch ls tk i)[q]'(Nat.lt_trans hq hj) := rdP_at _
    have a2 : rd_T76 (prtT ch ls tk i) (j : Int) = (prtT ch ls tk i)[j]'hj := rdP_at _
    have h2' : x.f0.f2 = (rd_T76 (prtT ch ls tk i) (q : Int)).f0 := h2
    have h3' : x.f0.f3 = (rd_T76 (prtT ch ls tk i) (q : Int)).f1 := h3
    rw [a1] at h2' h3'
    rw [a2] at k2 k3
    have hlt' : keyP ((prtT ch ls tk i)[q]'(Nat.lt_trans hq hj)) < keyP ((prtT ch ls tk i)[j]'hj) := hlt
    unfold keyP at hlt'
    omega
theorem BatchOk.idx (h : BatchOk ch n e ls tk hs) {i j : Nat} (hj : j < (prtT ch ls tk i).length) : idxFrom90 (fun x => partB x (rd_T76 (prtT ch ls tk i) (j : Int)).f0 (rd_T76 (prtT ch ls tk i) (j : Int)).f1 (rd_T76 (prtT ch ls tk i) (j : Int)).f2) (prtT ch ls tk i) 0 = (j : Int) := by
  have a2 : rd_T76 (prtT ch ls tk i) (j : Int) = (prtT ch ls tk i)[j]'hj := rdP_at _
  rw [a2]
  have hp := (partsTo_keys (assignL ((layOf ls i).f1.length : Int) (layOf ls i).f2 (fun _ => 0) (wantL ch (layOf ls i).f0 (tokT ch ls tk i))) (wantL ch (layOf ls i).f0 (tokT ch ls tk i)) (chL ch (layOf ls i).f0 (tokT ch ls tk i)) (tokT ch ls tk i).length).2
  have e := idx_at (fun x => partB x ((prtT ch ls tk i)[j]'hj).f0 ((prtT ch ls tk i)[j]'hj).f1 ((prtT ch ls tk i)[j]'hj).f2) (prtT ch ls tk i) 0 j hj (partB_iff.2 ⟨rfl, rfl, rfl⟩) (fun q hq => by
    have hlt' : keyP ((prtT ch ls tk i)[q]'(Nat.lt_trans hq hj)) < keyP ((prtT ch ls tk i)[j]'hj) := List.pairwise_iff_getElem.1 hp q j (Nat.lt_trans hq hj) hj hq
    refine Bool.eq_false_iff.mpr (fun hb => ?_)
    obtain ⟨b1, b2, _⟩ := partB_iff.1 hb
    unfold keyP at hlt'
    omega)
  rw [e, Nat.zero_add]
theorem cloneT {l : List (List Int)} (h : l.length ≤ 1000) : slices_Clone_int_int_53.f l = some l := by
  unfold slices_Clone_int_int_53.f
  simp only [Option.bind_some, List.length_nil, Nat.zero_add, List.nil_append]
  rw [if_pos (by omega)]
theorem combV_take (E : List S33) (T : List (List Int)) (P : List S76) {j : Nat} (h : j < P.length) : combV E T (P.take (j + 1)) T = (combV E T (P.take j) T).set P[j].f0.toNat (addV (rd_L1 (combV E T (P.take j) T) P[j].f0) (scaleV (ansP E T P[j]) P[j].f3)) := by
  rw [List.take_succ_eq_append_getElem h, combV_append]
  rfl
theorem comb_s {n : Int} (hn : n ≤ 8) (E : List S33) (hE : ∀ y ∈ E, GoodX n y) (T : List (List Int)) (hT : GoodT n T) (P : List S76) (hP : P.length ≤ 1000) (hp : ∀ p ∈ P, PartOk (T.length : Int) (E.length : Int) p) : CombS T P (P.map (ansP E T)) (fun j => combV E T (P.take j) T) := by
  have h2 := hT.2.1
  refine ⟨hP, by rw [List.length_map]; exact Nat.le_refl _, ?_, fun j _ => combV_length _ _ _ _, fun j hj => ?_, fun j hj => ?_⟩
  · show slices_Clone_int_int_53.f T = some T
    exact cloneT (by omega)
  · rw [rdP_at hj]
    exact ⟨(hp _ (List.getElem_mem hj)).1, (hp _ (List.getElem_mem hj)).2.1⟩
  · obtain ⟨h1, h2, h3, h4⟩ := hp _ (List.getElem_mem hj)
    have hal := ansP_length hE T h3 h4
    have hg : (combV E T (P.take j) T).any (rowWrong n) = false := combV_good T _ T (fun p hp' => ⟨(hp p (List.mem_of_mem_take hp')).1, (hp p (List.mem_of_mem_take hp')).2.1⟩) hT.2.2
    have hol := combV_length E T (P.take j) T
    have hrl : ((rd_L1 (combV E T (P.take j) T) P[j].f0).length : Int) = n := by
      obtain ⟨q, hq⟩ : ∃ q : Nat, P[j].f0 = (q : Int) := ⟨P[j].f0.toNat, by omega⟩
      rw [hq]
      exact rows_length hg _ (rdL_mem (by omega))
    rw [rdA_get E T P hj, rdP_at hj]
    have h9 : (scaleV (ansP E T P[j]) P[j].f3).length = (ansP E T P[j]).length := scaleV_length _ _
    exact ⟨scaleV (ansP E T P[j]) P[j].f3, addV (rd_L1 (combV E T (P.take j) T) P[j].f0) (scaleV (ansP E T P[j]) P[j].f3), scale_f _ (by omega), add_yes (by omega) (by omega), combV_take E T P hj⟩
theorem BatchOk.run (h : BatchOk ch n e ls tk hs) : ∃ k, EndsH (mapsR ch ls tk e hs) k n e hs ls tk := by
  obtain ⟨hn1, hn8, hl1, hl4, hY⟩ := h.M
  have hP32 : ∀ i, (prtT ch ls tk i).length ≤ 32 := fun i => by
    have h1 := partsV_length ch (layOf ls i).f0 ((layOf ls i).f1.length : Int) (layOf ls i).f2 (tokT ch ls tk i)
    have h2 := (h.tok i).2.1
    have h3 : (prtT ch ls tk i).length ≤ 2 * (tokT ch ls tk i).length := h1
    omega
  have e1 := cont_all
  have e2 : Evp (fun k => ∀ i, i < ls.length → model_Parts.f k (layOf ls i).f0 (layOf ls i).f1 (layOf ls i).f2 (tokT ch ls tk i) = some (prtT ch ls tk i)) := Evp.all (fun i hi => Evp.of (parts_ev h.ch (layOf ls i).f0 (layOf ls i).f1 (layOf ls i).f2 (tokT ch ls tk i) (by have := (h.tok i).2.1; omega) (by have := (h.lay hi).2.1; omega) (good_can ⟨hn1, hn8⟩ (h.lay hi) (h.tok i))))
  have e4 : Evp (fun k => ∀ i, i < ls.length → ∀ j, j < (prtT ch ls tk i).length → PartE ch n e ls tk hs i j k) := Evp.all (fun i hi => Evp.all (fun j hj => h.partE hi hj))
  obtain ⟨K, hK⟩ := e1.and (e2.and (e4.and (Evp.of h.P.ev)))
  obtain ⟨k1, k2, k4, k5⟩ := hK K (Nat.le_refl _)
  refine ⟨K, ⟨⟨⟨k1, fun i _ => hP32 i, k2, fun i hi L => ⟨?_, ?_, ?_, ?_, fun j hj => ?_⟩, fun i hi => ?_⟩, by omega, fun i j hi hj => ?_, fun i j hi hj => (k4 i hi j hj).takeA, fun i j hi hj => (k4 i hi j hj).takeB, fun i j hi hj L t ho => ?_, fun i j hi hj => (k4 i hi j hj).putB, fun i j hi hj => h.idx hj, fun i j hi hj => (h.part hi hj).al.symm⟩, rfl, by omega, ?_, ?_, k5, h.fit, ?_, ?_⟩⟩
  · exact Nat.le_trans (hP32 i) (by decide)
  · have := hP32 i
    show 0 + (prtT ch ls tk i).length ≤ 200
    omega
  · have := (h.tok i).2.1
    show (tokT ch ls tk i).length ≤ 60
    omega
  · show (List.replicate (prtT ch ls tk i).length false).length = (prtT ch ls tk i).length
    rw [List.length_replicate]
  · have hj' : j < (prtT ch ls tk i).length := hj
    have g := h.part hi hj'
    have q := k4 i hi j hj'
    refine ⟨g.t0, g.t1, g.r0, g.r1, ?_, q.pick, q.putA⟩
    show rdOf false (List.replicate (prtT ch ls tk i).length false) (j : Int) = false
    unfold rdOf
    rw [Int.toNat_natCast, List.getD_eq_getElem?_getD, List.getElem?_replicate, if_pos hj']
    rfl
  · have e5 : (List.range (prtT ch ls tk i).length).map (ansT ch ls tk i) = (prtT ch ls tk i).map (ansP (layOf ls i).f1 (tokT ch ls tk i)) := map_rd (prtT ch ls tk i) (ansP (layOf ls i).f1 (tokT ch ls tk i))
    have e6 := comb_s hn8 (layOf ls i).f1 (h.lay hi).2.2.2.2.2 (tokT ch ls tk i) (h.tok i) (prtT ch ls tk i) (by have := hP32 i; omega) (partsV_ok ch _ _ _ _)
    refine ⟨fun j => combV (layOf ls i).f1 (tokT ch ls tk i) ((prtT ch ls tk i).take j) (tokT ch ls tk i), ?_, ?_⟩
    · show CombS (tokT ch ls tk i) (prtT ch ls tk i) ((List.range (prtT ch ls tk i).length).map (ansT ch ls tk i)) _
      rw [e5]
      exact e6
    · show combV (layOf ls i).f1 (tokT ch ls tk i) ((prtT ch ls tk i).take (prtT ch ls tk i).length) (tokT ch ls tk i) = tokT ch ls tk (i + 1)
      rw [tokT_succ ch tk hi, List.take_length]
      rfl
  · have g := h.part hi hj
    obtain ⟨d1, d4, _⟩ := dst_range h.P g.t0 g.r0 g.x0 g.x2
    exact ⟨(dstOf hs (rd_T76 (prtT ch ls tk i) (j : Int))).toNat, (show dstOf hs (rd_T76 (prtT ch ls tk i) (j : Int)) = _ by omega), by omega, by omega⟩
  · have hj' : j < (prtT ch ls tk i).length := hj
    have g := h.part hi hj'
    have q := k4 i hi j hj'
    have hfr := h.fresh hj' ho t
    have hal := g.al
    have hlen := (ho t).1
    have h32 := hP32 i
    refine ⟨⟨?_, k5, q.wire, Int.natCast_nonneg _, by omega, g.x0, g.x1, ?_⟩, q.holds, find_not hfr, q.run, enter_not hfr (by omega) (show (ansP (layOf ls i).f1 (tokT ch ls tk i) (rd_T76 (prtT ch ls tk i) (j : Int))).length ≤ 1000 by omega)⟩
    · unfold model_Right.f
      rw [modelOk_good h.M]
    · unfold model_Tokens.f
      rw [tokOk_good ⟨by simp, by simp, by rw [List.any_cons, List.any_nil, Bool.or_false]; exact g.rowW⟩]
  · unfold model_Right.f
    rw [modelOk_good h.M]
  · unfold model_Tokens.f
    rw [tokOk_good h.T]
  · exact cloneT (by have := h.T.2.1; omega)
  · exact cloneT (by have h9 := (h.tok ls.length).2.1; show (tokT ch ls tk ls.length).length ≤ 1000; omega)
/-- At the end the tokens are what the model makes of them. -/
theorem mapsR_end : (mapsR ch ls tk e hs).T ls.length = fwdV ch ls tk := by
  show fwdV ch (ls.take ls.length) tk = _
  rw [List.take_length]
end

/-! ### A map: both say the same -/
theorem pl_l1 (H : List (List Int)) (e : Int) (i : Nat) (hi : i < H.length) (hH : H.length ≤ 1000) (x : List Int) (hx : x.length ≤ 1000) (h0 : 0 < x.length) {chk : Prop}
    (hr : ∃ b, Ev (fun k => place_Right.l0 k H (H.length : Int) ((i + 1 : Nat) : Int) e H) b ∧ (b = true → chk) ∧ (chk → Ev (fun k => switchboardref17_Right.l0 k ((i + 1 : Nat) : Int) e H) b)) : ∀ (d j : Nat) (last : Int), j + d = x.length → (j = 0 → last = 0) → (0 < j → last = rd x ((j - 1 : Nat) : Int) ∧ 1 ≤ last) →
    ∃ b, Ev (fun k => place_Right.l1 k x last H (H.length : Int) (i : Int) x (x.length : Int) (j : Int) e H) b ∧ (b = true → chk) ∧ (chk → Ev (fun k => switchboardref17_Right.l1 k (i : Int) x (j : Int) e H) b) := by
  have hwi : wrap64 ((i : Int) + 1) = ((i + 1 : Nat) : Int) := by rw [wrap_small (by omega) (by omega)]; omega
  intro d
  induction d with
  | zero =>
    intro j last hj h1 h2
    obtain ⟨b, hb, hc, hq⟩ := hr
    refine ⟨b, ?_, hc, fun h => ?_⟩
    · refine ev_shift ?_
      simp only [place_Right.l1, if_neg (show ¬ (j : Int) < (x.length : Int) by omega), if_neg (show ¬ (x.length : Int) = 0 by omega), hwi]
      exact hb
    · refine ev_shift ?_
      simp only [switchboardref17_Right.l1, if_neg (show ¬ (j : Int) < (x.length : Int) by omega), hwi]
      exact hq h
  | succ d ih =>
    intro j last hj h1 h2
    have hw : wrap64 ((j : Int) + 1) = ((j + 1 : Nat) : Int) := by rw [wrap_small (by omega) (by omega)]; omega
    have hjl : (j : Int) < (x.length : Int) := by omega
    have hj0 : (0 : Int) ≤ (j : Int) := by omega
    have hl0 : 0 ≤ last := by
      rcases Nat.eq_zero_or_pos j with h | h
      · rw [h1 h]; decide
      · have := (h2 h).2; omega
    by_cases g1 : rd x (j : Int) ≤ last
    · refine ⟨false, ?_, by simp, fun _ => ?_⟩
      · refine ev_shift ?_
        simp only [place_Right.l1, if_pos hjl, if_pos hj0, if_pos g1]
        exact Ev.now _
      · refine ev_shift ?_
        by_cases g0 : rd x (j : Int) < 1
        · simp only [switchboardref17_Right.l1, if_pos hjl, if_pos hj0, if_pos g0]
          exact Ev.now _
        · by_cases g4 : rd x (j : Int) > 4
          · simp only [switchboardref17_Right.l1, if_pos hjl, if_pos hj0, if_neg g0, if_pos g4]
            exact Ev.now _
          · have hjp : 0 < j := Nat.pos_of_ne_zero (fun hz => by have := h1 hz; omega)
            have hwm : wrap64 ((j : Int) - 1) = ((j - 1 : Nat) : Int) := by rw [wrap_small (by omega) (by omega)]; omega
            have g5 : rd x (j : Int) ≤ rd x ((j - 1 : Nat) : Int) := by rw [← (h2 hjp).1]; exact g1
            simp only [switchboardref17_Right.l1, if_pos hjl, if_pos hj0, if_neg g0, if_neg g4, if_pos (show (j : Int) > 0 by omega), hwm, if_pos (show (0 : Int) ≤ ((j - 1 : Nat) : Int) by omega), if_pos (show ((j - 1 : Nat) : Int) < (x.length : Int) by omega), if_pos g5]
            exact Ev.now _
    · have g0 : ¬ rd x (j : Int) < 1 := by omega
      by_cases g4 : rd x (j : Int) > 4
      · refine ⟨false, ?_, by simp, fun _ => ?_⟩
        · refine ev_shift ?_
          simp only [place_Right.l1, if_pos hjl, if_pos hj0, if_neg g1, if_pos g4]
          exact Ev.now _
        · refine ev_shift ?_
          simp only [switchboardref17_Right.l1, if_pos hjl, if_pos hj0, if_neg g0, if_pos g4]
          exact Ev.now _
      · obtain ⟨b, hb, hc, hq⟩ := ih (j + 1) (rd x (j : Int)) (by omega) (by omega) (fun _ => ⟨by rw [Nat.add_sub_cancel], by omega⟩)
        refine ⟨b, ?_, hc, fun h => ?_⟩
        · refine ev_shift ?_
          simp only [place_Right.l1, if_pos hjl, if_pos hj0, if_neg g1, if_neg g4, hw]
          exact hb
        · refine ev_shift ?_
          by_cases hjp : 0 < j
          · have hwm : wrap64 ((j : Int) - 1) = ((j - 1 : Nat) : Int) := by rw [wrap_small (by omega) (by omega)]; omega
            have g5 : ¬ rd x (j : Int) ≤ rd x ((j - 1 : Nat) : Int) := by rw [← (h2 hjp).1]; exact g1
            simp only [switchboardref17_Right.l1, if_pos hjl, if_pos hj0, if_neg g0, if_neg g4, if_pos (show (j : Int) > 0 by omega), hwm, if_pos (show (0 : Int) ≤ ((j - 1 : Nat) : Int) by omega), if_pos (show ((j - 1 : Nat) : Int) < (x.length : Int) by omega), if_neg g5, hw]
            exact hq h
          · simp only [switchboardref17_Right.l1, if_pos hjl, if_pos hj0, if_neg g0, if_neg g4, if_neg (show ¬ (j : Int) > 0 by omega), hw]
            exact hq h
theorem pl_l0 (H : List (List Int)) (e : Int) (hH : H.length ≤ 1000) (hx : ∀ x ∈ H, x.length ≤ 1000) : ∀ (d i : Nat), i + d = H.length → ∃ b, Ev (fun k => place_Right.l0 k H (H.length : Int) (i : Int) e H) b ∧ (b = true → (0 ≤ e ∧ e ≤ 2147483647 ∧ (H.length : Int) ≤ 8)) ∧ ((0 ≤ e ∧ e ≤ 2147483647 ∧ (H.length : Int) ≤ 8) → Ev (fun k => switchboardref17_Right.l0 k (i : Int) e H) b) := by
  intro d
  induction d with
  | zero =>
    intro i hi
    by_cases h1 : e ≥ 0
    · by_cases h2 : e ≤ 2147483647
      · refine ⟨decide ((H.length : Int) ≤ 8), ev_shift ?_, fun h => ⟨h1, h2, of_decide_eq_true h⟩, fun h => ev_shift ?_⟩
        · simp only [place_Right.l0, if_neg (show ¬ (i : Int) < (H.length : Int) by omega), if_pos h1, if_pos h2]
          exact Ev.now _
        · simp only [switchboardref17_Right.l0, if_neg (show ¬ (i : Int) < (H.length : Int) by omega), decide_eq_true h.2.2]
          exact Ev.now _
      · refine ⟨false, ev_shift ?_, by simp, fun h => absurd h.2.1 h2⟩
        simp only [place_Right.l0, if_neg (show ¬ (i : Int) < (H.length : Int) by omega), if_pos h1, if_neg h2]
        exact Ev.now _
    · refine ⟨false, ev_shift ?_, by simp, fun h => absurd h.1 h1⟩
      simp only [place_Right.l0, if_neg (show ¬ (i : Int) < (H.length : Int) by omega), if_neg h1]
      exact Ev.now _
  | succ d ih =>
    intro i hi
    have hlt : i < H.length := by omega
    have hi0 : (0 : Int) ≤ (i : Int) := by omega
    have hil : (i : Int) < (H.length : Int) := by omega
    by_cases he : (rd_L1 H (i : Int)).length = 0
    · refine ⟨false, ev_shift ?_, by simp, fun _ => ev_shift ?_⟩
      · simp only [place_Right.l0, if_pos hil, if_pos hi0]
        refine ev_shift ?_
        simp only [place_Right.l1, he, if_neg (show ¬ (0 : Int) < ((0 : Nat) : Int) by omega), if_pos (show ((0 : Nat) : Int) = 0 from rfl)]
        exact Ev.now _
      · simp only [switchboardref17_Right.l0, if_pos hil, if_pos hi0, he, if_pos (show ((0 : Nat) : Int) = 0 from rfl)]
        exact Ev.now _
    · obtain ⟨b, hb, hc, hq⟩ := pl_l1 H e i hlt hH (rd_L1 H (i : Int)) (hx _ (rdL_mem hlt)) (by omega) (ih (i + 1) (by omega)) (rd_L1 H (i : Int)).length 0 0 (by omega) (fun _ => rfl) (by omega)
      refine ⟨b, ev_shift ?_, hc, fun h => ev_shift ?_⟩
      · simp only [place_Right.l0, if_pos hil, if_pos hi0]
        exact hb
      · simp only [switchboardref17_Right.l0, if_pos hil, if_pos hi0, if_neg (show ¬ ((rd_L1 H (i : Int)).length : Int) = 0 by omega)]
        exact hq h
theorem place_is (e : Int) {H : List (List Int)} (hF : Few H) : ∃ b, Ev (fun k => place_Right.f k e H) b ∧ Ev (fun k => switchboardref17_Right.f k e H) b := by
  obtain ⟨b, hb, hc, hq⟩ := pl_l0 H e (by have := hF.1; omega) (fun x hx => by have := hF.2 x hx; omega) H.length 0 (by omega)
  refine ⟨b, hb, ?_⟩
  have no : ∀ (h : ¬ (0 ≤ e ∧ e ≤ 2147483647 ∧ (H.length : Int) ≤ 8)), b = false := fun h => by
    cases hb' : b with
    | false => rfl
    | true => exact absurd (hc hb') h
  unfold switchboardref17_Right.f
  by_cases h1 : e < 0
  · rw [no (by omega)]
    simp only [if_pos h1]
    refine ev_shift ?_
    simp only [switchboardref17_Right.j0, if_true]
    exact Ev.now _
  · by_cases h2 : e > 2147483647
    · rw [no (by omega)]
      simp only [if_neg h1, if_pos h2]
      refine ev_shift ?_
      simp only [switchboardref17_Right.j0, if_true]
      exact Ev.now _
    · by_cases h3 : (H.length : Int) > 8
      · rw [no (by omega)]
        simp only [if_neg h1, if_neg h2, decide_eq_true h3]
        refine ev_shift ?_
        simp only [switchboardref17_Right.j0, if_true]
        exact Ev.now _
      · simp only [if_neg h1, if_neg h2, decide_eq_false h3]
        refine ev_shift ?_
        simp only [switchboardref17_Right.j0, if_neg (show ¬ (false = true) by decide)]
        exact hq ⟨by omega, by omega, by omega⟩
theorem all31 {ls : List S31} {p : S31 → Prop} (h : ∀ q : Nat, q < ls.length → p (rd_T31 ls (q : Int))) : ∀ x ∈ ls, p x := fun x hx => by
  obtain ⟨q, hq, rfl⟩ := List.getElem_of_mem hx
  have := h q hq
  rwa [rdY_get hq] at this
theorem all33 {l : List S33} {p : S33 → Prop} (h : ∀ q : Nat, q < l.length → p (rd_T33 l (q : Int))) : ∀ x ∈ l, p x := fun x hx => by
  obtain ⟨q, hq, rfl⟩ := List.getElem_of_mem hx
  have := h q hq
  rwa [rdE_get hq] at this
theorem more_q {p : Nat → Prop} {i : Nat} (h : ∀ q, q < i → p q) (hi : p i) : ∀ q, q < i + 1 → p q := fun q hq => by
  by_cases e : q = i
  · rw [e]; exact hi
  · exact h q (by omega)
set_option maxHeartbeats 8000000 in
set_option maxRecDepth 100000 in
theorem switchboardref15_Small.told (n : Int) (A0 : Option Addr) (c0 : Nat) (ls : List S31) (w : World) (hr : Kd.C k31 w A0 ls.length ls) :
    Calls Try.prog 5 #[.agg #[.int .i64 n, (.slice A0 ls.length c0)]] w fun e w' => ∃ b, e = .returned (.bool b) ∧ (b = true → FewM ls) ∧ Below w.heap.size w w' := by
  have hu24 := Try.underlying24
  have hu31 := Try.underlying31
  have hu33 := Try.underlying33
  have HR := Aside0.mk hr
  clear hr
  have HB1 : Aside0 (Below w.heap.size w (w.alloc (.cells #[.int .i64 n, (.slice A0 ls.length c0)] 24))) := ⟨below_alloc (Below.refl _ _) _⟩
  have HX1 : Aside0 ((w.alloc (.cells #[.int .i64 n, (.slice A0 ls.length c0)] 24)).heap[w.heap.size]? = some (.cells #[.int .i64 n, (.slice A0 ls.length c0)] 24 (0, 0))) := ⟨heap_alloc_new _ _⟩
  go_enter Try.func5, Try.ntmps5
  go_upto_region 1 with (fail)
  generalize w.alloc (.cells #[.int .i64 n, (.slice A0 ls.length c0)] 24) = w1 at HB1 HX1 ⊢
  have m1 := (blk_cell HX1.out 1).trans rfl
  by_cases h5 : ls.length ≤ 5
  · have c5 : decide ((5 : Int) < (ls.length : Int)) = false := decide_eq_false (by omega)
    have c5n : decide (5 < ls.length) = false := decide_eq_false (by omega)
    go_wp2
    clear m1 HX1
    go_loopw [14] (fun v14 w' => ∃ i : Nat, Aside0 (i ≤ ls.length) ∧ v14 = .int .i64 (i : Int) ∧ Aside0 (Below w.heap.size w w') ∧ Aside0 (∀ q : Nat, q < i → FewY (rd_T31 ls (q : Int)))) (fun v14 _ => ls.length - (intOf v14).toNat)
    case atStart => exact ⟨0, ⟨Nat.zero_le _⟩, rfl, HB1, ⟨fun q hq => absurd hq (Nat.not_lt_zero _)⟩⟩
    case round =>
      clear HB1
      obtain ⟨i, HI, rfl, HB, HQ⟩ := hrel
      by_cases hlt : i < ls.length
      · have hc : decide (i < ls.length) = true := decide_eq_true hlt
        have HLT := Aside0.mk hlt
        obtain ⟨al, Ag, cg, Ax, cx, hA, hl0, hl1, hl2, hgc, hG, hxc, hX⟩ := at_T31 (xs := ls) (n := ls.length) (Kd.C_below HR.out HB.out) (i : Int) (Int.natCast_nonneg _) (Int.ofNat_lt.2 hlt)
        cases hA
        rw [Int.toNat_natCast] at hl0 hl1 hl2
        have HG := Aside0.mk hG
        have HXX := Aside0.mk hX
        clear hG hX
        go_upto_region 6 with (fail)
        clear hl0 hl1 hl2 hlt hc
        have hb := below_alloc (Below.refl wr.heap.size wr) (.cells #[.slice Ag (rd_T31 ls (i : Int)).f0.length cg, .slice Ax (rd_T31 ls (i : Int)).f1.length cx, .int .i64 (rd_T31 ls (i : Int)).f2] 31)
        have HB1 := Aside0.mk (below_step HB.out hb)
        have HK1 : Aside0 ((wr.alloc (.cells #[.slice Ag (rd_T31 ls (i : Int)).f0.length cg, .slice Ax (rd_T31 ls (i : Int)).f1.length cx, .int .i64 (rd_T31 ls (i : Int)).f2] 31)).heap[wr.heap.size]? = some (.cells #[.slice Ag (rd_T31 ls (i : Int)).f0.length cg, .slice Ax (rd_T31 ls (i : Int)).f1.length cx, .int .i64 (rd_T31 ls (i : Int)).f2] 31 (0, 0))) := ⟨heap_alloc_new _ _⟩
        have HG1 := Aside0.mk (Kd.C_below HG.out hb)
        have HX1 := Aside0.mk (Kd.C_below HXX.out hb)
        clear hb HG HXX HB
        generalize wr.alloc (.cells #[.slice Ag (rd_T31 ls (i : Int)).f0.length cg, .slice Ax (rd_T31 ls (i : Int)).f1.length cx, .int .i64 (rd_T31 ls (i : Int)).f2] 31) = w4 at HB1 HK1 HG1 HX1 ⊢
        generalize wr.heap.size = gl at HK1 ⊢
        have k0 := (blk_cell HK1.out 0).trans rfl
        have k1 := (blk_cell HK1.out 1).trans rfl
        by_cases h9 : (rd_T31 ls (i : Int)).f1.length ≤ 9
        · have c9 : decide ((9 : Int) < ((rd_T31 ls (i : Int)).f1.length : Int)) = false := decide_eq_false (by omega)
          have c9n : decide (9 < (rd_T31 ls (i : Int)).f1.length) = false := decide_eq_false (by omega)
          obtain ⟨b1, e1, q1⟩ := small_ev (rd_T31 ls (i : Int)).f0
          obtain ⟨k1_, e1⟩ := e1.rounds
          have S_k1_ := Aside0.mk e1
          clear e1
          cases b1
          case false =>
            go_wp2_with ((go_at_call 6; (with_reducible refine (switchboardref03_Small.calls k1_ Ag cg (rd_T31 ls (i : Int)).f0 false w4 HG1.out hgc S_k1_.out).mono ?_); rintro e_ w5 ⟨rfl, hd⟩; have HB2 := Aside0.mk (below_step HB1.out hd.below); clear k0 k1; clear hd))
            go_ret
            exact ⟨false, rfl, (fun h_ => absurd h_ (by decide)), HB2.out⟩
          case true =>
            have Q1 := Aside0.mk (q1 rfl)
            clear q1
            go_wp2_with (go_at_call 6; (with_reducible refine (switchboardref03_Small.calls k1_ Ag cg (rd_T31 ls (i : Int)).f0 true w4 HG1.out hgc S_k1_.out).mono ?_); rintro e_ w5 ⟨rfl, hd⟩; have HB2 := Aside0.mk (below_step HB1.out hd.below); have HK2 := Aside0.mk (blk_below HK1.out hd.below); have HX2 := Aside0.mk (Kd.C_below HX1.out hd.below); clear k0 k1; have k1 := (blk_cell HK2.out 1).trans rfl; clear hd)
            clear k1 HB1 HK1 HG1 HX1 HK2
            go_loopw [31] (fun v31 w' => ∃ j : Nat, Aside0 (j ≤ (rd_T31 ls (i : Int)).f1.length) ∧ v31 = .int .i64 (j : Int) ∧ Aside0 (Below w5.heap.size w5 w') ∧ Aside0 (∀ q : Nat, q < j → FewX (rd_T33 (rd_T31 ls (i : Int)).f1 (q : Int)))) (fun v31 _ => (rd_T31 ls (i : Int)).f1.length - (intOf v31).toNat)
            case atStart => exact ⟨0, ⟨Nat.zero_le _⟩, rfl, ⟨Below.refl _ _⟩, ⟨fun q hq => absurd hq (Nat.not_lt_zero _)⟩⟩
            case round =>
              obtain ⟨j, HJ, rfl, HB3, HQ3⟩ := hrel
              by_cases hltj : j < (rd_T31 ls (i : Int)).f1.length
              · have hcj : decide (j < (rd_T31 ls (i : Int)).f1.length) = true := decide_eq_true hltj
                have HLJ := Aside0.mk hltj
                obtain ⟨ae, Ai, ci, Ao, co, hA, he0, he1, hic, hI, hoc, hO⟩ := at_T33 (xs := (rd_T31 ls (i : Int)).f1) (n := (rd_T31 ls (i : Int)).f1.length) (Kd.C_below HX2.out HB3.out) (j : Int) (Int.natCast_nonneg _) (Int.ofNat_lt.2 hltj)
                cases hA
                rw [Int.toNat_natCast] at he0 he1
                have HI4 := Aside0.mk hI
                have HO4 := Aside0.mk hO
                clear hI hO
                go_upto_region 11 with (fail)
                clear he0 he1 hltj hcj
                have hb := below_alloc (Below.refl wr.heap.size wr) (.cells #[.slice Ai (rd_T33 (rd_T31 ls (i : Int)).f1 (j : Int)).f0.length ci, .slice Ao (rd_T33 (rd_T31 ls (i : Int)).f1 (j : Int)).f1.length co] 33)
                have HB4 := Aside0.mk (below_step HB3.out hb)
                have HE4 : Aside0 ((wr.alloc (.cells #[.slice Ai (rd_T33 (rd_T31 ls (i : Int)).f1 (j : Int)).f0.length ci, .slice Ao (rd_T33 (rd_T31 ls (i : Int)).f1 (j : Int)).f1.length co] 33)).heap[wr.heap.size]? = some (.cells #[.slice Ai (rd_T33 (rd_T31 ls (i : Int)).f1 (j : Int)).f0.length ci, .slice Ao (rd_T33 (rd_T31 ls (i : Int)).f1 (j : Int)).f1.length co] 33 (0, 0))) := ⟨heap_alloc_new _ _⟩
                have HI5 := Aside0.mk (Kd.C_below HI4.out hb)
                have HO5 := Aside0.mk (Kd.C_below HO4.out hb)
                clear hb HI4 HO4 HB3
                generalize wr.alloc (.cells #[.slice Ai (rd_T33 (rd_T31 ls (i : Int)).f1 (j : Int)).f0.length ci, .slice Ao (rd_T33 (rd_T31 ls (i : Int)).f1 (j : Int)).f1.length co] 33) = w6 at HB4 HE4 HI5 HO5 ⊢
                generalize wr.heap.size = ge at HE4 ⊢
                have f0 := (blk_cell HE4.out 0).trans rfl
                have f1 := (blk_cell HE4.out 1).trans rfl
                obtain ⟨b2, e2, q2⟩ := small_ev (rd_T33 (rd_T31 ls (i : Int)).f1 (j : Int)).f0
                obtain ⟨k2_, e2⟩ := e2.rounds
                have S_k2_ := Aside0.mk e2
                clear e2
                obtain ⟨b3, e3, q3⟩ := small_ev (rd_T33 (rd_T31 ls (i : Int)).f1 (j : Int)).f1
                obtain ⟨k3_, e3⟩ := e3.rounds
                have S_k3_ := Aside0.mk e3
                clear e3
                cases b2
                case false =>
                  clear q2 q3
                  go_wp2_with (first | (go_at_call 6; (with_reducible refine (switchboardref03_Small.calls k2_ Ai ci (rd_T33 (rd_T31 ls (i : Int)).f1 (j : Int)).f0 false w6 HI5.out hic S_k2_.out).mono ?_); rintro e_ w7 ⟨rfl, hd⟩; have HBZ := Aside0.mk (below_step HB4.out hd.below); clear f0 f1; clear hd))
                  go_ret
                  exact ⟨false, rfl, (fun h_ => absurd h_ (by decide)), below_step HB2.out HBZ.out⟩
                case true =>
                  have Q2 := Aside0.mk (q2 rfl)
                  clear q2
                  cases b3
                  case false =>
                    clear q3
                    go_wp2_with (first | (go_at_call 6; (with_reducible refine (switchboardref03_Small.calls k2_ Ai ci (rd_T33 (rd_T31 ls (i : Int)).f1 (j : Int)).f0 true w6 HI5.out hic S_k2_.out).mono ?_); rintro e_ w7 ⟨rfl, hd⟩; have HB7 := Aside0.mk (below_step HB4.out hd.below); clear f0 f1; have HO7 := Aside0.mk (Kd.C_below HO5.out hd.below); have f1 := (blk_cell (blk_below HE4.out hd.below) 1).trans rfl; clear hd) | (go_at_call 6; (with_reducible refine (switchboardref03_Small.calls k3_ Ao co (rd_T33 (rd_T31 ls (i : Int)).f1 (j : Int)).f1 false w7 HO7.out hoc S_k3_.out).mono ?_); rintro e_ w8 ⟨rfl, hd⟩; have HBZ := Aside0.mk (below_step HB7.out hd.below); clear f1; clear hd))
                    go_ret
                    exact ⟨false, rfl, (fun h_ => absurd h_ (by decide)), below_step HB2.out HBZ.out⟩
                  case true =>
                    have Q3 := Aside0.mk (q3 rfl)
                    clear q3
                    have hltj := HLJ.out
                    have hmj : (rd_T31 ls (i : Int)).f1.length ≤ 9223372036854775807 := by omega
                    go_wp2_with (first | (go_at_call 6; (with_reducible refine (switchboardref03_Small.calls k2_ Ai ci (rd_T33 (rd_T31 ls (i : Int)).f1 (j : Int)).f0 true w6 HI5.out hic S_k2_.out).mono ?_); rintro e_ w7 ⟨rfl, hd⟩; have HB7 := Aside0.mk (below_step HB4.out hd.below); clear f0 f1; have HO7 := Aside0.mk (Kd.C_below HO5.out hd.below); have f1 := (blk_cell (blk_below HE4.out hd.below) 1).trans rfl; clear hd) | (go_at_call 6; (with_reducible refine (switchboardref03_Small.calls k3_ Ao co (rd_T33 (rd_T31 ls (i : Int)).f1 (j : Int)).f1 true w7 HO7.out hoc S_k3_.out).mono ?_); rintro e_ w8 ⟨rfl, hd⟩; have HBZ := Aside0.mk (below_step HB7.out hd.below); clear f1; clear hd))
                    go_roundw
                    case rel => exact ⟨j + 1, ⟨HLJ.out⟩, by go_num, HBZ, ⟨more_q HQ3.out ⟨Q2.out, Q3.out⟩⟩⟩
                    case measure => simp [intOf]; omega
              · have hcj : decide (j < (rd_T31 ls (i : Int)).f1.length) = false := decide_eq_false hltj
                have HF3 := Aside0.mk (fun q (hq : q < (rd_T31 ls (i : Int)).f1.length) => HQ3.out q (by omega))
                have H9 := Aside0.mk h9
                have hlt := HLT.out
                have hmax : ls.length ≤ 9223372036854775807 := by omega
                go_wp2
                go_roundw
                case rel => exact ⟨i + 1, ⟨HLT.out⟩, by go_num, ⟨below_step HB2.out HB3.out⟩, ⟨more_q HQ.out ⟨H9.out, Q1.out, all33 HF3.out⟩⟩⟩
                case measure => simp [intOf]; omega
        · have c9 : decide ((9 : Int) < ((rd_T31 ls (i : Int)).f1.length : Int)) = true := decide_eq_true (by omega)
          have c9n : decide (9 < (rd_T31 ls (i : Int)).f1.length) = true := decide_eq_true (by omega)
          go_wp2
          go_ret
          exact ⟨false, rfl, (fun h_ => absurd h_ (by decide)), HB1.out⟩
      · have hc : decide (i < ls.length) = false := decide_eq_false hlt
        have hi : i = ls.length := by have := HI.out; omega
        have HQ' := Aside0.mk (fun q (hq : q < ls.length) => HQ.out q (by omega))
        have H5 := Aside0.mk h5
        clear hi HQ h5
        go_wp2
        go_ret
        exact ⟨true, rfl, fun _ => ⟨H5.out, all31 HQ'.out⟩, HB.out⟩
  · have c5 : decide ((5 : Int) < (ls.length : Int)) = true := decide_eq_true (by omega)
    have c5n : decide (5 < ls.length) = true := decide_eq_true (by omega)
    go_wp2
    go_ret
    exact ⟨false, rfl, (fun h_ => absurd h_ (by decide)), HB1.out⟩
/-- It answers yes or no; yes: then P holds. -/
def Says (P : Prop) (e : Ending) : Prop := ∃ b, e = .returned (.bool b) ∧ (b = true → P)
theorem Says.no {P : Prop} : Says P (.returned (.bool false)) := ⟨false, rfl, (fun h_ => absurd h_ (by decide))⟩
theorem Says.yes {P : Prop} (h : P) : Says P (.returned (.bool true)) := ⟨true, rfl, fun _ => h⟩
set_option maxHeartbeats 8000000 in
set_option maxRecDepth 100000 in
theorem switchboardref15_Right.told (n : Int) (A0 : Option Addr) (c0 : Nat) (ls : List S31) (w : World) (hr : Kd.C k31 w A0 ls.length ls) (hF : FewM ls) :
    Calls Try.prog 7 #[.agg #[.int .i64 n, (.slice A0 ls.length c0)]] w fun e w' => Says (GoodM n ls) e ∧ Below w.heap.size w w' := by
  have hu24 := Try.underlying24
  have hu31 := Try.underlying31
  have hu33 := Try.underlying33
  have HR := Aside0.mk hr
  have HFW := Aside0.mk hF
  clear hr hF
  have HB1 : Aside0 (Below w.heap.size w (w.alloc (.cells #[.int .i64 n, (.slice A0 ls.length c0)] 24))) := ⟨below_alloc (Below.refl _ _) _⟩
  have HX1 : Aside0 ((w.alloc (.cells #[.int .i64 n, (.slice A0 ls.length c0)] 24)).heap[w.heap.size]? = some (.cells #[.int .i64 n, (.slice A0 ls.length c0)] 24 (0, 0))) := ⟨heap_alloc_new _ _⟩
  go_enter Try.func7, Try.ntmps7
  go_upto_region 1 with (fail)
  generalize w.alloc (.cells #[.int .i64 n, (.slice A0 ls.length c0)] 24) = w1 at HB1 HX1 ⊢
  have m0 := (blk_cell HX1.out 0).trans rfl
  have m1 := (blk_cell HX1.out 1).trans rfl
  by_cases ta : n < 1
  · have ca : decide (n < 1) = true := decide_eq_true ta
    go_wp2
    go_ret
    exact ⟨Says.no, HB1.out⟩
  · have ca : decide (n < 1) = false := decide_eq_false ta
    by_cases tb : 8 < n
    · have cb : decide (8 < n) = true := decide_eq_true tb
      go_wp2
      go_ret
      exact ⟨Says.no, HB1.out⟩
    · have cb : decide (8 < n) = false := decide_eq_false tb
      by_cases tp : (ls.length : Int) < 1
      · have cp : decide ((ls.length : Int) < 1) = true := decide_eq_true tp
        have cpn : decide (ls.length < 1) = true := decide_eq_true (by omega)
        go_wp2
        go_ret
        exact ⟨Says.no, HB1.out⟩
      · have cp : decide ((ls.length : Int) < 1) = false := decide_eq_false tp
        have cpn : decide (ls.length < 1) = false := decide_eq_false (by omega)
        by_cases td : (4 : Int) < (ls.length : Int)
        · have cd : decide ((4 : Int) < (ls.length : Int)) = true := decide_eq_true td
          have cdn : decide (4 < ls.length) = true := decide_eq_true (by omega)
          go_wp2
          go_ret
          exact ⟨Says.no, HB1.out⟩
        · have cd : decide ((4 : Int) < (ls.length : Int)) = false := decide_eq_false td
          have cdn : decide (4 < ls.length) = false := decide_eq_false (by omega)
          have HN1 : Aside0 (1 ≤ n) := ⟨by omega⟩
          have HN8 : Aside0 (n ≤ 8) := ⟨by omega⟩
          have HL1 : Aside0 (1 ≤ (ls.length : Int)) := ⟨by omega⟩
          have HL4 : Aside0 ((ls.length : Int) ≤ 4) := ⟨by omega⟩
          go_wp2
          clear m0 m1 ca cb cp cd cpn cdn ta tb tp td
          go_loopw [31] (fun v31 w' => ∃ i : Nat, Aside0 (i ≤ ls.length) ∧ v31 = .int .i64 (i : Int) ∧ Aside0 (Below w1.heap.size w1 w') ∧ Aside0 (∀ q : Nat, q < i → GoodY n (rd_T31 ls (q : Int)))) (fun v31 _ => ls.length - (intOf v31).toNat)
          case atStart => exact ⟨0, ⟨Nat.zero_le _⟩, rfl, ⟨Below.refl _ _⟩, ⟨fun q hq => absurd hq (Nat.not_lt_zero _)⟩⟩
          case round =>
            obtain ⟨i, HI, rfl, HB, HQ⟩ := hrel
            by_cases hlt : i < ls.length
            · have hc : decide (i < ls.length) = true := decide_eq_true hlt
              have HLT := Aside0.mk hlt
              have HFY := Aside0.mk (HFW.out.2 _ (rdY_mem hlt))
              obtain ⟨al, Ag, cg, Ax, cx, hA, hl0, hl1, hl2, hgc, hG, hxc, hX⟩ := at_T31 (xs := ls) (n := ls.length) (Kd.C_below HR.out (below_step HB1.out HB.out)) (i : Int) (Int.natCast_nonneg _) (Int.ofNat_lt.2 hlt)
              cases hA
              rw [Int.toNat_natCast] at hl0 hl1 hl2
              have HG := Aside0.mk hG
              have HXX := Aside0.mk hX
              clear hG hX
              go_upto_region 6 with (fail)
              clear hl0 hl1 hl2 hlt hc
              have hb := below_alloc (Below.refl wr.heap.size wr) (.cells #[.slice Ag (rd_T31 ls (i : Int)).f0.length cg, .slice Ax (rd_T31 ls (i : Int)).f1.length cx, .int .i64 (rd_T31 ls (i : Int)).f2] 31)
              have HB2 := Aside0.mk (below_step HB.out hb)
              have HK1 : Aside0 ((wr.alloc (.cells #[.slice Ag (rd_T31 ls (i : Int)).f0.length cg, .slice Ax (rd_T31 ls (i : Int)).f1.length cx, .int .i64 (rd_T31 ls (i : Int)).f2] 31)).heap[wr.heap.size]? = some (.cells #[.slice Ag (rd_T31 ls (i : Int)).f0.length cg, .slice Ax (rd_T31 ls (i : Int)).f1.length cx, .int .i64 (rd_T31 ls (i : Int)).f2] 31 (0, 0))) := ⟨heap_alloc_new _ _⟩
              have HG1 := Aside0.mk (Kd.C_below HG.out hb)
              have HY1 := Aside0.mk (Kd.C_below HXX.out hb)
              clear hb HG HXX HB
              generalize wr.alloc (.cells #[.slice Ag (rd_T31 ls (i : Int)).f0.length cg, .slice Ax (rd_T31 ls (i : Int)).f1.length cx, .int .i64 (rd_T31 ls (i : Int)).f2] 31) = w4 at HB2 HK1 HG1 HY1 ⊢
              generalize wr.heap.size = gl at HK1 ⊢
              have m0 := (blk_cell (blk_below HX1.out HB2.out) 0).trans rfl
              have k0 := (blk_cell HK1.out 0).trans rfl
              have k1 := (blk_cell HK1.out 1).trans rfl
              have k2 := (blk_cell HK1.out 2).trans rfl
              by_cases te : ((rd_T31 ls (i : Int)).f1.length : Int) < 1
              · have ce : decide (((rd_T31 ls (i : Int)).f1.length : Int) < 1) = true := decide_eq_true te
                have cen : decide ((rd_T31 ls (i : Int)).f1.length < 1) = true := decide_eq_true (by omega)
                go_wp2
                go_ret
                exact ⟨Says.no, below_step HB1.out HB2.out⟩
              · have ce : decide (((rd_T31 ls (i : Int)).f1.length : Int) < 1) = false := decide_eq_false te
                have cen : decide ((rd_T31 ls (i : Int)).f1.length < 1) = false := decide_eq_false (by omega)
                by_cases tf : (8 : Int) < ((rd_T31 ls (i : Int)).f1.length : Int)
                · have cf : decide ((8 : Int) < ((rd_T31 ls (i : Int)).f1.length : Int)) = true := decide_eq_true tf
                  have cfn : decide (8 < (rd_T31 ls (i : Int)).f1.length) = true := decide_eq_true (by omega)
                  go_wp2
                  go_ret
                  exact ⟨Says.no, below_step HB1.out HB2.out⟩
                · have cf : decide ((8 : Int) < ((rd_T31 ls (i : Int)).f1.length : Int)) = false := decide_eq_false tf
                  have cfn : decide (8 < (rd_T31 ls (i : Int)).f1.length) = false := decide_eq_false (by omega)
                  obtain ⟨b1, e1, q1⟩ := ref_right_few (rd_T31 ls (i : Int)).f0 ((rd_T31 ls (i : Int)).f1.length : Int) n HFY.out.2.1
                  obtain ⟨k1_, e1⟩ := e1.rounds
                  have S_1 := Aside0.mk e1
                  clear e1
                  cases b1
                  case false =>
                    go_wp2_with ((go_at_call 17; (with_reducible refine (switchboardref03_Right.calls k1_ Ag cg (rd_T31 ls (i : Int)).f0 ((rd_T31 ls (i : Int)).f1.length : Int) n false w4 HG1.out hgc S_1.out).mono ?_); rintro e_ w5 ⟨rfl, hd⟩; have HB3 := Aside0.mk (below_step HB2.out hd.below); have HK2 := Aside0.mk (blk_below HK1.out hd.below); have HY2 := Aside0.mk (Kd.C_below HY1.out hd.below); clear hd m0 k0 k1 k2; have k1 := (blk_cell HK2.out 1).trans rfl; have k2 := (blk_cell HK2.out 2).trans rfl))
                    go_ret
                    exact ⟨Says.no, below_step HB1.out HB3.out⟩
                  case true =>
                    have Q1 := Aside0.mk (q1 rfl)
                    clear q1
                    skip
                    by_cases tu : (rd_T31 ls (i : Int)).f2 < 1
                    · have cu : decide ((rd_T31 ls (i : Int)).f2 < 1) = true := decide_eq_true tu
                      go_wp2_with ((go_at_call 17; (with_reducible refine (switchboardref03_Right.calls k1_ Ag cg (rd_T31 ls (i : Int)).f0 ((rd_T31 ls (i : Int)).f1.length : Int) n true w4 HG1.out hgc S_1.out).mono ?_); rintro e_ w5 ⟨rfl, hd⟩; have HB3 := Aside0.mk (below_step HB2.out hd.below); have HK2 := Aside0.mk (blk_below HK1.out hd.below); have HY2 := Aside0.mk (Kd.C_below HY1.out hd.below); clear hd m0 k0 k1 k2; have k1 := (blk_cell HK2.out 1).trans rfl; have k2 := (blk_cell HK2.out 2).trans rfl))
                      go_ret
                      exact ⟨Says.no, below_step HB1.out HB3.out⟩
                    · have cu : decide ((rd_T31 ls (i : Int)).f2 < 1) = false := decide_eq_false tu
                      by_cases tw : 32 < (rd_T31 ls (i : Int)).f2
                      · have cw : decide (32 < (rd_T31 ls (i : Int)).f2) = true := decide_eq_true tw
                        go_wp2_with ((go_at_call 17; (with_reducible refine (switchboardref03_Right.calls k1_ Ag cg (rd_T31 ls (i : Int)).f0 ((rd_T31 ls (i : Int)).f1.length : Int) n true w4 HG1.out hgc S_1.out).mono ?_); rintro e_ w5 ⟨rfl, hd⟩; have HB3 := Aside0.mk (below_step HB2.out hd.below); have HK2 := Aside0.mk (blk_below HK1.out hd.below); have HY2 := Aside0.mk (Kd.C_below HY1.out hd.below); clear hd m0 k0 k1 k2; have k1 := (blk_cell HK2.out 1).trans rfl; have k2 := (blk_cell HK2.out 2).trans rfl))
                        go_ret
                        exact ⟨Says.no, below_step HB1.out HB3.out⟩
                      · have cw : decide (32 < (rd_T31 ls (i : Int)).f2) = false := decide_eq_false tw
                        have HM1 : Aside0 (1 ≤ ((rd_T31 ls (i : Int)).f1.length : Int)) := ⟨by omega⟩
                        have HM8 : Aside0 (((rd_T31 ls (i : Int)).f1.length : Int) ≤ 8) := ⟨by omega⟩
                        have HF1 : Aside0 (1 ≤ (rd_T31 ls (i : Int)).f2) := ⟨by omega⟩
                        have HF32 : Aside0 ((rd_T31 ls (i : Int)).f2 ≤ 32) := ⟨by omega⟩
                        go_wp2_with (go_at_call 17; (with_reducible refine (switchboardref03_Right.calls k1_ Ag cg (rd_T31 ls (i : Int)).f0 ((rd_T31 ls (i : Int)).f1.length : Int) n true w4 HG1.out hgc S_1.out).mono ?_); rintro e_ w5 ⟨rfl, hd⟩; have HB3 := Aside0.mk (below_step HB2.out hd.below); have HK2 := Aside0.mk (blk_below HK1.out hd.below); have HY2 := Aside0.mk (Kd.C_below HY1.out hd.below); clear hd m0 k0 k1 k2; have k1 := (blk_cell HK2.out 1).trans rfl; have k2 := (blk_cell HK2.out 2).trans rfl)
                        clear k1 k2 HB2 HK1 HG1 HY1 HK2
                        go_loopw [66] (fun v66 w' => ∃ j : Nat, Aside0 (j ≤ (rd_T31 ls (i : Int)).f1.length) ∧ v66 = .int .i64 (j : Int) ∧ Aside0 (Below w5.heap.size w5 w') ∧ Aside0 (∀ q : Nat, q < j → GoodX n (rd_T33 (rd_T31 ls (i : Int)).f1 (q : Int)))) (fun v66 _ => (rd_T31 ls (i : Int)).f1.length - (intOf v66).toNat)
                        case atStart => exact ⟨0, ⟨Nat.zero_le _⟩, rfl, ⟨Below.refl _ _⟩, ⟨fun q hq => absurd hq (Nat.not_lt_zero _)⟩⟩
                        case round =>
                          obtain ⟨j, HJ, rfl, HB4, HQ4⟩ := hrel
                          by_cases hltj : j < (rd_T31 ls (i : Int)).f1.length
                          · have hcj : decide (j < (rd_T31 ls (i : Int)).f1.length) = true := decide_eq_true hltj
                            have HLJ := Aside0.mk hltj
                            obtain ⟨ae, Ai, ci, Ao, co, hA, he0, he1, hic, hI, hoc, hO⟩ := at_T33 (xs := (rd_T31 ls (i : Int)).f1) (n := (rd_T31 ls (i : Int)).f1.length) (Kd.C_below HY2.out HB4.out) (j : Int) (Int.natCast_nonneg _) (Int.ofNat_lt.2 hltj)
                            cases hA
                            rw [Int.toNat_natCast] at he0 he1
                            have HI4 := Aside0.mk hI
                            have HO4 := Aside0.mk hO
                            have hfx := HFY.out.2.2 _ (rdE_mem hltj)
                            obtain ⟨b2, e2, q2⟩ := ref11_right (rd_T33 (rd_T31 ls (i : Int)).f1 (j : Int)) n hfx HN1.out HN8.out
                            obtain ⟨k2_, e2⟩ := e2.rounds
                            have S_2 := Aside0.mk e2
                            clear hI hO e2 hfx
                            go_upto_region 12 with (fail)
                            clear he0 he1 hltj hcj
                            have hb := below_alloc (Below.refl wr.heap.size wr) (.cells #[.slice Ai (rd_T33 (rd_T31 ls (i : Int)).f1 (j : Int)).f0.length ci, .slice Ao (rd_T33 (rd_T31 ls (i : Int)).f1 (j : Int)).f1.length co] 33)
                            have HB5 := Aside0.mk (below_step HB4.out hb)
                            have HE5 : Aside0 ((wr.alloc (.cells #[.slice Ai (rd_T33 (rd_T31 ls (i : Int)).f1 (j : Int)).f0.length ci, .slice Ao (rd_T33 (rd_T31 ls (i : Int)).f1 (j : Int)).f1.length co] 33)).heap[wr.heap.size]? = some (.cells #[.slice Ai (rd_T33 (rd_T31 ls (i : Int)).f1 (j : Int)).f0.length ci, .slice Ao (rd_T33 (rd_T31 ls (i : Int)).f1 (j : Int)).f1.length co] 33 (0, 0))) := ⟨heap_alloc_new _ _⟩
                            have HI5 := Aside0.mk (Kd.C_below HI4.out hb)
                            have HO5 := Aside0.mk (Kd.C_below HO4.out hb)
                            clear hb HI4 HO4 HB4
                            generalize wr.alloc (.cells #[.slice Ai (rd_T33 (rd_T31 ls (i : Int)).f1 (j : Int)).f0.length ci, .slice Ao (rd_T33 (rd_T31 ls (i : Int)).f1 (j : Int)).f1.length co] 33) = w6 at HB5 HE5 HI5 HO5 ⊢
                            generalize wr.heap.size = ge at HE5 ⊢
                            have f0 := (blk_cell HE5.out 0).trans rfl
                            have f1 := (blk_cell HE5.out 1).trans rfl
                            have m0 := (blk_cell (blk_below HX1.out (below_step HB3.out HB5.out)) 0).trans rfl
                            cases b2
                            case false =>
                              go_wp2_with ((go_at_call 18; (with_reducible refine (switchboardref11_Right.calls k2_ Ai ci (rd_T33 (rd_T31 ls (i : Int)).f1 (j : Int)).f0 Ao co (rd_T33 (rd_T31 ls (i : Int)).f1 (j : Int)).f1 n false w6 HI5.out hic HO5.out hoc S_2.out).mono ?_); rintro e_ w7 ⟨rfl, hb⟩; have HB6 := Aside0.mk (below_step HB5.out hb); clear hb f0 f1 m0))
                              go_ret
                              exact ⟨Says.no, below_step HB1.out (below_step HB3.out HB6.out)⟩
                            case true =>
                              have Q2 := Aside0.mk (q2 rfl)
                              clear q2
                              have hltj := HLJ.out
                              have hmj : (rd_T31 ls (i : Int)).f1.length ≤ 9223372036854775807 := by have := HM8.out; omega
                              go_wp2_with (go_at_call 18; (with_reducible refine (switchboardref11_Right.calls k2_ Ai ci (rd_T33 (rd_T31 ls (i : Int)).f1 (j : Int)).f0 Ao co (rd_T33 (rd_T31 ls (i : Int)).f1 (j : Int)).f1 n true w6 HI5.out hic HO5.out hoc S_2.out).mono ?_); rintro e_ w7 ⟨rfl, hb⟩; have HB6 := Aside0.mk (below_step HB5.out hb); clear hb f0 f1 m0)
                              go_roundw
                              case rel => exact ⟨j + 1, ⟨HLJ.out⟩, by go_num, HB6, ⟨more_q HQ4.out Q2.out⟩⟩
                              case measure => simp [intOf]; omega
                          · have hcj : decide (j < (rd_T31 ls (i : Int)).f1.length) = false := decide_eq_false hltj
                            have HF3 := Aside0.mk (fun q (hq : q < (rd_T31 ls (i : Int)).f1.length) => HQ4.out q (by omega))
                            have hlt := HLT.out
                            have hmax : ls.length ≤ 9223372036854775807 := by have := HL4.out; omega
                            go_wp2
                            go_roundw
                            case rel => exact ⟨i + 1, ⟨HLT.out⟩, by go_num, ⟨below_step HB3.out HB4.out⟩, ⟨more_q HQ.out ⟨HM1.out, HM8.out, Q1.out, HF1.out, HF32.out, all33 HF3.out⟩⟩⟩
                            case measure => simp [intOf]; omega
            · have hc : decide (i < ls.length) = false := decide_eq_false hlt
              have hi : i = ls.length := by have := HI.out; omega
              have HQ' := Aside0.mk (fun q (hq : q < ls.length) => HQ.out q (by omega))
              clear hi HQ
              go_wp2
              go_ret
              exact ⟨Says.yes ⟨HN1.out, HN8.out, HL1.out, HL4.out, all31 HQ'.out⟩, below_step HB1.out HB.out⟩
set_option maxHeartbeats 8000000 in
set_option maxRecDepth 100000 in
theorem switchboardref19_May.told {ch : Chs} (hch : ChAll ch) (n : Int) (A0 : Option Addr) (c0 : Nat) (ls : List S31) (e : Int) (A1 : Option Addr) (c1 : Nat) (hs : List (List Int)) (At : Option Addr) (ct : Nat) (tk : List (List Int)) (w : World) (hr : Kd.C k31 w A0 ls.length ls) (hrc : ls.length ≤ c0) (hh : Kd.C (Kd.slice 3 (Kd.int .i64)) w A1 hs.length hs) (hhc : hs.length ≤ c1) (ht : Kd.C (Kd.slice 3 (Kd.int .i64)) w At tk.length tk) (htc : tk.length ≤ ct) (h1 : FewM ls) (h2 : Few hs) (h3 : Few tk) :
    Calls Try.prog 15 #[.agg #[.int .i64 n, (.slice A0 ls.length c0)], .agg #[.int .i64 e, (.slice A1 hs.length c1)], .slice At tk.length ct] w fun e_ w' => Says (BatchOk ch n e ls tk hs) e_ ∧ Below w.heap.size w w' := by
  have hu24 := Try.underlying24
  have hu31 := Try.underlying31
  have hu50 := Try.underlying50
  have HR := Aside0.mk hr
  have HRC := Aside0.mk hrc
  have HH := Aside0.mk hh
  have HHC := Aside0.mk hhc
  have HT := Aside0.mk ht
  have HTC := Aside0.mk htc
  have HF1 := Aside0.mk h1
  have HF2 := Aside0.mk h2
  have HCH := Aside0.mk hch
  have e2 := mtokens_is n ls tk h3
  obtain ⟨k2_, e2⟩ := e2.rounds
  have S_2 := Aside0.mk e2
  obtain ⟨b3, p3, e3⟩ := place_is e h2
  obtain ⟨k3_, e3⟩ := e3.rounds
  have S_3 := Aside0.mk e3
  have HP3 := Aside0.mk p3
  clear hr hrc hh hhc ht htc h1 h2 h3 hch e2 e3 p3
  obtain ⟨w1, hw1⟩ : ∃ w1, w1 = (w.alloc (.cells #[.int .i64 n, (.slice A0 ls.length c0)] 24)).alloc (.cells #[.int .i64 e, (.slice A1 hs.length c1)] 50) := ⟨_, rfl⟩
  have HB1 : Aside0 (Below w.heap.size w w1) := ⟨by rw [hw1]; exact below_alloc (below_alloc (Below.refl _ _) _) _⟩
  have HX1 : Aside0 (w1.heap[w.heap.size]? = some (.cells #[.int .i64 n, (.slice A0 ls.length c0)] 24 (0, 0))) := ⟨by rw [hw1]; exact blk_alloc (heap_alloc_new _ _) _⟩
  have HX2 : Aside0 (w1.heap[w.heap.size + 1]? = some (.cells #[.int .i64 e, (.slice A1 hs.length c1)] 50 (0, 0))) := ⟨by rw [hw1]; have h_ := heap_alloc_new (w.alloc (.cells #[.int .i64 n, (.slice A0 ls.length c0)] 24)) (.cells #[.int .i64 e, (.slice A1 hs.length c1)] 50 (0, 0)); rwa [heap_size_alloc9] at h_⟩
  go_enter Try.func15, Try.ntmps15
  go_upto_region 1 with (fail)
  rw [← hw1]
  clear hw1
  cases ht_ : tokOk n tk <;> rw [ht_] at S_2 <;> cases b3
  case false.false =>
    have m0 := (blk_cell HX1.out 0).trans rfl
    have m1 := (blk_cell HX1.out 1).trans rfl
    have p0 := (blk_cell HX2.out 0).trans rfl
    have p1 := (blk_cell HX2.out 1).trans rfl
    go_wp2_with (first | (go_at_call 7; (with_reducible refine (switchboardref15_Right.told n A0 c0 ls w1 (Kd.C_below HR.out HB1.out) HF1.out).mono ?_); rintro e_ w2 ⟨⟨b, rfl, hq⟩, hb⟩; have HQ := Aside0.mk hq; have NB := Aside0.mk (below_step HB1.out (hb)); have N1 := Aside0.mk (blk_below HX1.out (hb)); have N2 := Aside0.mk (blk_below HX2.out (hb)); clear HB1 HX1 HX2 m0 m1 p0 p1; have HB1 := NB; have HX1 := N1; have HX2 := N2; clear NB N1 N2; have m0 := (blk_cell HX1.out 0).trans rfl; have m1 := (blk_cell HX1.out 1).trans rfl; have p0 := (blk_cell HX2.out 0).trans rfl; have p1 := (blk_cell HX2.out 1).trans rfl; clear hb hq; cases b) | (go_at_call 33; (with_reducible refine (switchboardref15_Tokens.calls k2_ n A0 c0 ls At ct tk false w2 (Kd.C_below HR.out HB1.out) HRC.out (Kd.C_below HT.out HB1.out) HTC.out S_2.out).mono ?_); rintro e_ w3 ⟨rfl, hb⟩; have NB := Aside0.mk (below_step HB1.out (hb)); have N1 := Aside0.mk (blk_below HX1.out (hb)); have N2 := Aside0.mk (blk_below HX2.out (hb)); clear HB1 HX1 HX2 m0 m1 p0 p1; have HB1 := NB; have HX1 := N1; have HX2 := N2; clear NB N1 N2; have m0 := (blk_cell HX1.out 0).trans rfl; have m1 := (blk_cell HX1.out 1).trans rfl; have p0 := (blk_cell HX2.out 0).trans rfl; have p1 := (blk_cell HX2.out 1).trans rfl; clear hb) | (go_at_call 34; (with_reducible refine (switchboardref17_Right.calls k3_ e A1 c1 hs false w3 (Kd.C_below HH.out HB1.out) HHC.out S_3.out).mono ?_); rintro e_ w4 ⟨rfl, hb⟩; have NB := Aside0.mk (below_step HB1.out (hb)); have N1 := Aside0.mk (blk_below HX1.out (hb)); have N2 := Aside0.mk (blk_below HX2.out (hb)); clear HB1 HX1 HX2 m0 m1 p0 p1; have HB1 := NB; have HX1 := N1; have HX2 := N2; clear NB N1 N2; have m0 := (blk_cell HX1.out 0).trans rfl; have m1 := (blk_cell HX1.out 1).trans rfl; have p0 := (blk_cell HX2.out 0).trans rfl; have p1 := (blk_cell HX2.out 1).trans rfl; clear hb))
    all_goals (go_ret; exact ⟨Says.no, HB1.out⟩)
  case false.true =>
    have m0 := (blk_cell HX1.out 0).trans rfl
    have m1 := (blk_cell HX1.out 1).trans rfl
    have p0 := (blk_cell HX2.out 0).trans rfl
    have p1 := (blk_cell HX2.out 1).trans rfl
    go_wp2_with (first | (go_at_call 7; (with_reducible refine (switchboardref15_Right.told n A0 c0 ls w1 (Kd.C_below HR.out HB1.out) HF1.out).mono ?_); rintro e_ w2 ⟨⟨b, rfl, hq⟩, hb⟩; have HQ := Aside0.mk hq; have NB := Aside0.mk (below_step HB1.out (hb)); have N1 := Aside0.mk (blk_below HX1.out (hb)); have N2 := Aside0.mk (blk_below HX2.out (hb)); clear HB1 HX1 HX2 m0 m1 p0 p1; have HB1 := NB; have HX1 := N1; have HX2 := N2; clear NB N1 N2; have m0 := (blk_cell HX1.out 0).trans rfl; have m1 := (blk_cell HX1.out 1).trans rfl; have p0 := (blk_cell HX2.out 0).trans rfl; have p1 := (blk_cell HX2.out 1).trans rfl; clear hb hq; cases b) | (go_at_call 33; (with_reducible refine (switchboardref15_Tokens.calls k2_ n A0 c0 ls At ct tk false w2 (Kd.C_below HR.out HB1.out) HRC.out (Kd.C_below HT.out HB1.out) HTC.out S_2.out).mono ?_); rintro e_ w3 ⟨rfl, hb⟩; have NB := Aside0.mk (below_step HB1.out (hb)); have N1 := Aside0.mk (blk_below HX1.out (hb)); have N2 := Aside0.mk (blk_below HX2.out (hb)); clear HB1 HX1 HX2 m0 m1 p0 p1; have HB1 := NB; have HX1 := N1; have HX2 := N2; clear NB N1 N2; have m0 := (blk_cell HX1.out 0).trans rfl; have m1 := (blk_cell HX1.out 1).trans rfl; have p0 := (blk_cell HX2.out 0).trans rfl; have p1 := (blk_cell HX2.out 1).trans rfl; clear hb) | (go_at_call 34; (with_reducible refine (switchboardref17_Right.calls k3_ e A1 c1 hs true w3 (Kd.C_below HH.out HB1.out) HHC.out S_3.out).mono ?_); rintro e_ w4 ⟨rfl, hb⟩; have NB := Aside0.mk (below_step HB1.out (hb)); have N1 := Aside0.mk (blk_below HX1.out (hb)); have N2 := Aside0.mk (blk_below HX2.out (hb)); clear HB1 HX1 HX2 m0 m1 p0 p1; have HB1 := NB; have HX1 := N1; have HX2 := N2; clear NB N1 N2; have m0 := (blk_cell HX1.out 0).trans rfl; have m1 := (blk_cell HX1.out 1).trans rfl; have p0 := (blk_cell HX2.out 0).trans rfl; have p1 := (blk_cell HX2.out 1).trans rfl; clear hb))
    all_goals (go_ret; exact ⟨Says.no, HB1.out⟩)
  case true.false =>
    have m0 := (blk_cell HX1.out 0).trans rfl
    have m1 := (blk_cell HX1.out 1).trans rfl
    have p0 := (blk_cell HX2.out 0).trans rfl
    have p1 := (blk_cell HX2.out 1).trans rfl
    go_wp2_with (first | (go_at_call 7; (with_reducible refine (switchboardref15_Right.told n A0 c0 ls w1 (Kd.C_below HR.out HB1.out) HF1.out).mono ?_); rintro e_ w2 ⟨⟨b, rfl, hq⟩, hb⟩; have HQ := Aside0.mk hq; have NB := Aside0.mk (below_step HB1.out (hb)); have N1 := Aside0.mk (blk_below HX1.out (hb)); have N2 := Aside0.mk (blk_below HX2.out (hb)); clear HB1 HX1 HX2 m0 m1 p0 p1; have HB1 := NB; have HX1 := N1; have HX2 := N2; clear NB N1 N2; have m0 := (blk_cell HX1.out 0).trans rfl; have m1 := (blk_cell HX1.out 1).trans rfl; have p0 := (blk_cell HX2.out 0).trans rfl; have p1 := (blk_cell HX2.out 1).trans rfl; clear hb hq; cases b) | (go_at_call 33; (with_reducible refine (switchboardref15_Tokens.calls k2_ n A0 c0 ls At ct tk true w2 (Kd.C_below HR.out HB1.out) HRC.out (Kd.C_below HT.out HB1.out) HTC.out S_2.out).mono ?_); rintro e_ w3 ⟨rfl, hb⟩; have NB := Aside0.mk (below_step HB1.out (hb)); have N1 := Aside0.mk (blk_below HX1.out (hb)); have N2 := Aside0.mk (blk_below HX2.out (hb)); clear HB1 HX1 HX2 m0 m1 p0 p1; have HB1 := NB; have HX1 := N1; have HX2 := N2; clear NB N1 N2; have m0 := (blk_cell HX1.out 0).trans rfl; have m1 := (blk_cell HX1.out 1).trans rfl; have p0 := (blk_cell HX2.out 0).trans rfl; have p1 := (blk_cell HX2.out 1).trans rfl; clear hb) | (go_at_call 34; (with_reducible refine (switchboardref17_Right.calls k3_ e A1 c1 hs false w3 (Kd.C_below HH.out HB1.out) HHC.out S_3.out).mono ?_); rintro e_ w4 ⟨rfl, hb⟩; have NB := Aside0.mk (below_step HB1.out (hb)); have N1 := Aside0.mk (blk_below HX1.out (hb)); have N2 := Aside0.mk (blk_below HX2.out (hb)); clear HB1 HX1 HX2 m0 m1 p0 p1; have HB1 := NB; have HX1 := N1; have HX2 := N2; clear NB N1 N2; have m0 := (blk_cell HX1.out 0).trans rfl; have m1 := (blk_cell HX1.out 1).trans rfl; have p0 := (blk_cell HX2.out 0).trans rfl; have p1 := (blk_cell HX2.out 1).trans rfl; clear hb))
    all_goals (go_ret; exact ⟨Says.no, HB1.out⟩)
  case true.true =>
    have m0 := (blk_cell HX1.out 0).trans rfl
    have m1 := (blk_cell HX1.out 1).trans rfl
    have p0 := (blk_cell HX2.out 0).trans rfl
    have p1 := (blk_cell HX2.out 1).trans rfl
    go_wp2_with (first | (go_at_call 7; (with_reducible refine (switchboardref15_Right.told n A0 c0 ls w1 (Kd.C_below HR.out HB1.out) HF1.out).mono ?_); rintro e_ w2 ⟨⟨b, rfl, hq⟩, hb⟩; have HQ := Aside0.mk hq; have NB := Aside0.mk (below_step HB1.out (hb)); have N1 := Aside0.mk (blk_below HX1.out (hb)); have N2 := Aside0.mk (blk_below HX2.out (hb)); clear HB1 HX1 HX2 m0 m1 p0 p1; have HB1 := NB; have HX1 := N1; have HX2 := N2; clear NB N1 N2; have m0 := (blk_cell HX1.out 0).trans rfl; have m1 := (blk_cell HX1.out 1).trans rfl; have p0 := (blk_cell HX2.out 0).trans rfl; have p1 := (blk_cell HX2.out 1).trans rfl; clear hb hq; cases b) | (go_at_call 33; (with_reducible refine (switchboardref15_Tokens.calls k2_ n A0 c0 ls At ct tk true w2 (Kd.C_below HR.out HB1.out) HRC.out (Kd.C_below HT.out HB1.out) HTC.out S_2.out).mono ?_); rintro e_ w3 ⟨rfl, hb⟩; have NB := Aside0.mk (below_step HB1.out (hb)); have N1 := Aside0.mk (blk_below HX1.out (hb)); have N2 := Aside0.mk (blk_below HX2.out (hb)); clear HB1 HX1 HX2 m0 m1 p0 p1; have HB1 := NB; have HX1 := N1; have HX2 := N2; clear NB N1 N2; have m0 := (blk_cell HX1.out 0).trans rfl; have m1 := (blk_cell HX1.out 1).trans rfl; have p0 := (blk_cell HX2.out 0).trans rfl; have p1 := (blk_cell HX2.out 1).trans rfl; clear hb) | (go_at_call 34; (with_reducible refine (switchboardref17_Right.calls k3_ e A1 c1 hs true w3 (Kd.C_below HH.out HB1.out) HHC.out S_3.out).mono ?_); rintro e_ w4 ⟨rfl, hb⟩; have NB := Aside0.mk (below_step HB1.out (hb)); have N1 := Aside0.mk (blk_below HX1.out (hb)); have N2 := Aside0.mk (blk_below HX2.out (hb)); clear HB1 HX1 HX2 m0 m1 p0 p1; have HB1 := NB; have HX1 := N1; have HX2 := N2; clear NB N1 N2; have m0 := (blk_cell HX1.out 0).trans rfl; have m1 := (blk_cell HX1.out 1).trans rfl; have p0 := (blk_cell HX2.out 0).trans rfl; have p1 := (blk_cell HX2.out 1).trans rfl; clear hb))
    · go_ret
      exact ⟨Says.no, HB1.out⟩
    · have HR4 := Aside0.mk (Kd.C_below HR.out HB1.out)
      clear m0 m1 p0 p1 HR HX1
      go_loopw [26] (fun v26 w' => ∃ i : Nat, Aside0 (i ≤ ls.length) ∧ v26 = .int .i64 (i : Int) ∧ Aside0 (Below w4.heap.size w4 w') ∧ Aside0 (∀ q : Nat, q < i → (rd_T31 ls (q : Int)).f1.length ≤ hs.length)) (fun v26 _ => ls.length - (intOf v26).toNat)
      case atStart => exact ⟨0, ⟨Nat.zero_le _⟩, rfl, ⟨Below.refl _ _⟩, ⟨fun q hq => absurd hq (Nat.not_lt_zero _)⟩⟩
      case round =>
        obtain ⟨i, HI, rfl, HB, HQ2⟩ := hrel
        by_cases hlt : i < ls.length
        · have hc : decide (i < ls.length) = true := decide_eq_true hlt
          have HLT := Aside0.mk hlt
          obtain ⟨al, Ag, cgr, Ax, cxr, hA, hl0, hl1, hl2, hgc, hG, hxc, hX⟩ := at_T31 (xs := ls) (n := ls.length) (Kd.C_below HR4.out HB.out) (i : Int) (Int.natCast_nonneg _) (Int.ofNat_lt.2 hlt)
          cases hA
          rw [Int.toNat_natCast] at hl0 hl1 hl2
          clear hG hX
          go_upto_region 6 with (fail)
          clear hl0 hl1 hl2 hlt hc
          have hb := below_alloc (Below.refl wr.heap.size wr) (.cells #[.slice Ag (rd_T31 ls (i : Int)).f0.length cgr, .slice Ax (rd_T31 ls (i : Int)).f1.length cxr, .int .i64 (rd_T31 ls (i : Int)).f2] 31)
          have HB3 := Aside0.mk (below_step HB.out hb)
          have HK1 : Aside0 ((wr.alloc (.cells #[.slice Ag (rd_T31 ls (i : Int)).f0.length cgr, .slice Ax (rd_T31 ls (i : Int)).f1.length cxr, .int .i64 (rd_T31 ls (i : Int)).f2] 31)).heap[wr.heap.size]? = some (.cells #[.slice Ag (rd_T31 ls (i : Int)).f0.length cgr, .slice Ax (rd_T31 ls (i : Int)).f1.length cxr, .int .i64 (rd_T31 ls (i : Int)).f2] 31 (0, 0))) := ⟨heap_alloc_new _ _⟩
          clear hb HB
          generalize wr.alloc (.cells #[.slice Ag (rd_T31 ls (i : Int)).f0.length cgr, .slice Ax (rd_T31 ls (i : Int)).f1.length cxr, .int .i64 (rd_T31 ls (i : Int)).f2] 31) = w6 at HB3 HK1 ⊢
          generalize wr.heap.size = gl at HK1 ⊢
          have k1 := (blk_cell HK1.out 1).trans rfl
          have p1 := (blk_cell (blk_below HX2.out HB3.out) 1).trans rfl
          by_cases h9 : (rd_T31 ls (i : Int)).f1.length ≤ hs.length
          · have c9 : decide ((hs.length : Int) < ((rd_T31 ls (i : Int)).f1.length : Int)) = false := decide_eq_false (by omega)
            have c9n : decide (hs.length < (rd_T31 ls (i : Int)).f1.length) = false := decide_eq_false (by omega)
            have hlt := HLT.out
            have hmax : ls.length ≤ 9223372036854775807 := by have := HF1.out.1; omega
            have H9 := Aside0.mk h9
            clear h9
            go_wp2
            go_roundw
            case rel => exact ⟨i + 1, ⟨HLT.out⟩, by go_num, HB3, ⟨more_q HQ2.out H9.out⟩⟩
            case measure => simp [intOf]; omega
          · have c9 : decide ((hs.length : Int) < ((rd_T31 ls (i : Int)).f1.length : Int)) = true := decide_eq_true (by omega)
            have c9n : decide (hs.length < (rd_T31 ls (i : Int)).f1.length) = true := decide_eq_true (by omega)
            go_wp2
            go_ret
            exact ⟨Says.no, below_step HB1.out HB3.out⟩
        · have hc : decide (i < ls.length) = false := decide_eq_false hlt
          have HQ3 := Aside0.mk (fun q (hq : q < ls.length) => HQ2.out q (by have := HI.out; omega))
          clear HQ2
          go_wp2
          go_ret
          exact ⟨Says.yes ⟨HCH.out, HQ.out trivial, goodT_of ht_, mapOk HF2.out HP3.out, all31 HQ3.out⟩, below_step HB1.out HB.out⟩
def switchboardtop_TopMaps.f (_ : Nat) (_ : Int) (_ : List S31) (_ : Int) (_ : List (List Int)) (_ : Int) (_ : List (List Int)) (_ : List (List Int)) : Option Bool := some true
/-- The boxes of the model and of both maps. -/
structure M3 (w W : World) (M P Q : Array Value) : Prop where
  hb : Below w.heap.size w W
  m : W.heap[w.heap.size]? = some (.cells M 24 (0, 0))
  p : W.heap[w.heap.size + 1]? = some (.cells P 48 (0, 0))
  q : W.heap[w.heap.size + 1 + 1]? = some (.cells Q 48 (0, 0))
theorem M3.below {w W W' : World} {M P Q : Array Value} (h : M3 w W M P Q) (hb : Below W.heap.size W W') : M3 w W' M P Q := ⟨below_step h.hb hb, blk_below h.m hb, blk_below h.p hb, blk_below h.q hb⟩
theorem M3.start (w : World) (M P Q : Array Value) : M3 w (((w.alloc (.cells M 24)).alloc (.cells P 48)).alloc (.cells Q 48)) M P Q := by
  refine ⟨below_alloc (below_alloc (below_alloc (Below.refl _ _) _) _) _, ?_, ?_, ?_⟩
  · exact blk_alloc (blk_alloc (heap_alloc_new _ _) _) _
  · refine blk_alloc ?_ _
    have h := heap_alloc_new (w.alloc (.cells M 24)) (.cells P 48)
    rw [heap_size_alloc9] at h
    exact h
  · have h := heap_alloc_new ((w.alloc (.cells M 24)).alloc (.cells P 48)) (.cells Q 48)
    rw [heap_size_alloc9, heap_size_alloc9] at h
    exact h
set_option maxHeartbeats 8000000 in
set_option maxRecDepth 100000 in
theorem switchboardtop_TopMaps.calls (k : Nat) (n : Int) (A0 : Option Addr) (c0 : Nat) (ls : List S31) (e1 : Int) (A1 : Option Addr) (c1 : Nat) (p1 : List (List Int)) (e2 : Int) (A2 : Option Addr) (c2 : Nat) (p2 : List (List Int)) (A3 : Option Addr) (c3 : Nat) (tk : List (List Int)) (w : World) (hr0_1 : Kd.C k31 w A0 ls.length ls) (hc0_1 : ls.length ≤ c0) (hr1_1 : Kd.C (Kd.slice 3 (Kd.int .i64)) w A1 p1.length p1) (hc1_1 : p1.length ≤ c1) (hr2_1 : Kd.C (Kd.slice 3 (Kd.int .i64)) w A2 p2.length p2) (hc2_1 : p2.length ≤ c2) (hr3 : Kd.C (Kd.slice 3 (Kd.int .i64)) w A3 tk.length tk) (hc3 : tk.length ≤ c3) (h : switchboardtop_TopMaps.f k n ls e1 p1 e2 p2 tk = some true) :
    Calls Try.prog 4 #[.agg #[.int .i64 n, .slice A0 ls.length c0], .agg #[.int .i64 e1, .slice A1 p1.length c1], .agg #[.int .i64 e2, .slice A2 p2.length c2], .slice A3 tk.length c3] w fun e w' => e = .returned (.bool true) ∧ Below w.heap.size w w' := by
  have hu24 := Try.underlying24
  have hu48 := Try.underlying48
  clear h
  have HR := Aside0.mk hr0_1
  have HC := Aside0.mk hc0_1
  have HP := Aside0.mk hr1_1
  have HPC := Aside0.mk hc1_1
  have HQ := Aside0.mk hr2_1
  have HQC := Aside0.mk hc2_1
  have HT := Aside0.mk hr3
  have HTC := Aside0.mk hc3
  clear hr0_1 hc0_1 hr1_1 hc1_1 hr2_1 hc2_1 hr3 hc3
  have HL := Aside0.mk (M3.start w #[.int .i64 n, .slice A0 ls.length c0] #[.int .i64 e1, .slice A1 p1.length c1] #[.int .i64 e2, .slice A2 p2.length c2])
  obtain ⟨ch, hch⟩ := ch_all
  have HCH := Aside0.mk hch
  clear hch
  go_enter Try.func4, Try.ntmps4
  go_upto_region 3 with (first | (go_at_call 5; (with_reducible refine (switchboardref15_Small.told n A0 c0 ls _ (Kd.C_below HR.out HL.out.hb)).mono ?_); rintro e_ w1 ⟨b, rfl, hq, hb⟩; have NL := Aside0.mk (HL.out.below hb); clear HL; have HL := NL; clear NL; have m0 := (blk_cell HL.out.m 0).trans rfl; have m1 := (blk_cell HL.out.m 1).trans rfl; have q0 := (blk_cell HL.out.p 0).trans rfl; have q1 := (blk_cell HL.out.p 1).trans rfl; have r0 := (blk_cell HL.out.q 0).trans rfl; have r1 := (blk_cell HL.out.q 1).trans rfl; clear hb; (cases b <;> try have Q1 := Aside0.mk (hq rfl)); all_goals clear hq) | (go_at_call 6; obtain ⟨b, h, q⟩ := small_ev p1; obtain ⟨k, h⟩ := h.rounds; (with_reducible refine (switchboardref03_Small.calls k A1 c1 p1 b _ (Kd.C_below HP.out HL.out.hb) HPC.out h).mono ?_); rintro e_ w2 ⟨rfl, hd⟩; have NL := Aside0.mk (HL.out.below hd.below); clear HL m0 m1 q0 q1 r0 r1; have HL := NL; clear NL; have m0 := (blk_cell HL.out.m 0).trans rfl; have m1 := (blk_cell HL.out.m 1).trans rfl; have q0 := (blk_cell HL.out.p 0).trans rfl; have q1 := (blk_cell HL.out.p 1).trans rfl; have r0 := (blk_cell HL.out.q 0).trans rfl; have r1 := (blk_cell HL.out.q 1).trans rfl; clear hd h; (cases b <;> try have Q2 := Aside0.mk (q rfl)); all_goals clear q) | (go_at_call 6; obtain ⟨b, h, q⟩ := small_ev p2; obtain ⟨k, h⟩ := h.rounds; (with_reducible refine (switchboardref03_Small.calls k A2 c2 p2 b _ (Kd.C_below HQ.out HL.out.hb) HQC.out h).mono ?_); rintro e_ w3 ⟨rfl, hd⟩; have NL := Aside0.mk (HL.out.below hd.below); clear HL m0 m1 q0 q1 r0 r1; have HL := NL; clear NL; have m0 := (blk_cell HL.out.m 0).trans rfl; have m1 := (blk_cell HL.out.m 1).trans rfl; have q0 := (blk_cell HL.out.p 0).trans rfl; have q1 := (blk_cell HL.out.p 1).trans rfl; have r0 := (blk_cell HL.out.q 0).trans rfl; have r1 := (blk_cell HL.out.q 1).trans rfl; clear hd h; (cases b <;> try have Q3 := Aside0.mk (q rfl)); all_goals clear q) | (go_at_call 6; obtain ⟨b, h, q⟩ := small_ev tk; obtain ⟨k, h⟩ := h.rounds; (with_reducible refine (switchboardref03_Small.calls k A3 c3 tk b _ (Kd.C_below HT.out HL.out.hb) HTC.out h).mono ?_); rintro e_ w4 ⟨rfl, hd⟩; have NL := Aside0.mk (HL.out.below hd.below); clear HL m0 m1 q0 q1 r0 r1; have HL := NL; clear NL; have m0 := (blk_cell HL.out.m 0).trans rfl; have m1 := (blk_cell HL.out.m 1).trans rfl; have q0 := (blk_cell HL.out.p 0).trans rfl; have q1 := (blk_cell HL.out.p 1).trans rfl; have r0 := (blk_cell HL.out.q 0).trans rfl; have r1 := (blk_cell HL.out.q 1).trans rfl; clear hd h; (cases b <;> try have Q4 := Aside0.mk (q rfl)); all_goals clear q) | (go_at_call 15; (with_reducible refine (switchboardref19_May.told HCH.out n A0 c0 ls e1 A1 c1 p1 A3 c3 tk _ (Kd.C_below HR.out HL.out.hb) HC.out (Kd.C_below HP.out HL.out.hb) HPC.out (Kd.C_below HT.out HL.out.hb) HTC.out Q1.out Q2.out Q4.out).mono ?_); rintro e_ w5 ⟨⟨b, rfl, hq⟩, hb⟩; have NL := Aside0.mk (HL.out.below hb); clear HL m0 m1 q0 q1 r0 r1; have HL := NL; clear NL; have m0 := (blk_cell HL.out.m 0).trans rfl; have m1 := (blk_cell HL.out.m 1).trans rfl; have q0 := (blk_cell HL.out.p 0).trans rfl; have q1 := (blk_cell HL.out.p 1).trans rfl; have r0 := (blk_cell HL.out.q 0).trans rfl; have r1 := (blk_cell HL.out.q 1).trans rfl; clear hb; (cases b <;> try have Q5 := Aside0.mk (hq rfl)); all_goals clear hq) | (go_at_call 15; (with_reducible refine (switchboardref19_May.told HCH.out n A0 c0 ls e2 A2 c2 p2 A3 c3 tk _ (Kd.C_below HR.out HL.out.hb) HC.out (Kd.C_below HQ.out HL.out.hb) HQC.out (Kd.C_below HT.out HL.out.hb) HTC.out Q1.out Q3.out Q4.out).mono ?_); rintro e_ w6 ⟨⟨b, rfl, hq⟩, hb⟩; have NL := Aside0.mk (HL.out.below hb); clear HL m0 m1 q0 q1 r0 r1; have HL := NL; clear NL; have m0 := (blk_cell HL.out.m 0).trans rfl; have m1 := (blk_cell HL.out.m 1).trans rfl; have q0 := (blk_cell HL.out.p 0).trans rfl; have q1 := (blk_cell HL.out.p 1).trans rfl; have r0 := (blk_cell HL.out.q 0).trans rfl; have r1 := (blk_cell HL.out.q 1).trans rfl; clear hb; (cases b <;> try have Q6 := Aside0.mk (hq rfl)); all_goals clear hq) | (go_at_call 8; refine (switchboardtop_lives.calls true _ rfl).mono ?_; rintro e_ w9 ⟨rfl, hb⟩; have HB9 := Aside0.mk (below_step HL.out.hb hb); clear hb))
  any_goals (go_ret; exact ⟨rfl, HB9.out⟩)
  have qb5 := Q5.out
  have qb6 := Q6.out
  have hsh := good_short qb5.M.2.1 (fwdV_good ch ls tk qb5.T)
  obtain ⟨k7, hk7⟩ := (same15 (a := fwdV ch ls tk) rfl hsh.1 hsh.2).rounds
  have S7 := Aside0.mk hk7
  obtain ⟨kP, hEP⟩ := qb5.run
  obtain ⟨kQ, hEQ⟩ := qb6.run
  have HEP := Aside0.mk hEP
  have HEQ := Aside0.mk hEQ
  clear hsh hk7 hEP hEQ qb5 qb6
  go_upto_region 5 with (first | (go_at_call 16; (with_reducible refine (switchboardtop_ends.calls _ n A0 c0 ls e1 A1 c1 p1 A3 c3 tk kP (mapsR ch ls tk e1 p1) HEP.out (Kd.C_below HR.out HL.out.hb) HC.out (Kd.C_below HP.out HL.out.hb) HPC.out (Kd.C_below HT.out HL.out.hb) HTC.out).mono ?_); rintro e_ w7 ⟨va, rfl, hv, hb⟩; rw [mapsR_end] at hv; have HVva := Aside0.mk hv; have NL := Aside0.mk (HL.out.below hb); clear HL m0 m1 q0 q1 r0 r1; have HL := NL; clear NL; have m0 := (blk_cell HL.out.m 0).trans rfl; have m1 := (blk_cell HL.out.m 1).trans rfl; have q0 := (blk_cell HL.out.p 0).trans rfl; have q1 := (blk_cell HL.out.p 1).trans rfl; have r0 := (blk_cell HL.out.q 0).trans rfl; have r1 := (blk_cell HL.out.q 1).trans rfl; clear hv hb) | (go_at_call 16; (with_reducible refine (switchboardtop_ends.calls _ n A0 c0 ls e2 A2 c2 p2 A3 c3 tk kQ (mapsR ch ls tk e2 p2) HEQ.out (Kd.C_below HR.out HL.out.hb) HC.out (Kd.C_below HQ.out HL.out.hb) HQC.out (Kd.C_below HT.out HL.out.hb) HTC.out).mono ?_); rintro e_ w8 ⟨vz, rfl, hv, hb⟩; rw [mapsR_end] at hv; have HVvz := Aside0.mk hv; have HVb := Aside0.mk (Kd.V_below HVva.out hb); have NL := Aside0.mk (HL.out.below hb); clear HL m0 m1 q0 q1 r0 r1; have HL := NL; clear NL; have m0 := (blk_cell HL.out.m 0).trans rfl; have m1 := (blk_cell HL.out.m 1).trans rfl; have q0 := (blk_cell HL.out.p 0).trans rfl; have q1 := (blk_cell HL.out.p 1).trans rfl; have r0 := (blk_cell HL.out.q 0).trans rfl; have r1 := (blk_cell HL.out.q 1).trans rfl; clear hv hb))
  obtain ⟨B1, d1, rfl⟩ := Kd.V_slice HVb.out
  obtain ⟨B2, d2, rfl⟩ := Kd.V_slice HVvz.out
  go_wp2_with (first | (go_at_call 14; (with_reducible refine (switchboardref15_Same.calls k7 B1 d1 (fwdV ch ls tk) B2 d2 (fwdV ch ls tk) true _ (Kd.V_reads' HVb.out).2.2 (Kd.V_reads' HVb.out).2.1 (Kd.V_reads' HVvz.out).2.2 (Kd.V_reads' HVvz.out).2.1 S7.out).mono ?_); rintro e_ w10 ⟨rfl, hd⟩; have NL := Aside0.mk (HL.out.below hd.below); clear hd HL; have HL := NL) | (go_at_call 8; refine (switchboardtop_lives.calls true _ rfl).mono ?_; rintro e_ w9 ⟨rfl, hb⟩; have HB9 := Aside0.mk (below_step HL.out.hb hb); clear hb))
  go_ret
  exact ⟨rfl, HB9.out⟩
end Go.Proofs.Ytfipiohchnaglaa.Pu
