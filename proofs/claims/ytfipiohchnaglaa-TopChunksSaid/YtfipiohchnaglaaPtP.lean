/- Own text, by hand: bytes, pieces and experts: the plain side. -/
import Derived.Laws.BitsAllLaws
import Derived.Test.YtfipiohchnaglaaPt0
import Derived.Test.YtfipiohchnaglaaPt1
import Derived.Test.YtfipiohchnaglaaPt2
import Derived.Test.YtfipiohchnaglaaPt3
import Derived.Test.YtfipiohchnaglaaPt4
import Derived.Test.YtfipiohchnaglaaPt5
import Derived.Test.YtfipiohchnaglaaPt6
import Derived.Test.YtfipiohchnaglaaPt7
import Derived.Test.YtfipiohchnaglaaPt8
import Derived.Test.YtfipiohchnaglaaPt9
import Derived.Test.YtfipiohchnaglaaPt10
import Derived.Test.YtfipiohchnaglaaPt11
import Derived.Test.YtfipiohchnaglaaPtC
import Derived.Test.YtfipiohchnaglaaPtX
import Derived.Test.YtfipiohchnaglaaPtI
import Derived.Test.YtfipiohchnaglaaPtJ
namespace Go.Proofs.Ytfipiohchnaglaa.Pt
open Go.RowKit Go.Proofs.YtfipiohchnaglaaW.PrintWords Go.Proofs.YtfipiohchnaglaaW.PrintLast Go.Proofs.YtfipiohchnaglaaW.PrintMore
attribute [local go_sem] max2_int min2_int max_two min_two max_three min_three max_four min_four
set_option linter.unusedVariables false
set_option linter.unusedSimpArgs false

theorem wrap_small {i : Int} (h0 : -9223372036854775808 ≤ i) (h1 : i < 9223372036854775808) : wrap64 i = i := by
  unfold wrap64
  omega

theorem ev_rounds {g : Nat → Option Bool} (h : Ev g true) : ∃ k, g k = some true := h.rounds
theorem ev_shift {α : Type} {g : Nat → Option α} {r : α} (h : Ev (fun k => g (k + 1)) r) : Ev g r := Ev.step (fun _ => rfl) h

/-! ### Numbers as bytes, and back -/
theorem bt_list (s : ByteArray) (i : Nat) : bt s (i : Int) = ((s.data.toList.getD i 0).toNat : Int) := by
  unfold bt
  rw [Int.toNat_natCast]
  split
  · rename_i h
    have h' : i < s.data.toList.length := by rw [Array.length_toList]; exact h
    rw [List.getD_eq_getElem?_getD, List.getElem?_eq_getElem h']
    rfl
  · rename_i h
    have h' : s.data.toList.length ≤ i := by rw [Array.length_toList]; exact Nat.le_of_not_lt h
    rw [List.getD_eq_getElem?_getD, List.getElem?_eq_none h']
    rfl
def bsOf (n : Int) : List UInt8 := [UInt8.ofNat (n % 256).toNat, UInt8.ofNat ((n / 256) % 256).toNat, UInt8.ofNat ((n / 65536) % 256).toNat, UInt8.ofNat ((n / 16777216) % 256).toNat]
theorem four4_bs (n : Int) : four4 n = bsOf n := by
  rw [four4_eq]
  unfold fourS
  rw [strOfNums_data]
  rfl
theorem byte_of (x : Int) : ((UInt8.ofNat (x % 256).toNat).toNat : Int) = x % 256 := by
  rw [UInt8.toNat_ofNat']
  omega
theorem flat4_get : ∀ (ns : List Int) (i : Nat) (h : i < ns.length) (r : Nat), r < 4 → ∀ t : List UInt8, (ns.flatMap four4 ++ t).getD (4 * i + r) 0 = (bsOf ns[i]).getD r 0 := by
  intro ns
  induction ns with
  | nil => intro i h; cases h
  | cons n ns ih =>
    intro i h r hr t
    have e4 : (four4 n).length = 4 := four4_length n
    rw [List.flatMap_cons, List.append_assoc]
    cases i with
    | zero =>
      rw [Nat.mul_zero, Nat.zero_add, List.getD_eq_getElem?_getD, List.getElem?_append_left (by omega), four4_bs]
      rw [List.getD_eq_getElem?_getD]
      rfl
    | succ i =>
      have e : 4 * (i + 1) + r = 4 + (4 * i + r) := by omega
      rw [List.getD_eq_getElem?_getD, e, List.getElem?_append_right (by omega), e4, Nat.add_sub_cancel_left, ← List.getD_eq_getElem?_getD]
      exact ih i (by simpa using h) r hr t
theorem or4 (a b c d : Nat) (ha : a < 256) (hb : b < 256) (hc : c < 256) (hd : d < 256) :
    Go.bits .or .u32 (Go.bits .or .u32 (Go.bits .or .u32 (((a : Nat) : Int) % 4294967296) (((((b : Nat) : Int) % 4294967296) * 256) % 4294967296)) (((((c : Nat) : Int) % 4294967296) * 65536) % 4294967296)) (((((d : Nat) : Int) % 4294967296) * 16777216) % 4294967296) = ((a + 256 * b + 65536 * c + 16777216 * d : Nat) : Int) := by
  have e1 : (((a : Nat) : Int) % 4294967296) = (a : Int) := by omega
  have e2 : (((((b : Nat) : Int) % 4294967296) * 256) % 4294967296) = ((256 * b : Nat) : Int) := by omega
  have e3 : (((((c : Nat) : Int) % 4294967296) * 65536) % 4294967296) = ((65536 * c : Nat) : Int) := by omega
  have e4 : (((((d : Nat) : Int) % 4294967296) * 16777216) % 4294967296) = ((16777216 * d : Nat) : Int) := by omega
  have o1 : a ||| 256 * b = a + 256 * b := by
    have := Nat.two_pow_add_eq_or_of_lt (i := 8) (b := a) (by omega) b
    rw [Nat.or_comm, show (256 : Nat) = 2 ^ 8 from rfl, ← this, Nat.add_comm]
  have o2 : (a + 256 * b) ||| 65536 * c = a + 256 * b + 65536 * c := by
    have := Nat.two_pow_add_eq_or_of_lt (i := 16) (b := a + 256 * b) (by omega) c
    rw [Nat.or_comm, show (65536 : Nat) = 2 ^ 16 from rfl, ← this, Nat.add_comm]
  have o3 : (a + 256 * b + 65536 * c) ||| 16777216 * d = a + 256 * b + 65536 * c + 16777216 * d := by
    have := Nat.two_pow_add_eq_or_of_lt (i := 24) (b := a + 256 * b + 65536 * c) (by omega) d
    rw [Nat.or_comm, show (16777216 : Nat) = 2 ^ 24 from rfl, ← this, Nat.add_comm]
  rw [e1, e2, e3, e4, u32_or_nat a (256 * b) (by omega) (by omega), o1, u32_or_nat _ _ (by omega) (by omega), o2, u32_or_nat _ _ (by omega) (by omega), o3]
/-- The i-th number of a text that begins with numbers. -/
theorem number_at (ns : List Int) (t : List UInt8) (s : ByteArray) (hs : s.data.toList = ns.flatMap four4 ++ t) (i : Nat) (h : i < ns.length) (hl : ns.length ≤ 100000) (hr : -2147483648 ≤ ns[i] ∧ ns[i] < 2147483648) : chunk_number.f s (i : Int) = some ns[i] := by
  have hsz : 4 * ns.length ≤ s.size := by
    have e : s.size = s.data.toList.length := (Array.length_toList).symm
    have e2 : ∀ l : List Int, (l.flatMap four4).length = 4 * l.length := row4_length
    rw [e, hs, List.length_append, e2]
    omega
  have w0 : wrap64 (4 * (i : Int)) = ((4 * i + 0 : Nat) : Int) := by rw [wrap_ok (by omega) (by omega)]; omega
  have w1 : wrap64 (((4 * i + 0 : Nat) : Int) + 1) = ((4 * i + 1 : Nat) : Int) := by rw [wrap_ok (by omega) (by omega)]; omega
  have w2 : wrap64 (((4 * i + 0 : Nat) : Int) + 2) = ((4 * i + 2 : Nat) : Int) := by rw [wrap_ok (by omega) (by omega)]; omega
  have w3 : wrap64 (((4 * i + 0 : Nat) : Int) + 3) = ((4 * i + 3 : Nat) : Int) := by rw [wrap_ok (by omega) (by omega)]; omega
  have b0 := flat4_get ns i h 0 (by omega) t
  have b1 := flat4_get ns i h 1 (by omega) t
  have b2 := flat4_get ns i h 2 (by omega) t
  have b3 := flat4_get ns i h 3 (by omega) t
  rw [← hs] at b0 b1 b2 b3
  unfold chunk_number.f
  rw [w0, w1, w2, w3, if_pos (by omega), if_pos (by omega), if_pos (by omega), if_pos (by omega), if_pos (by omega), if_pos (by omega), if_pos (by omega), if_pos (by omega), bt_list, bt_list, bt_list, bt_list, b0, b1, b2, b3]
  obtain ⟨n, hn⟩ : ∃ n, n = ns[i] := ⟨_, rfl⟩
  rw [← hn] at hr ⊢
  have q0 := byte_of n
  have q1 := byte_of (n / 256)
  have q2 := byte_of (n / 65536)
  have q3 := byte_of (n / 16777216)
  have o := or4 (UInt8.ofNat (n % 256).toNat).toNat (UInt8.ofNat ((n / 256) % 256).toNat).toNat (UInt8.ofNat ((n / 65536) % 256).toNat).toNat (UInt8.ofNat ((n / 16777216) % 256).toNat).toNat (UInt8.toNat_lt _) (UInt8.toNat_lt _) (UInt8.toNat_lt _) (UInt8.toNat_lt _)
  show some (wrap64 (wrap32 _)) = some n
  congr 1
  refine (congrArg (fun x => wrap64 (wrap32 x)) o).trans ?_
  have q : ((((UInt8.ofNat (n % 256).toNat).toNat + 256 * (UInt8.ofNat ((n / 256) % 256).toNat).toNat + 65536 * (UInt8.ofNat ((n / 65536) % 256).toNat).toNat + 16777216 * (UInt8.ofNat ((n / 16777216) % 256).toNat).toNat : Nat)) : Int) = n % 4294967296 := by omega
  show wrap64 (wrap32 _) = n
  rw [q]
  unfold wrap64 wrap32
  omega

/-! ### Rows of numbers, and the text -/
theorem number_at' (ns : List Int) (t : List UInt8) (s : ByteArray) (hs : s.data.toList = ns.flatMap four4 ++ t) (hl : ns.length ≤ 100000) {i : Nat} {v : Int} (hv : ns[i]? = some v) (hr : -2147483648 ≤ v ∧ v < 2147483648) : chunk_number.f s (i : Int) = some v := by
  obtain ⟨h, e⟩ := List.getElem?_eq_some_iff.1 hv
  subst e
  exact number_at ns t s hs i h hl hr
theorem flat_get (L : Nat) : ∀ (m : List (List Int)), (∀ x ∈ m, x.length = L) → ∀ (r c : Nat), r < m.length → c < L → ∀ t : List Int, (m.flatten ++ t)[r * L + c]? = some ((m.getD r []).getD c 0) := by
  intro m
  induction m with
  | nil => intro _ r c h; cases h
  | cons x m ih =>
    intro hx r c hr hc t
    have hxl := hx x (List.mem_cons_self ..)
    rw [List.flatten_cons, List.append_assoc]
    cases r with
    | zero =>
      rw [Nat.zero_mul, Nat.zero_add, List.getElem?_append_left (by omega), List.getD_cons_zero, List.getD_eq_getElem?_getD, List.getElem?_eq_getElem (by omega)]
      rfl
    | succ r =>
      have e : (r + 1) * L + c = L + (r * L + c) := by rw [Nat.succ_mul]; omega
      rw [e, List.getElem?_append_right (by omega), hxl, Nat.add_sub_cancel_left, List.getD_cons_succ]
      exact ih (fun y hy => hx y (List.mem_cons_of_mem _ hy)) r c (by simpa using hr) hc t
theorem take_getD (l : List Int) {c : Nat} (h : c < l.length) : l.take c ++ [l.getD c 0] = l.take (c + 1) := by
  rw [List.take_succ_eq_append_getElem h, List.getD_eq_getElem?_getD, List.getElem?_eq_getElem h]
  rfl
theorem rows_l1 (s : ByteArray) (a L : Nat) (m : List (List Int)) (ha : a ≤ 1000) (hL : L ≤ 30) (hm : m.length ≤ 30) (hx : ∀ x ∈ m, x.length = L)
    (H : ∀ r c, r < m.length → c < L → chunk_number.f s ((a + r * L + c : Nat) : Int) = some ((m.getD r []).getD c 0)) (r : Nat) (hr : r < m.length)
    (hn : Ev (fun k => chunk_rows.l0 k s (a : Int) (L : Int) (m.take (r + 1)) (m.length : Int) ((r + 1 : Nat) : Int)) m) :
    ∀ (d c : Nat), c + d = L → Ev (fun k => chunk_rows.l1 k s (a : Int) (L : Int) (m.take r) (r : Int) ((m.getD r []).take c) (m.length : Int) (r : Int) (L : Int) (c : Int)) m := by
  have hrl : (m.getD r []).length = L := by
    rw [List.getD_eq_getElem?_getD, List.getElem?_eq_getElem hr]
    exact hx _ (List.getElem_mem hr)
  have hw1 : wrap64 ((r : Int) + 1) = ((r + 1 : Nat) : Int) := by rw [wrap_ok (by omega) (by omega)]; omega
  have hr58 : r < 5864062014805 := Nat.lt_trans (show r < 1000 by omega) (by decide)
  have hp : r * L ≤ 30 * 30 := Nat.mul_le_mul (by omega) hL
  have hwp : wrap64 ((r : Int) * (L : Int)) = ((r * L : Nat) : Int) := by rw [← Int.natCast_mul, wrap_ok (by omega) (by omega)]
  have hwa : wrap64 ((a : Int) + ((r * L : Nat) : Int)) = ((a + r * L : Nat) : Int) := by rw [wrap_ok (by omega) (by omega)]; omega
  intro d
  induction d with
  | zero =>
    intro c hc
    refine ev_shift ?_
    simp only [chunk_rows.l1, if_neg (show ¬ (c : Int) < (L : Int) by omega), if_pos (show (m.take r).length < 5864062014805 from Nat.lt_of_le_of_lt (List.length_take_le r _) hr58), hw1]
    rw [List.take_of_length_le (show (m.getD r []).length ≤ c by omega), show m.take r ++ [m.getD r []] = m.take (r + 1) by rw [List.take_succ_eq_append_getElem hr, List.getD_eq_getElem?_getD, List.getElem?_eq_getElem hr]; rfl]
    exact hn
  | succ d ih =>
    intro c hc
    have hc17 : c < 17592186044416 := Nat.lt_trans (show c < 1000 by clear hw1 hwp hwa; omega) (by decide)
    have hcl : c < L := by clear hw1 hwp hwa; omega
    have hcL : (c : Int) < (L : Int) := Int.ofNat_lt.2 hcl
    have hcr : c < (m.getD r []).length := hrl.symm ▸ hcl
    have hwc : wrap64 (((a + r * L : Nat) : Int) + (c : Int)) = ((a + r * L + c : Nat) : Int) := by rw [wrap_ok (by omega) (by omega)]; omega
    have hw2 : wrap64 ((c : Int) + 1) = ((c + 1 : Nat) : Int) := by rw [wrap_ok (by omega) (by omega)]; omega
    refine ev_shift ?_
    simp only [chunk_rows.l1, if_pos hcL, hwp, hwa, hwc, H r c hr hcl, Option.bind_some, if_pos (show ((m.getD r []).take c).length < 17592186044416 from Nat.lt_of_le_of_lt (List.length_take_le c _) hc17), hw2]
    rw [take_getD _ hcr]
    exact ih (c + 1) (by clear hw1 hwp hwa hwc hw2; omega)
theorem rows_l0 (s : ByteArray) (a L : Nat) (m : List (List Int)) (ha : a ≤ 1000) (hL : L ≤ 30) (hm : m.length ≤ 30) (hx : ∀ x ∈ m, x.length = L)
    (H : ∀ r c, r < m.length → c < L → chunk_number.f s ((a + r * L + c : Nat) : Int) = some ((m.getD r []).getD c 0)) : ∀ (d r : Nat), r + d = m.length → Ev (fun k => chunk_rows.l0 k s (a : Int) (L : Int) (m.take r) (m.length : Int) (r : Int)) m := by
  intro d
  induction d with
  | zero =>
    intro r hr
    refine ev_shift ?_
    simp only [chunk_rows.l0, if_neg (show ¬ (r : Int) < (m.length : Int) by omega)]
    rw [List.take_of_length_le (by omega)]
    exact Ev.now _
  | succ d ih =>
    intro r hr
    refine ev_shift ?_
    simp only [chunk_rows.l0, if_pos (show (r : Int) < (m.length : Int) by omega)]
    exact rows_l1 s a L m ha hL hm hx H r (by omega) (ih (r + 1) (by omega)) L 0 (by omega)
theorem rows_ev (s : ByteArray) (a L : Nat) (m : List (List Int)) (ha : a ≤ 1000) (hL : L ≤ 30) (hm : m.length ≤ 30) (hx : ∀ x ∈ m, x.length = L)
    (H : ∀ r c, r < m.length → c < L → chunk_number.f s ((a + r * L + c : Nat) : Int) = some ((m.getD r []).getD c 0)) : Ev (fun k => chunk_rows.f k s (a : Int) (m.length : Int) (L : Int)) m := by
  unfold chunk_rows.f
  exact rows_l0 s a L m ha hL hm hx H m.length 0 (by omega)
theorem mat4_flat (m : List (List Int)) : mat4 m = m.flatten.flatMap four4 := by
  unfold mat4 row4
  induction m with
  | nil => rfl
  | cons x m ih => rw [List.flatMap_cons, List.flatten_cons, List.flatMap_append, ih]
def numsOf (f0 f1 : List (List Int)) (d : Int) : List Int := (f0.length : Int) :: d :: (f0.flatten ++ f1.flatten)
theorem expL_nums (f0 f1 : List (List Int)) (d : Int) : expL f0 f1 d = (numsOf f0 f1 d).flatMap four4 := by
  unfold expL numsOf
  rw [List.flatMap_cons, List.flatMap_cons, List.flatMap_append, mat4_flat, mat4_flat, List.append_assoc, List.append_assoc]
theorem expS_bytes (f0 f1 : List (List Int)) (d : Int) : (expS f0 f1 d).data.toList = (numsOf f0 f1 d).flatMap four4 ++ four4 (crcF ⟨(expL f0 f1 d).toArray⟩) := by
  unfold expS
  rw [ByteArray.data_append, Array.toList_append, ← expL_nums, four4_eq]
theorem flat_len (L : Nat) : ∀ (m : List (List Int)), (∀ x ∈ m, x.length = L) → m.flatten.length = m.length * L := by
  intro m
  induction m with
  | nil => intro _; simp
  | cons x m ih =>
    intro hx
    rw [List.flatten_cons, List.length_append, ih (fun y hy => hx y (List.mem_cons_of_mem _ hy)), hx x (List.mem_cons_self ..), List.length_cons, Nat.succ_mul, Nat.add_comm]
/-- What Export wrote is what Import asks for. -/
theorem imp_h {f0 f1 : List (List Int)} {dn : Nat} (h0 : 1 ≤ f0.length ∧ f0.length ≤ 8) (h1 : 1 ≤ dn ∧ dn ≤ 8) (hx0 : ∀ x ∈ f0, x.length = dn) (hl1 : f1.length = dn) (hx1 : ∀ x ∈ f1, x.length = f0.length)
    (hv0 : ∀ x ∈ f0, ∀ y ∈ x, -2147483648 ≤ y ∧ y < 2147483648) (hv1 : ∀ x ∈ f1, ∀ y ∈ x, -2147483648 ≤ y ∧ y < 2147483648) (hE : expert_Right.f f0 f1 (dn : Int) = some true) :
    ∃ k, ImpH (expS f0 f1 (dn : Int)) f0 f1 (dn : Int) k (((expS f0 f1 (dn : Int)).size : Int) - 4) ⟨(expL f0 f1 (dn : Int)).toArray⟩ (fourS (crcF ⟨(expL f0 f1 (dn : Int)).toArray⟩)) (crcF ⟨(expL f0 f1 (dn : Int)).toArray⟩) := by
  have hb := expS_bytes f0 f1 (dn : Int)
  have fl0 := flat_len dn f0 hx0
  have fl1 := flat_len f0.length f1 hx1
  have hnl : (numsOf f0 f1 (dn : Int)).length = 2 + (f0.length * dn + f1.length * f0.length) := by
    unfold numsOf
    rw [List.length_cons, List.length_cons, List.length_append, fl0, fl1]
    omega
  have hp : f0.length * dn ≤ 8 * 8 := Nat.mul_le_mul h0.2 h1.2
  have hpc : f1.length * f0.length = f0.length * dn := by rw [hl1, Nat.mul_comm]
  obtain ⟨p, hpe⟩ : ∃ p, p = f0.length * dn := ⟨_, rfl⟩
  rw [hpc, ← hpe] at hnl
  rw [← hpe] at hp fl0
  have eL : (expL f0 f1 (dn : Int)).length = 8 + 8 * p := by
    rw [expL_nums]
    have e2 : ∀ l : List Int, (l.flatMap four4).length = 4 * l.length := row4_length
    rw [e2, hnl]
    omega
  have sSz : (⟨(expL f0 f1 (dn : Int)).toArray⟩ : ByteArray).size = 8 + 8 * p := by show (expL f0 f1 (dn : Int)).toArray.size = _; rw [List.size_toArray, eL]
  have eS : (expS f0 f1 (dn : Int)).size = 12 + 8 * p := by
    unfold expS
    rw [ByteArray.size_append, sSz, fourS_size]
    omega
  have num : ∀ (i : Nat) (v : Int), (numsOf f0 f1 (dn : Int))[i]? = some v → -2147483648 ≤ v ∧ v < 2147483648 → chunk_number.f (expS f0 f1 (dn : Int)) (i : Int) = some v := fun i v hv hr => number_at' _ _ _ hb (by omega) hv hr
  have get0 : ∀ r c, r < f0.length → c < dn → (numsOf f0 f1 (dn : Int))[2 + r * dn + c]? = some ((f0.getD r []).getD c 0) := fun r c hr hc => by
    have h := flat_get dn f0 hx0 r c hr hc f1.flatten
    rw [show 2 + r * dn + c = (r * dn + c) + 2 by omega]
    exact h
  have get1 : ∀ r c, r < f1.length → c < f0.length → (numsOf f0 f1 (dn : Int))[2 + p + r * f0.length + c]? = some ((f1.getD r []).getD c 0) := fun r c hr hc => by
    have h := flat_get f0.length f1 hx1 r c hr hc []
    rw [List.append_nil] at h
    rw [show 2 + p + r * f0.length + c = (p + (r * f0.length + c)) + 2 by omega]
    show (f0.flatten ++ f1.flatten)[p + (r * f0.length + c)]? = _
    rw [List.getElem?_append_right (by omega), fl0, Nat.add_sub_cancel_left]
    exact h
  have inR0 : ∀ (m : List (List Int)), (∀ x ∈ m, ∀ y ∈ x, -2147483648 ≤ y ∧ y < 2147483648) → ∀ r c, -2147483648 ≤ (m.getD r []).getD c 0 ∧ (m.getD r []).getD c 0 < 2147483648 := fun m hm r c => by
    by_cases hr : r < m.length
    · rw [List.getD_eq_getElem?_getD, List.getD_eq_getElem?_getD, List.getElem?_eq_getElem hr]
      by_cases hc : c < m[r].length
      · rw [Option.getD_some, List.getElem?_eq_getElem hc]
        exact hm _ (List.getElem_mem hr) _ (List.getElem_mem hc)
      · rw [Option.getD_some, List.getElem?_eq_none (Nat.le_of_not_lt hc)]
        decide
    · rw [List.getD_eq_getElem?_getD (l := m), List.getElem?_eq_none (Nat.le_of_not_lt hr)]
      simp
  have hr0 : Ev (fun k => chunk_rows.f k (expS f0 f1 (dn : Int)) 2 (f0.length : Int) (dn : Int)) f0 := rows_ev _ 2 dn f0 (by omega) (by omega) (by omega) hx0 (fun r c hr hc => num _ _ (get0 r c hr hc) (inR0 f0 hv0 r c))
  have hr1 : Ev (fun k => chunk_rows.f k (expS f0 f1 (dn : Int)) (2 + (f0.length : Int) * (dn : Int)) (dn : Int) (f0.length : Int)) f1 := by
    have h := rows_ev (expS f0 f1 (dn : Int)) (2 + p) f0.length f1 (by omega) (by omega) (by omega) hx1 (fun r c hr hc => num _ _ (get1 r c hr hc) (inR0 f1 hv1 r c))
    rw [show ((2 + p : Nat) : Int) = 2 + (f0.length : Int) * (dn : Int) by rw [hpe]; simp, hl1] at h
    exact h
  obtain ⟨K0, e0⟩ := hr0
  obtain ⟨K1, e1⟩ := hr1
  refine ⟨max K0 K1, by omega, by omega, by rw [eS]; omega, rfl, ?_, ?_, by omega, rfl, four_is _, num 0 _ rfl (by omega), num 1 _ rfl (by omega), h0, by omega, ?_, e0 _ (Nat.le_max_left _ _), e1 _ (Nat.le_max_right _ _), hE⟩
  · rw [eS]
    have e : (((12 + 8 * p : Nat) : Int) - 4).toNat = 8 + 8 * p := by omega
    rw [e]
    unfold expS
    apply ByteArray.ext
    rw [ByteArray.data_extract, ByteArray.data_append]
    apply Array.ext'
    rw [Array.toList_extract, Array.toList_append]
    simp [List.extract, eL]
    exact List.take_of_length_le (by rw [← four4_eq, four4_length]; omega)
  · rw [eS]
    have e : (((12 + 8 * p : Nat) : Int) - 4).toNat = 8 + 8 * p := by omega
    rw [e]
    unfold expS
    apply ByteArray.ext
    rw [ByteArray.data_extract, ByteArray.data_append]
    apply Array.ext'
    rw [Array.toList_extract, Array.toList_append]
    simp [List.extract, eL]
  · rw [eS]
    have := Int.natCast_mul f0.length dn
    rw [← hpe] at this
    rw [Int.mul_assoc, ← this]
    omega

/-! ### Pieces, joined -/
theorem join_flat : ∀ (xs : List ByteArray), joinL xs = (xs.map (·.data.toList)).flatten := by
  intro xs
  unfold joinL Lib.join
  induction xs with
  | nil => rfl
  | cons x xs ih =>
    cases xs with
    | nil => simp [List.intercalate]
    | cons y ys =>
      simp only [List.intercalate, List.map_cons, List.intersperse, List.flatten_cons, List.nil_append] at ih ⊢
      rw [ih]
theorem ext_bytes (s : ByteArray) (n : Nat) (h : n ≤ s.size) : (s.extract 0 n).data.toList ++ (s.extract n s.size).data.toList = s.data.toList := by
  have e : s.size = s.data.toList.length := (Array.length_toList).symm
  rw [ByteArray.data_extract, ByteArray.data_extract, Array.toList_extract, Array.toList_extract]
  obtain ⟨l, hl⟩ : ∃ l, l = s.data.toList := ⟨_, rfl⟩
  rw [← hl] at e ⊢
  simp only [List.extract, List.drop_zero, Nat.sub_zero]
  rw [List.take_of_length_le (show (l.drop n).length ≤ s.size - n by rw [List.length_drop, e]; omega)]
  exact List.take_append_drop n l
theorem ext_size (s : ByteArray) (n : Nat) (h : n ≤ s.size) : (s.extract n s.size).size = s.size - n := by
  rw [ByteArray.size_extract]
  omega
/-- Cut ends, and its pieces joined are the text. -/
theorem cut_l0 (z : Int) (hz : 1 ≤ z ∧ z ≤ 64) : ∀ (n : Nat) (s : ByteArray), s.size ≤ n → n ≤ 100000 → ∀ (out : List ByteArray), out.length + n ≤ 100000 →
    ∃ l, Ev (fun k => chunk_Cut.l0 k s z out) (out ++ l, true) ∧ (l.map (·.data.toList)).flatten = s.data.toList ∧ l.length ≤ n ∧ (0 < s.size → l ≠ []) := by
  intro n
  induction n with
  | zero =>
    intro s hs _ out _
    refine ⟨[], ev_shift ?_, ?_, Nat.le_refl 0, fun h => absurd h (by omega)⟩
    · simp only [chunk_Cut.l0, if_neg (show ¬ (s.size : Int) > 0 by omega), List.append_nil]
      exact Ev.now _
    · have e : s.data.toList.length = s.size := Array.length_toList
      rw [List.eq_nil_of_length_eq_zero (show s.data.toList.length = 0 by omega)]
      rfl
  | succ n ih =>
    intro s hs hn out ho
    by_cases h0 : (s.size : Int) > 0
    · have hm : 0 ≤ mn z (s.size : Int) ∧ mn z (s.size : Int) ≤ (s.size : Int) ∧ 1 ≤ mn z (s.size : Int) := by unfold mn; split <;> omega
      obtain ⟨q, hq⟩ : ∃ q : Nat, mn z (s.size : Int) = (q : Int) := ⟨(mn z (s.size : Int)).toNat, by omega⟩
      rw [hq] at hm
      have hqs : q ≤ s.size := by omega
      have hout : out.length < 8796093022208 := Nat.lt_trans (show out.length < 1000000 by omega) (by decide)
      have hes := ext_size s q hqs
      obtain ⟨l, hl, hf, hc, _⟩ := ih (s.extract q s.size) (by omega) (by omega) (out ++ [s.extract 0 q]) (by rw [List.length_append, List.length_singleton]; omega)
      refine ⟨s.extract 0 q :: l, ev_shift ?_, ?_, by rw [List.length_cons]; omega, fun _ => by simp⟩
      · simp only [chunk_Cut.l0, if_pos h0, hq, if_pos hm.1, if_pos hm.2.1, if_pos hout, Int.toNat_natCast]
        rw [List.append_assoc, List.singleton_append] at hl
        exact hl
      · rw [List.map_cons, List.flatten_cons, hf]
        exact ext_bytes s q hqs
    · refine ⟨[], ev_shift ?_, ?_, Nat.zero_le _, fun h => absurd h (by omega)⟩
      · simp only [chunk_Cut.l0, if_neg h0, List.append_nil]
        exact Ev.now _
      · have e : s.data.toList.length = s.size := Array.length_toList
        rw [List.eq_nil_of_length_eq_zero (show s.data.toList.length = 0 by omega)]
        rfl
theorem cut_ev (s : ByteArray) (z : Int) (hz : 1 ≤ z ∧ z ≤ 64) (hs : 0 < s.size) (hn : s.size ≤ 10000) : ∃ l, Ev (fun k => chunk_Cut.f k s z) (l, true) ∧ s = ⟨(joinL l).toArray⟩ ∧ (joinL l).length = s.size ∧ l.length ≤ 10000 ∧ l ≠ [] := by
  obtain ⟨l, hl, hf, hc, hne⟩ := cut_l0 z hz s.size s (Nat.le_refl _) (by omega) [] (by simp; omega)
  have hj : joinL l = s.data.toList := (join_flat l).trans hf
  refine ⟨l, ?_, ?_, ?_, by omega, hne hs⟩
  · unfold chunk_Cut.f
    rw [List.nil_append] at hl
    simp only [if_neg (show ¬ z < 1 by omega), decide_eq_false (show ¬ z > 64 by omega)]
    refine ev_shift ?_
    simp only [chunk_Cut.j0, if_neg (show ¬ (false = true) by decide)]
    exact hl
  · rw [hj]
  · rw [hj]; exact Array.length_toList


end Go.Proofs.Ytfipiohchnaglaa.Pt
