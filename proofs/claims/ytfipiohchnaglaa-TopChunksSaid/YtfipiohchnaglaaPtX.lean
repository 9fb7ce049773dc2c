/- Own text, by hand: chunk.Export. -/
import Derived.Test.YtfipiohchnaglaaPt0
import Derived.Test.YtfipiohchnaglaaPt1
import Derived.Test.YtfipiohchnaglaaPt2
import Derived.Test.YtfipiohchnaglaaPt3
import Derived.Test.YtfipiohchnaglaaPt4
import Derived.Test.YtfipiohchnaglaaPt5
import Derived.Test.YtfipiohchnaglaaPt6
import Derived.Test.YtfipiohchnaglaaPt7
import Derived.Test.YtfipiohchnaglaaPt8
import Derived.Test.YtfipiohchnaglaaPt9
import Derived.Test.YtfipiohchnaglaaPt10
import Derived.Test.YtfipiohchnaglaaPt11
import Derived.Test.YtfipiohchnaglaaPtS
import Derived.Test.YtfipiohchnaglaaPtC
namespace Go.Proofs.Ytfipiohchnaglaa.Pt
open Go.RowKit Go.Proofs.YtfipiohchnaglaaW.PrintWords Go.Proofs.YtfipiohchnaglaaW.PrintLast Go.Proofs.YtfipiohchnaglaaW.PrintMore
attribute [local go_sem] max2_int min2_int max_two min_two max_three min_three max_four min_four
set_option linter.unusedVariables false
set_option linter.unusedSimpArgs false

theorem wrap_ok {x : Int} (h0 : 0 ≤ x) (h1 : x < 1000000) : wrap64 x = x := by
  unfold wrap64
  omega
/-- A number's four bytes; a row's; rows'; an expert's bytes, and its text. -/
def fourS (n : Int) : ByteArray := strOfNums (([n % 256, (n / 256) % 256, (n / 65536) % 256, (n / 16777216) % 256] : List Int))
def four4 (n : Int) : List UInt8 := (fourS n).data.toList
def row4 (r : List Int) : List UInt8 := r.flatMap four4
def mat4 (m : List (List Int)) : List UInt8 := m.flatMap row4
def expL (f0 f1 : List (List Int)) (d : Int) : List UInt8 := four4 (f0.length : Int) ++ four4 d ++ mat4 f0 ++ mat4 f1
def expS (f0 f1 : List (List Int)) (d : Int) : ByteArray := ⟨(expL f0 f1 d).toArray⟩ ++ fourS (crcF ⟨(expL f0 f1 d).toArray⟩)
theorem four4_eq (n : Int) : four4 n = (fourS n).data.toList := by unfold four4; rfl
theorem fourS_size (n : Int) : (fourS n).size = 4 := rfl
theorem fourS_len2 (n d : Int) : ([] : List UInt8).length + (fourS n ++ fourS d).size ≤ 1000000 := by
  rw [ByteArray.size_append, fourS_size, fourS_size]
  decide
theorem hdr_bytes (n d : Int) : ([] : List UInt8) ++ (fourS n ++ fourS d).data.toList = four4 n ++ four4 d := by
  unfold four4
  rw [List.nil_append, ByteArray.data_append, Array.toList_append]
theorem four_is (n : Int) : chunk_four.f n = some (fourS n) := by unfold chunk_four.f fourS; rfl
theorem four4_length (n : Int) : (four4 n).length = 4 := rfl
theorem row4_length (r : List Int) : (row4 r).length = 4 * r.length := by
  induction r with
  | nil => rfl
  | cons x r ih =>
    have h : (r.flatMap four4).length = 4 * r.length := ih
    show (List.flatMap four4 (x :: r)).length = _
    rw [List.flatMap_cons, List.length_append, four4_length, List.length_cons, h]
    omega
theorem row4_take (r : List Int) {j : Nat} (h : j < r.length) : row4 (r.take (j + 1)) = row4 (r.take j) ++ four4 (r.getD j 0) := by
  rw [List.take_succ_eq_append_getElem h, List.getD_eq_getElem?_getD, List.getElem?_eq_getElem h]
  unfold row4
  rw [List.flatMap_append, List.flatMap_cons, List.flatMap_nil, List.append_nil]
  rfl
theorem mat4_take (m : List (List Int)) {j : Nat} (h : j < m.length) : mat4 (m.take (j + 1)) = mat4 (m.take j) ++ row4 (m.getD j []) := by
  rw [List.take_succ_eq_append_getElem h, List.getD_eq_getElem?_getD, List.getElem?_eq_getElem h]
  unfold mat4
  rw [List.flatMap_append, List.flatMap_cons, List.flatMap_nil, List.append_nil]
  rfl
theorem builder_stringS (B b : Nat) (l : List UInt8) (S : ByteArray) (hS : S = ⟨l.toArray⟩) (w : World) (h : Lib.IsBuilderF 60 5 B b (Lib.byteCells l) w) (hBw : B ≤ w.heap.size) :
    Calls Try.prog 22 #[.pointer (some ⟨b, 0, none⟩)] w fun e w' => e = .returned (.string S) ∧ (Lib.IsBuilderF 60 5 B b (Lib.byteCells l) w' ∧ Below B w w' ∧ Lib.OthersKept 5 (some b) w w') := by rw [hS]; exact builder_string B b l w h hBw
/-- The rows that went out after i matrices; the i-th. -/
def upTo (f0 f1 : List (List Int)) : Nat → List UInt8
  | 0 => []
  | 1 => mat4 f0
  | _ + 2 => mat4 f0 ++ mat4 f1
def mOf (f0 f1 : List (List Int)) : Nat → List (List Int)
  | 0 => f0
  | _ + 1 => f1
theorem upTo_succ (f0 f1 : List (List Int)) {i : Nat} (h : i < 2) : upTo f0 f1 (i + 1) = upTo f0 f1 i ++ mat4 (mOf f0 f1 i) := by
  rcases i with _ | _ | i
  · rfl
  · rfl
  · omega
theorem row4_le {r : List Int} (h : r.length ≤ 30) : (row4 r).length ≤ 120 := by rw [row4_length]; omega
theorem mat4_le {m : List (List Int)} (h : ∀ r ∈ m, r.length ≤ 30) : (mat4 m).length ≤ 120 * m.length := by
  induction m with
  | nil => exact Nat.le_refl 0
  | cons x m ih =>
    have h1 : (m.flatMap row4).length ≤ 120 * m.length := ih (fun r hr => h r (List.mem_cons_of_mem _ hr))
    have h2 := row4_le (h x (List.mem_cons_self ..))
    show (List.flatMap row4 (x :: m)).length ≤ _
    rw [List.flatMap_cons, List.length_append, List.length_cons]
    omega
theorem upTo_le {f0 f1 : List (List Int)} (h0 : f0.length ≤ 30 ∧ ∀ r ∈ f0, r.length ≤ 30) (h1 : f1.length ≤ 30 ∧ ∀ r ∈ f1, r.length ≤ 30) (i : Nat) : (upTo f0 f1 i).length ≤ 7200 := by
  have e0 := mat4_le h0.2
  have e1 := mat4_le h1.2
  rcases i with _ | _ | i
  · exact Nat.zero_le _
  · show (mat4 f0).length ≤ _
    omega
  · show (mat4 f0 ++ mat4 f1).length ≤ _
    rw [List.length_append]
    omega
theorem builder_below {B b : Nat} {bs : List Value} {w w' : World} (h : Lib.IsBuilderF 60 5 B b bs w) (hb : Below w.heap.size w w') : Lib.IsBuilderF 60 5 B b bs w' := by
  have one : ∀ p, Lib.BuilderAtF 60 5 B b p bs w → Lib.BuilderAtF 60 5 B b p bs w' := fun p h => by
    have hlt := h.lt
    obtain ⟨hB, v, hk, hown, hne⟩ := h
    exact ⟨hB, v, (hb.block b hlt).trans hk, hown.kept (row := none) ⟨hb.os, hb.tape, hb.output, hb.size, fun k hk _ => hb.block k hk⟩ (by cases hv : v.ownBlock <;> simp), hne⟩
  exact h.elim (fun h => .inl (one _ h)) (fun h => .inr (one _ h))
theorem builder_new (W : World) : Lib.IsBuilderF 60 5 W.heap.size W.heap.size (Lib.byteCells []) (W.alloc (.cells #[.pointer none, .slice none 0 0] 60)) :=
  .inl ⟨Nat.le_refl _, .slice none 0 0, heap_alloc_new W _, World.ownsRowF_nil _ _ _ _, by simp [Value.ownBlock]⟩
/-- A write into a builder whose bytes are known. -/
theorem write_bytes (B b : Nat) (l : List UInt8) (s : ByteArray) (w : World) (h : Lib.IsBuilderF 60 5 B b (Lib.byteCells l) w) (hlen : l.length + s.size ≤ 1000000) (hBw : B ≤ w.heap.size) :
    Calls Try.prog 20 #[.pointer (some ⟨b, 0, none⟩), .string s] w fun e w' => e = .returned (.tuple #[.int .i64 s.size, .nilIface]) ∧ Lib.IsBuilderF 60 5 B b (Lib.byteCells (l ++ s.data.toList)) w' ∧ Below B w w' ∧ Lib.OthersKept 5 (some b) w w' :=
  (builder_write B b (Lib.byteCells l) s w h (by rw [Lib.byteCells_length]; omega) hBw).mono fun e w' ⟨he, h1, h2, h3⟩ => ⟨he, .inr (by
    have e2 : Lib.byteCells (l ++ s.data.toList) = Lib.byteCells l ++ Lib.strCells s := by unfold Lib.byteCells Lib.strCells; rw [List.map_append]
    rw [e2]
    exact h1), h2, h3⟩
set_option maxHeartbeats 8000000 in
set_option maxRecDepth 100000 in
theorem chunk_Export.calls (A0 : Option Addr) (c0 : Nat) (f0 : List (List Int)) (A1 : Option Addr) (c1 : Nat) (f1 : List (List Int)) (d : Int) (w : World) (hr0 : Kd.C (Kd.slice 3 (Kd.int .i64)) w A0 f0.length f0) (hc0 : f0.length ≤ c0) (hr1 : Kd.C (Kd.slice 3 (Kd.int .i64)) w A1 f1.length f1) (hc1 : f1.length ≤ c1) (hF0 : f0.length ≤ 30 ∧ ∀ r ∈ f0, r.length ≤ 30) (hF1 : f1.length ≤ 30 ∧ ∀ r ∈ f1, r.length ≤ 30) (hE : expert_Right.f f0 f1 d = some true) :
    Calls Try.prog 9 #[.agg #[.slice A0 f0.length c0, .slice A1 f1.length c1], .int .i64 d] w fun e w' => e = .returned (.tuple #[.string (expS f0 f1 d), .int .i64 0]) ∧ Below w.heap.size w w' := by
  have hu33 := Try.underlying33
  have hu60 := Try.underlying60
  have HR0 := Aside0.mk hr0
  have HC0 := Aside0.mk hc0
  have HR1 := Aside0.mk hr1
  have HC1 := Aside0.mk hc1
  have HF0 := Aside0.mk hF0
  have HF1 := Aside0.mk hF1
  have HE := Aside0.mk hE
  clear hr0 hc0 hr1 hc1 hF0 hF1 hE
  have HBX := Aside0.mk (below_alloc (Below.refl w.heap.size w) (.cells #[.slice A0 f0.length c0, .slice A1 f1.length c1] 33))
  have HX0 : Aside0 ((w.alloc (.cells #[.slice A0 f0.length c0, .slice A1 f1.length c1] 33)).heap[w.heap.size]? = some (.cells #[.slice A0 f0.length c0, .slice A1 f1.length c1] 33 (0, 0))) := ⟨heap_alloc_new _ _⟩
  go_enter Try.func9, Try.ntmps9
  go_upto_region 1 with (fail)
  generalize w.alloc (.cells #[.slice A0 f0.length c0, .slice A1 f1.length c1] 33) = w0 at HBX HX0 ⊢
  have hx0 : w0.cell? ⟨w.heap.size, 0, none⟩ = some (.slice A0 f0.length c0) := (blk_cell HX0.out 0).trans rfl
  have hx1 : w0.cell? ⟨w.heap.size, 1, none⟩ = some (.slice A1 f1.length c1) := (blk_cell HX0.out 1).trans rfl
  go_upto_region 4 with ((go_at_call 19; refine (expert_Right.calls A0 c0 f0 A1 c1 f1 d true _ (Kd.C_below HR0.out HBX.out) HC0.out (Kd.C_below HR1.out HBX.out) HC1.out HE.out).mono ?_; rintro e_ w1 ⟨rfl, hb⟩; have HB1 := Aside0.mk (below_step HBX.out hb); have HX1 := Aside0.mk (blk_below HX0.out hb); clear hb hx0 hx1))
  clear HBX HX0
  have HN := Aside0.mk (builder_new w1)
  have HB2 := Aside0.mk (below_alloc HB1.out (.cells #[.pointer none, .slice none 0 0] 60))
  have HX2 := Aside0.mk (blk_alloc HX1.out (.cells #[.pointer none, .slice none 0 0] 60))
  have HS2 : Aside0 (w1.heap.size ≤ (w1.alloc (.cells #[.pointer none, .slice none 0 0] 60)).heap.size) := ⟨below_size (below_alloc (Below.refl w1.heap.size w1) (.cells #[.pointer none, .slice none 0 0] 60))⟩
  have HBB2 := Aside0.mk (below_alloc (Below.refl w1.heap.size w1) (.cells #[.pointer none, .slice none 0 0] 60))
  generalize w1.alloc (.cells #[.pointer none, .slice none 0 0] 60) = w2 at HN HB2 HX2 HS2 HBB2 ⊢
  have hx0 : w2.cell? ⟨w.heap.size, 0, none⟩ = some (.slice A0 f0.length c0) := (blk_cell HX2.out 0).trans rfl
  have HN2 := HN
  clear HN
  obtain ⟨s1, hs1⟩ : ∃ s1, s1 = fourS (f0.length : Int) := ⟨_, rfl⟩
  obtain ⟨s2, hs2⟩ : ∃ s2, s2 = fourS d := ⟨_, rfl⟩
  have HF1_ : Aside0 (chunk_four.f (f0.length : Int) = some s1) := ⟨by rw [hs1]; exact four_is _⟩
  have HF2_ : Aside0 (chunk_four.f d = some s2) := ⟨by rw [hs2]; exact four_is _⟩
  have HLEN : Aside0 (([] : List UInt8).length + (s1 ++ s2).size ≤ 1000000) := ⟨by rw [hs1, hs2]; exact fourS_len2 _ _⟩
  have HP : Aside0 (([] : List UInt8) ++ (s1 ++ s2).data.toList = four4 (f0.length : Int) ++ four4 d) := ⟨by rw [hs1, hs2]; exact hdr_bytes _ _⟩
  have hz1 : s1.size = 4 := by rw [hs1]; exact fourS_size _
  have hz2 : s2.size = 4 := by rw [hs2]; exact fourS_size _
  have hz3 : (9223372036854775807 < s1.size + s2.size) = False := eq_false (by rw [hz1, hz2]; decide)
  clear hz1 hz2 hs1 hs2
  go_upto_region 5 with (first | (go_at_call 21; (with_reducible refine (chunk_four.calls (f0.length : Int) s1 _ HF1_.out).mono ?_); rintro e_ w3 ⟨rfl, hb⟩; have HN3 := Aside0.mk (builder_below HN2.out hb); have HBB3 := Aside0.mk (below_then HBB2.out HS2.out hb); have HS3 := Aside0.mk (Nat.le_trans HS2.out (below_size hb)); clear hb hx0) | (go_at_call 21; (with_reducible refine (chunk_four.calls d s2 _ HF2_.out).mono ?_); rintro e_ w4 ⟨rfl, hb⟩; have HN4 := Aside0.mk (builder_below HN3.out hb); have HBB4 := Aside0.mk (below_then HBB3.out HS3.out hb); have HS4 := Aside0.mk (Nat.le_trans HS3.out (below_size hb)); clear hb) | (go_at_call 20; (with_reducible refine (write_bytes _ _ [] (s1 ++ s2) _ HN4.out HLEN.out HS4.out).mono ?_); rintro e_ w5 ⟨rfl, hn, hb, -⟩; have HN5 := Aside0.mk hn; have HBB5 := Aside0.mk (HBB4.out.trans hb); have HS5 := Aside0.mk (Nat.le_trans HS4.out hb.size); clear hn hb))
  rw [HP.out] at HN5
  obtain ⟨hd, hhd⟩ : ∃ hd, hd = four4 (f0.length : Int) ++ four4 d := ⟨_, rfl⟩
  rw [← hhd] at HN5
  have HHD := Aside0.mk hhd
  have HHL : Aside0 (hd.length = 8) := ⟨by rw [hhd, List.length_append, four4_length, four4_length]⟩
  clear hhd hz3 HF1_ HF2_ HLEN HP HN2 HN3 HN4 HBB2 HBB3 HBB4 HS2 HS3 HS4 HX2 HB2
  have HX5 := Aside0.mk (blk_below HX1.out HBB5.out)
  have hx0 : w5.cell? ⟨w.heap.size, 0, none⟩ = some (.slice A0 f0.length c0) := (blk_cell HX5.out 0).trans rfl
  have hx1 : w5.cell? ⟨w.heap.size, 1, none⟩ = some (.slice A1 f1.length c1) := (blk_cell HX5.out 1).trans rfl
  go_upto_region 6 with (fail)
  clear hx0 hx1 HX5
  have HG6 : Aside0 ((w5.alloc (.cells #[.slice A0 f0.length c0, .slice A1 f1.length c1] 25)).heap[w5.heap.size]? = some (.cells #[.slice A0 f0.length c0, .slice A1 f1.length c1] 25 (0, 0))) := ⟨heap_alloc_new _ _⟩
  have hb := below_alloc (Below.refl w5.heap.size w5) (.cells #[.slice A0 f0.length c0, .slice A1 f1.length c1] 25)
  have HN6 := Aside0.mk (builder_below HN5.out hb)
  have HBB6 := Aside0.mk (below_then HBB5.out HS5.out hb)
  have HS6 := Aside0.mk (Nat.le_trans HS5.out (below_size hb))
  have HGB : Aside0 (w1.heap.size < w5.heap.size) := ⟨(HN5.out.elim (fun h => h.lt) (fun h => h.lt))⟩
  clear hb HN5 HBB5 HS5
  generalize w5.alloc (.cells #[.slice A0 f0.length c0, .slice A1 f1.length c1] 25) = w6 at HG6 HN6 HBB6 HS6 ⊢
  go_wp2
  go_loopw [31] (fun v31 W => ∃ (i : Nat), v31 = .int .i64 (i : Int) ∧ Aside0 (i ≤ 2) ∧ Aside0 (Lib.IsBuilderF 60 5 w1.heap.size w1.heap.size (Lib.byteCells (hd ++ upTo f0 f1 i)) W) ∧ Aside0 (Below w1.heap.size w1 W) ∧ Aside0 (w1.heap.size ≤ W.heap.size) ∧ Aside0 (W.heap[w5.heap.size]? = some (.cells #[.slice A0 f0.length c0, .slice A1 f1.length c1] 25 (0, 0)))) (fun v31 _ => 2 - (intOf v31).toNat)
  case atStart => exact ⟨0, rfl, ⟨by omega⟩, ⟨by rw [show upTo f0 f1 0 = [] from rfl, List.append_nil]; exact HN6.out⟩, HBB6, HS6, HG6⟩
  case round =>
    obtain ⟨i, rfl, HI, HN7, HBB7, HS7, HG7⟩ := hrel
    clear HN6 HBB6 HS6 HG6
    by_cases hi : i < 2
    rotate_left
    · have k1 : decide ((i : Int) < 2) = false := decide_eq_false (by omega)
      have k1n : decide (i < 2) = false := decide_eq_false hi
      have hi2 : i = 2 := by have := HI.out; omega
      subst hi2
      clear hi
      obtain ⟨ll, hll⟩ : ∃ ll, ll = expL f0 f1 d := ⟨_, rfl⟩
      have HNL : Aside0 (Lib.IsBuilderF 60 5 w1.heap.size w1.heap.size (Lib.byteCells ll) wr) := ⟨by
        have h1 := HN7.out
        rw [HHD.out, show upTo f0 f1 2 = mat4 f0 ++ mat4 f1 from rfl, ← List.append_assoc] at h1
        rw [hll]
        exact h1⟩
      have HLL : Aside0 (ll.length ≤ 10000) := ⟨by
        have h0 := mat4_le HF0.out.2
        have h1 := mat4_le HF1.out.2
        have h2 := HF0.out.1
        have h3 := HF1.out.1
        rw [hll]
        unfold expL
        rw [List.length_append, List.length_append, List.length_append, four4_length, four4_length]
        omega⟩
      obtain ⟨S, hS⟩ : ∃ S : ByteArray, S = ⟨ll.toArray⟩ := ⟨_, rfl⟩
      have HSE := Aside0.mk hS
      have HSS : Aside0 (S.size ≤ 10000) := ⟨by rw [hS]; show ll.toArray.size ≤ _; rw [List.size_toArray]; exact HLL.out⟩
      obtain ⟨cs, hcs⟩ : ∃ cs, cs = crcF S := ⟨_, rfl⟩
      have HCS := Aside0.mk hcs
      obtain ⟨s5, hs5⟩ : ∃ s5, s5 = fourS cs := ⟨_, rfl⟩
      have HF5 : Aside0 (chunk_four.f cs = some s5) := ⟨by rw [hs5]; exact four_is _⟩
      have hz : (9223372036854775807 < S.size + s5.size) = False := eq_false (by have h1 := HSS.out; rw [hs5, fourS_size]; omega)
      have HRES : Aside0 (S ++ s5 = expS f0 f1 d) := ⟨by rw [hs5, hcs, hS, hll]; rfl⟩
      clear hll hS hcs hs5 HN7
      go_wp2_with (first | (go_at_call 22; (with_reducible refine (builder_stringS _ _ ll S HSE.out _ HNL.out HS7.out).mono ?_); rintro e_ wa ⟨rfl, hn, hb, -⟩; have HNA := Aside0.mk hn; have HBA := Aside0.mk (HBB7.out.trans hb); have HSA := Aside0.mk (Nat.le_trans HS7.out hb.size); clear hn hb) | (go_at_call 22; (with_reducible refine (builder_stringS _ _ ll S HSE.out _ HNA.out HSA.out).mono ?_); rintro e_ wb ⟨rfl, hn, hb, -⟩; have HBC := Aside0.mk (HBA.out.trans hb); have HSC := Aside0.mk (Nat.le_trans HSA.out hb.size); clear hn hb) | (go_at_call 23; (with_reducible refine (crc_Sum.calls S _ (Nat.le_trans HSS.out (by decide))).mono ?_); rintro e_ wc ⟨rfl, hb⟩; have HBD := Aside0.mk (below_then HBC.out HSC.out hb); have HSD := Aside0.mk (Nat.le_trans HSC.out (below_size hb)); rw [← HCS.out]; clear hb) | (go_at_call 21; (with_reducible refine (chunk_four.calls cs s5 _ HF5.out).mono ?_); rintro e_ wd ⟨rfl, hb⟩; have HBE := Aside0.mk (below_then HBD.out HSD.out hb); clear hb))
      refine bodyPost_ret (results_list (rs := [.tmp 4, .tmp 5]) rfl (by simp) (.tmp (.tmp .nil))) rfl ?_
      refine ⟨?_, below_step HB1.out HBE.out⟩
      rw [← HRES.out]
      first | done | rfl
    · have k1 : decide ((i : Int) < 2) = true := decide_eq_true (by omega)
      have k1n : decide (i < 2) = true := decide_eq_true hi
      have HI2 := Aside0.mk hi
      obtain ⟨w7, hw7⟩ : ∃ w7, w7 = wr := ⟨_, rfl⟩
      rw [← hw7] at HN7 HBB7 HS7 HG7 ⊢
      clear hw7
      obtain ⟨A, c, m, hxm, hCm, hcm, hFm, hmm⟩ : ∃ (A : Option Addr) (c : Nat) (m : List (List Int)), w7.cell? ⟨w5.heap.size, i, none⟩ = some (.slice A m.length c) ∧ (∀ W, Below w1.heap.size w1 W → Kd.C (Kd.slice 3 (Kd.int .i64)) W A m.length m) ∧ m.length ≤ c ∧ (m.length ≤ 30 ∧ ∀ r ∈ m, r.length ≤ 30) ∧ m = mOf f0 f1 i := by
        rcases i with _ | _ | i
        · exact ⟨A0, c0, f0, (blk_cell HG7.out 0).trans rfl, fun W hW => Kd.C_below HR0.out (below_step HB1.out hW), HC0.out, HF0.out, rfl⟩
        · exact ⟨A1, c1, f1, (blk_cell HG7.out 1).trans rfl, fun W hW => Kd.C_below HR1.out (below_step HB1.out hW), HC1.out, HF1.out, rfl⟩
        · omega
      have HCM := Aside0.mk hCm
      have HFM := Aside0.mk hFm
      have HMM := Aside0.mk hmm
      clear hCm hcm hFm hmm
      have hml : (m.length : Int) < 1000000 := by have := HFM.out.1; omega
      go_upto_region 9 with (fail)
      clear hxm hi
      go_wp2
      go_loopw [37] (fun v37 W => ∃ (j : Nat), v37 = .int .i64 (j : Int) ∧ Aside0 (j ≤ m.length) ∧ Aside0 (Lib.IsBuilderF 60 5 w1.heap.size w1.heap.size (Lib.byteCells (hd ++ upTo f0 f1 i ++ mat4 (m.take j))) W) ∧ Aside0 (Below w1.heap.size w1 W) ∧ Aside0 (w1.heap.size ≤ W.heap.size) ∧ Aside0 (W.heap[w5.heap.size]? = some (.cells #[.slice A0 f0.length c0, .slice A1 f1.length c1] 25 (0, 0)))) (fun v37 _ => m.length - (intOf v37).toNat)
      case atStart => exact ⟨0, rfl, ⟨by omega⟩, ⟨by rw [List.take_zero, show mat4 [] = [] from rfl, List.append_nil]; exact HN7.out⟩, HBB7, HS7, HG7⟩
      case round =>
        obtain ⟨j, rfl, HJ, HN8, HBB8, HS8, HG8⟩ := hrel
        by_cases hj : j < m.length
        rotate_left
        · have k2 : decide ((j : Int) < (m.length : Int)) = false := decide_eq_false (by omega)
          have k2n : decide (j < m.length) = false := decide_eq_false hj
          have hjm : m.take j = m := List.take_of_length_le (by omega)
          rw [hjm, List.append_assoc, HMM.out, ← upTo_succ f0 f1 HI2.out] at HN8
          clear hj hjm
          go_wp2
          have hw1 : wrap64 ((i : Int) + 1) = (i : Int) + 1 := wrap_ok (by omega) (by have := HI2.out; omega)
          refine ⟨⟨i + 1, by rw [hw1]; simp, ⟨by have := HI2.out; omega⟩, HN8, HBB8, HS8, HG8⟩, ?_⟩
          have := HI2.out
          (try rw [hw1])
          simp [intOf]
          omega
        · have k2 : decide ((j : Int) < (m.length : Int)) = true := decide_eq_true (by omega)
          have k2n : decide (j < m.length) = true := decide_eq_true hj
          have HJ2 := Aside0.mk hj
          obtain ⟨w8, hw8⟩ : ∃ w8, w8 = wr := ⟨_, rfl⟩
          rw [← hw8] at HN8 HBB8 HS8 HG8 ⊢
          clear hw8
          have hC8 := HCM.out w1 (Below.refl _ _)
          obtain ⟨am, Br, dr, hA, hxr, hlr, hCr⟩ := at_L1 hC8 (j : Int) (by omega) (by omega)
          subst hA
          rw [Int.toNat_natCast] at hxr
          obtain ⟨r, hr⟩ : ∃ r, r = m.getD j [] := ⟨_, rfl⟩
          have hrr : rd_L1 m (j : Int) = r := by rw [hr]; unfold rd_L1; rw [Int.toNat_natCast]
          rw [hrr] at hxr hlr hCr
          replace hxr := (HBB8.out.cell (World.block_lt_of_cell? w1 _ hxr)).trans hxr
          have hr30 : r.length ≤ 30 := HFM.out.2 r (by rw [hr, List.getD_eq_getElem?_getD, List.getElem?_eq_getElem hj]; exact List.getElem_mem hj)
          have HR := Aside0.mk hr
          have HR30 := Aside0.mk hr30
          have HCR : Aside0 (∀ W, Below w1.heap.size w1 W → Kd.C (Kd.int .i64) W Br r.length r) := ⟨fun W hW => Kd.C_below hCr hW⟩
          clear hC8 hlr hCr hr hrr hr30
          go_upto_region 12 with (fail)
          clear hxr hj
          have hrl : (r.length : Int) < 1000000 := by have := HR30.out; omega
          go_wp2
          go_loopw [43] (fun v43 W => ∃ (k : Nat), v43 = .int .i64 (k : Int) ∧ Aside0 (k ≤ r.length) ∧ Aside0 (Lib.IsBuilderF 60 5 w1.heap.size w1.heap.size (Lib.byteCells (hd ++ upTo f0 f1 i ++ mat4 (m.take j) ++ row4 (r.take k))) W) ∧ Aside0 (Below w1.heap.size w1 W) ∧ Aside0 (w1.heap.size ≤ W.heap.size) ∧ Aside0 (W.heap[w5.heap.size]? = some (.cells #[.slice A0 f0.length c0, .slice A1 f1.length c1] 25 (0, 0)))) (fun v43 _ => r.length - (intOf v43).toNat)
          case atStart => exact ⟨0, rfl, ⟨by omega⟩, ⟨by rw [List.take_zero, show row4 [] = [] from rfl, List.append_nil]; exact HN8.out⟩, HBB8, HS8, HG8⟩
          case round =>
            obtain ⟨k, rfl, HK, HN9, HBB9, HS9, HG9⟩ := hrel
            by_cases hk : k < r.length
            rotate_left
            · have k3 : decide ((k : Int) < (r.length : Int)) = false := decide_eq_false (by omega)
              have k3n : decide (k < r.length) = false := decide_eq_false hk
              have hkr : r.take k = r := List.take_of_length_le (by omega)
              rw [hkr, List.append_assoc, HR.out, ← mat4_take m HJ2.out] at HN9
              clear hk hkr
              go_wp2
              have hw1 : wrap64 ((j : Int) + 1) = (j : Int) + 1 := wrap_ok (by omega) (by have := HJ2.out; omega)
              refine ⟨⟨j + 1, by rw [hw1]; simp, ⟨HJ2.out⟩, HN9, HBB9, HS9, HG9⟩, ?_⟩
              have := HJ2.out
              (try rw [hw1])
              simp [intOf]
              omega
            · have k3 : decide ((k : Int) < (r.length : Int)) = true := decide_eq_true (by omega)
              have k3n : decide (k < r.length) = true := decide_eq_true hk
              have HK2 := Aside0.mk hk
              obtain ⟨w9, hw9⟩ : ∃ w9, w9 = wr := ⟨_, rfl⟩
              rw [← hw9] at HN9 HBB9 HS9 HG9 ⊢
              clear hw9
              obtain ⟨ar, hA, hxk⟩ := Kd.at_int (HCR.out w9 HBB9.out) (k : Int) (by omega) (by omega)
              subst hA
              rw [Int.toNat_natCast] at hxk
              obtain ⟨x, hx⟩ : ∃ x, x = rd r (k : Int) := ⟨_, rfl⟩
              rw [← hx] at hxk
              obtain ⟨s4, hs4⟩ : ∃ s4, s4 = fourS x := ⟨_, rfl⟩
              have HF4 : Aside0 (chunk_four.f x = some s4) := ⟨by rw [hs4]; exact four_is _⟩
              have HLN : Aside0 ((hd ++ upTo f0 f1 i ++ mat4 (m.take j) ++ row4 (r.take k)).length + s4.size ≤ 1000000) := ⟨by
                have h1 := upTo_le HF0.out HF1.out i
                have h2 := mat4_le (m := m.take j) (fun q hq => HFM.out.2 q (List.mem_of_mem_take hq))
                have h3 := HFM.out.1
                have h4 := HR30.out
                have h5 : (m.take j).length ≤ m.length := by rw [List.length_take]; omega
                have h6 : (r.take k).length ≤ r.length := by rw [List.length_take]; omega
                rw [List.length_append, List.length_append, List.length_append, HHL.out, row4_length, hs4, fourS_size]
                omega⟩
              have HAP : Aside0 (hd ++ upTo f0 f1 i ++ mat4 (m.take j) ++ row4 (r.take k) ++ s4.data.toList = hd ++ upTo f0 f1 i ++ mat4 (m.take j) ++ row4 (r.take (k + 1))) := ⟨by
                have h1 : rd r (k : Int) = r.getD k 0 := by unfold rd; rw [Int.toNat_natCast]
                rw [row4_take r HK2.out, ← List.append_assoc, hs4, hx, h1, four4_eq]⟩
              clear hs4 hx
              go_wp2_with (first | (go_at_call 21; (with_reducible refine (chunk_four.calls x s4 _ HF4.out).mono ?_); rintro e_ w10 ⟨rfl, hb⟩; have HN10 := Aside0.mk (builder_below HN9.out hb); have HBB10 := Aside0.mk (below_then HBB9.out HS9.out hb); have HS10 := Aside0.mk (Nat.le_trans HS9.out (below_size hb)); have HG10 := Aside0.mk (blk_below HG9.out hb); clear hb) | (go_at_call 20; (with_reducible refine (write_bytes _ _ _ s4 _ HN10.out HLN.out HS10.out).mono ?_); rintro e_ w11 ⟨rfl, hn, hb, ho⟩; have HN11 := Aside0.mk hn; have HBB11 := Aside0.mk (HBB10.out.trans hb); have HS11 := Aside0.mk (Nat.le_trans HS10.out hb.size); have HG11 := Aside0.mk (ho _ _ HG10.out (fun e_ => by have h1 := HGB.out; have h2 := Option.some.inj e_; omega) (fun c_ f_ e_ => by cases e_)); clear hn hb ho))
              rw [HAP.out] at HN11
              have hw1 : wrap64 ((k : Int) + 1) = (k : Int) + 1 := wrap_ok (by omega) (by omega)
              refine ⟨⟨k + 1, by first | (rw [hw1]; simp; done) | simp, ⟨HK2.out⟩, HN11, HBB11, HS11, HG11⟩, ?_⟩
              have := HK2.out
              (try rw [hw1])
              simp [intOf]
              omega


end Go.Proofs.Ytfipiohchnaglaa.Pt
