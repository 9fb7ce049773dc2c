-- Laid by wip/xprint.py, a program of this session that runs the kit's print with some contracts given by hand; not a text of print.sh. Lean checks it.
import Derived.Test.YtabklpdjjoaocaaQz0
import Derived.Test.YtabklpdjjoaocaaQz4
import Derived.Test.YtabklpdjjoaocaaQz5
import Derived.Test.YtabklpdjjoaocaaQz6
namespace Go.Proofs.Ytabklpdjjoaocaa.Qz
open Go.RowKit Go.Proofs.YtabklpdjjoaocaaW.PrintWords Go.Proofs.YtabklpdjjoaocaaW.PrintLast Go.Proofs.YtabklpdjjoaocaaW.PrintMore
attribute [local go_sem] max2_int min2_int max_two min_two max_three min_three max_four min_four   -- for this text's walks alone
set_option linter.unusedVariables false
set_option linter.unusedSimpArgs false

/-! ### node_Work: function 10 -/
def node_Work.m0 : Array Bool := #[false, false, false, false, false, false, false, false, false, false, false, false, false, false, false]
def node_Work.m1 : Array Bool := #[true, false, false, false, false, false, false, false, false, false, false, false, false, false, false]
def node_Work.m2 : Array Bool := #[true, true, false, false, false, false, false, false, false, false, false, false, false, false, false]
def node_Work.m3 : Array Bool := #[true, true, false, true, false, false, false, false, false, false, false, false, false, false, false]
def node_Work.m4 : Array Bool := #[true, true, false, true, false, true, false, false, false, false, false, false, false, false, false]
def node_Work.m5 : Array Bool := #[true, true, true, true, false, true, false, false, false, false, false, false, false, false, false]
def node_Work.m6 : Array Bool := #[true, true, true, true, true, true, false, false, false, false, false, false, false, false, false]
def node_Work.m7 : Array Bool := #[true, true, true, true, true, true, true, false, false, false, false, false, false, false, false]
def node_Work.m8 : Array Bool := #[true, true, true, true, true, true, true, true, false, false, false, false, false, false, false]
def node_Work.m9 : Array Bool := #[true, true, true, true, true, true, true, true, true, false, false, false, false, false, false]
def node_Work.m10 : Array Bool := #[true, true, true, true, true, true, true, true, true, true, false, false, false, false, false]
def node_Work.m11 : Array Bool := #[true, true, true, true, true, true, true, true, true, true, true, false, false, false, false]
def node_Work.m12 : Array Bool := #[true, true, true, true, true, true, true, true, true, true, true, true, false, false, false]
def node_Work.m13 : Array Bool := #[true, true, true, true, true, true, true, true, true, true, true, true, true, false, false]
def node_Work.m14 : Array Bool := #[true, true, true, true, true, true, true, true, true, true, true, true, true, true, false]
def node_Work.m15 : Array Bool := #[true, true, true, true, true, true, true, true, true, true, true, true, true, true, true]
def node_Work.m16 : Array Bool := #[false, false, false, false, false, false, false, false, false, false, false, false, false, false, false, false, false, false]
def node_Work.m17 : Array Bool := #[true, false, false, false, false, false, false, false, false, false, false, false, false, false, false, false, false, false]
def node_Work.m18 : Array Bool := #[true, false, true, false, false, false, false, false, false, false, false, false, false, false, false, false, false, false]
def node_Work.m19 : Array Bool := #[true, false, true, false, false, false, false, true, false, false, false, false, false, false, false, false, false, false]
def node_Work.m20 : Array Bool := #[true, false, true, false, false, false, false, true, false, false, false, true, false, false, false, false, false, false]
def node_Work.m21 : Array Bool := #[true, true, true, false, false, false, false, true, false, false, false, true, false, false, false, false, false, false]
def node_Work.m22 : Array Bool := #[true, true, true, true, false, false, false, true, false, false, false, true, false, false, false, false, false, false]
def node_Work.m23 : Array Bool := #[true, true, true, true, true, false, false, true, false, false, false, true, false, false, false, false, false, false]
def node_Work.m24 : Array Bool := #[true, true, true, true, true, true, false, true, false, false, false, true, false, false, false, false, false, false]
def node_Work.m25 : Array Bool := #[true, true, true, true, true, true, true, true, false, false, false, true, false, false, false, false, false, false]
def node_Work.m26 : Array Bool := #[true, true, true, true, true, true, true, true, true, false, false, true, false, false, false, false, false, false]
def node_Work.m27 : Array Bool := #[true, true, true, true, true, true, true, true, true, true, false, true, false, false, false, false, false, false]
def node_Work.m28 : Array Bool := #[true, true, true, true, true, true, true, true, true, true, true, true, false, false, false, false, false, false]
def node_Work.m29 : Array Bool := #[true, true, true, true, true, true, true, true, true, true, true, true, true, false, false, false, false, false]
def node_Work.m30 : Array Bool := #[true, true, true, true, true, true, true, true, true, true, true, true, true, true, false, false, false, false]
def node_Work.j0 : Nat → List (S39) → Bool → Int → List (S61) → Int → Int → Int → Int → Int → Int → Int → Int → Int → Int → List Int → Int → Int → Int → Int → Int → Int → Int → Int → Int → Int → Option ((List (S39)) × Int × Int × Int × Int × Int × Int × Int × Int × Int × Int × List Int × Bool)
  | 0, _, _, _, _, _, _, _, _, _, _, _, _, _, _, _, _, _, _, _, _, _, _, _, _, _ => none
  | k + 1, x3, x48, x187000, x187001, x189000, x189001, x189002, x189003, x189004, x189005, x189006, x189007, x189008, x189009, x189010, x192000, x192001, x192002, x192003, x192004, x192005, x192006, x192007, x192008, x192009 => if x48 = true then (some (x3, x192000, x192001, x192002, x192003, x192004, x192005, x192006, x192007, x192008, x192009, ([] : List Int), true)) else ((ledger_Find.f x3 x189004 x189005 x189006 x189007).bind fun bt194 => (if bt194.2 = true then (some (x3, 2, x192001, x192002, x192003, x192004, x192005, x192006, x192007, x192008, x192009, bt194.1, true)) else (if 0 ≤ x189005 then (if x189005 < (x187001.length : Int) then (if 0 ≤ x189008 then (if x189008 < (((rd_T61 x187001 x189005).f1).length : Int) then ((expert_Run.f k ((rd_T63 ((rd_T61 x187001 x189005).f1) x189008).f0) ((rd_T63 ((rd_T61 x187001 x189005).f1) x189008).f1) x189010).bind fun bt200 => ((ledger_Enter.f x3 x189004 x189005 x189006 x189007 bt200.1).bind fun bt204 => (some (bt204.1, 2, x192001, x192002, x192003, x192004, x192005, x192006, x192007, x192008, x192009, bt200.1, true)))) else (none)) else (none)) else (none)) else (none))))
def node_Work.f (k : Nat) (a0_0 : Int) (l0_1 : List (S61)) (a1_0 : Int) (l1_1 : List (List Int)) (a2 : Int) (l3 : List (S39)) (a4_0 : Int) (a4_1 : Int) (a4_2 : Int) (a4_3 : Int) (a4_4 : Int) (a4_5 : Int) (a4_6 : Int) (a4_7 : Int) (a4_8 : Int) (a4_9 : Int) (l4_10 : List Int) : Option ((List (S39)) × Int × Int × Int × Int × Int × Int × Int × Int × Int × Int × List Int × Bool) := (node_fits.f k a0_0 l0_1 a1_0 l1_1 a2 a4_0 a4_1 a4_2 a4_3 a4_4 a4_5 a4_6 a4_7 a4_8 a4_9 l4_10).bind fun t190 => (if t190 = true then (if a4_9 = a1_0 then ((place_Holds.f k a1_0 l1_1 a4_8 a2).bind fun t192 => (node_Work.j0 k l3 (!t192) a0_0 l0_1 a4_0 a4_1 a4_2 a4_3 a4_4 a4_5 a4_6 a4_7 a4_8 a4_9 l4_10 3 a2 a4_1 a4_3 a4_4 a4_5 a4_6 a4_7 a4_8 a1_0)) else (node_Work.j0 k l3 true a0_0 l0_1 a4_0 a4_1 a4_2 a4_3 a4_4 a4_5 a4_6 a4_7 a4_8 a4_9 l4_10 3 a2 a4_1 a4_3 a4_4 a4_5 a4_6 a4_7 a4_8 a1_0)) else (some (l3, 0, 0, 0, 0, 0, 0, 0, 0, 0, 0, ([] : List Int), false)))
theorem node_Work.mono_l : ∀ k, (∀ y0 y1 y2 y3 y4 y5 y6 y7 y8 y9 y10 y11 y12 y13 y14 y15 y16 y17 y18 y19 y20 y21 y22 y23 y24, LeO (node_Work.j0 k y0 y1 y2 y3 y4 y5 y6 y7 y8 y9 y10 y11 y12 y13 y14 y15 y16 y17 y18 y19 y20 y21 y22 y23 y24) (node_Work.j0 (k + 1) y0 y1 y2 y3 y4 y5 y6 y7 y8 y9 y10 y11 y12 y13 y14 y15 y16 y17 y18 y19 y20 y21 y22 y23 y24))
  | 0 => fun _ _ _ _ _ _ _ _ _ _ _ _ _ _ _ _ _ _ _ _ _ _ _ _ _ r h => by simp [node_Work.j0] at h
  | k + 1 => by
   have ih0 := node_Work.mono_l k
   ·
    intro y0 y1 y2 y3 y4 y5 y6 y7 y8 y9 y10 y11 y12 y13 y14 y15 y16 y17 y18 y19 y20 y21 y22 y23 y24
    unfold node_Work.j0
    repeat' first
    | (with_reducible exact ih0 _ _ _ _ _ _ _ _ _ _ _ _ _ _ _ _ _ _ _ _ _ _ _ _ _)
    | (with_reducible exact expert_Run.mono _ _ _ _)
    | (with_reducible exact node_fits.mono _ _ _ _ _ _ _ _ _ _ _ _ _ _ _ _ _)
    | (with_reducible exact place_Holds.mono _ _ _ _ _)
    | (with_reducible exact LeO.refl _)
    | (with_reducible exact LeO.none _)
    | (with_reducible refine LeO.ite ?_ ?_)
    | (with_reducible refine LeO.bind ?_ (fun _ => ?_))
    | exact ih0 _ _ _ _ _ _ _ _ _ _ _ _ _ _ _ _ _ _ _ _ _ _ _ _ _
    | exact expert_Run.mono _ _ _ _
    | exact node_fits.mono _ _ _ _ _ _ _ _ _ _ _ _ _ _ _ _ _
    | exact place_Holds.mono _ _ _ _ _
    | exact LeO.none _
    | refine LeO.ite ?_ ?_
    | refine LeO.bind ?_ (fun _ => ?_)
theorem node_Work.mono : ∀ a0 a1 a2 a3 a4 a5 a6 a7 a8 a9 a10 a11 a12 a13 a14 a15 a16 k, LeO (node_Work.f k a0 a1 a2 a3 a4 a5 a6 a7 a8 a9 a10 a11 a12 a13 a14 a15 a16) (node_Work.f (k + 1) a0 a1 a2 a3 a4 a5 a6 a7 a8 a9 a10 a11 a12 a13 a14 a15 a16) := by
  intro a0 a1 a2 a3 a4 a5 a6 a7 a8 a9 a10 a11 a12 a13 a14 a15 a16 k
  have ih0 := node_Work.mono_l k
  unfold node_Work.f
  repeat' first
    | (with_reducible exact ih0 _ _ _ _ _ _ _ _ _ _ _ _ _ _ _ _ _ _ _ _ _ _ _ _ _)
    | (with_reducible exact expert_Run.mono _ _ _ _)
    | (with_reducible exact node_fits.mono _ _ _ _ _ _ _ _ _ _ _ _ _ _ _ _ _)
    | (with_reducible exact place_Holds.mono _ _ _ _ _)
    | (with_reducible exact LeO.refl _)
    | (with_reducible exact LeO.none _)
    | (with_reducible refine LeO.ite ?_ ?_)
    | (with_reducible refine LeO.bind ?_ (fun _ => ?_))
    | exact ih0 _ _ _ _ _ _ _ _ _ _ _ _ _ _ _ _ _ _ _ _ _ _ _ _ _
    | exact expert_Run.mono _ _ _ _
    | exact node_fits.mono _ _ _ _ _ _ _ _ _ _ _ _ _ _ _ _ _
    | exact place_Holds.mono _ _ _ _ _
    | exact LeO.none _
    | refine LeO.ite ?_ ?_
    | refine LeO.bind ?_ (fun _ => ?_)
def node_Work.T4 : Bool × List (List Nat × List Nat) := (true, [([], []), ([], []), ([1], [1]), ([], []), ([3], [3]), ([], []), ([5], [5]), ([0, 5, 6], []), ([7, 0, 6, 0, 5, 6], [0, 7]), ([0, 1, 2, 5, 6, 7, 8], []), ([9, 2, 8, 0, 1, 2, 5, 6, 7, 8], [2, 9]), ([0, 1, 2, 3, 4, 5, 6, 7, 8, 9, 10], []), ([11, 4, 10, 0, 1, 2, 3, 4, 5, 6, 7, 8, 9, 10], [4, 11]), ([0, 1, 2, 3, 4, 5, 6, 7, 8, 9, 10, 11, 12], []), ([13, 12, 0, 1, 2, 3, 4, 5, 6, 7, 8, 9, 10, 11, 12], [13])])
def node_Work.B4 : List Nat := [0, 0, 2, 0, 8, 0, 32, 97, 225, 487, 999, 2047, 4095, 8191, 16383]
theorem node_Work.tab4 : rtab .any (opsOf Try.f10 4) = node_Work.T4 := by kernel_rfl
theorem node_Work.bits4 : waitsOk node_Work.T4.2 node_Work.B4 = true := by kernel_rfl
def node_Work.T10 : Bool × List (List Nat × List Nat) := (true, [([], []), ([0], [0]), ([], []), ([2], [2]), ([1, 3], [1, 3]), ([4], [4]), ([5], [5]), ([], []), ([7], [7]), ([6, 8], [6, 8]), ([9], [9]), ([], []), ([11], [11]), ([10, 12], [10, 12]), ([13], [13]), ([14], [14]), ([14], [14]), ([15, 13, 0, 1, 2, 3, 4, 5, 6, 7, 8, 9, 10, 11, 12, 13, 14, 15], [15])])
def node_Work.B10 : List Nat := [0, 1, 0, 4, 15, 31, 63, 0, 128, 511, 1023, 0, 2048, 8191, 16383, 32767, 32767, 65535]
theorem node_Work.tab10 : rtab .any (opsOf Try.f10 10) = node_Work.T10 := by kernel_rfl
theorem node_Work.bits10 : waitsOk node_Work.T10.2 node_Work.B10 = true := by kernel_rfl
set_option maxHeartbeats 8000000 in
set_option maxRecDepth 100000 in
theorem node_Work.calls (k : Nat) (a0_0 : Int) (A0_1 : Option Addr) (c0_1 : Nat) (l0_1 : List (S61)) (a1_0 : Int) (A1_1 : Option Addr) (c1_1 : Nat) (l1_1 : List (List Int)) (a2 : Int) (P3_ : Nat → Prop) (A3 : Option Addr) (c3 : Nat) (l3 : List (S39)) (a4_0 : Int) (a4_1 : Int) (a4_2 : Int) (a4_3 : Int) (a4_4 : Int) (a4_5 : Int) (a4_6 : Int) (a4_7 : Int) (a4_8 : Int) (a4_9 : Int) (A4_10 : Option Addr) (c4_10 : Nat) (l4_10 : List Int) (r1 : List (S39)) (r2 : Int) (r3 : Int) (r4 : Int) (r5 : Int) (r6 : Int) (r7 : Int) (r8 : Int) (r9 : Int) (r10 : Int) (r11 : Int) (r12 : List Int) (r13 : Bool) (w : World) (hr0_1 : Kd.C k61 w A0_1 l0_1.length l0_1) (hc0_1 : l0_1.length ≤ c0_1) (hr1_1 : Kd.C (Kd.slice 3 (Kd.int .i64)) w A1_1 l1_1.length l1_1) (hc1_1 : l1_1.length ≤ c1_1) (hs3 : Kd.V k39 39 w w.heap.size (fun k_ => P3_ k_) (.slice A3 l3.length c3) l3) (hr4_10 : Kd.C (Kd.int .i64) w A4_10 l4_10.length l4_10) (hc4_10 : l4_10.length ≤ c4_10) (h : node_Work.f k a0_0 l0_1 a1_0 l1_1 a2 l3 a4_0 a4_1 a4_2 a4_3 a4_4 a4_5 a4_6 a4_7 a4_8 a4_9 l4_10 = some (r1, r2, r3, r4, r5, r6, r7, r8, r9, r10, r11, r12, r13)) :
   Calls Try.prog 10 #[.agg #[.int .i64 a0_0, .slice A0_1 l0_1.length c0_1], .agg #[.int .i64 a1_0, .slice A1_1 l1_1.length c1_1], .int .i64 a2, .slice A3 l3.length c3, .agg #[.int .i64 a4_0, .int .i64 a4_1, .int .i64 a4_2, .int .i64 a4_3, .int .i64 a4_4, .int .i64 a4_5, .int .i64 a4_6, .int .i64 a4_7, .int .i64 a4_8, .int .i64 a4_9, .slice A4_10 l4_10.length c4_10]] w fun e w' => ∃ v0_ v11_ : Value, e = .returned (.tuple #[v0_, .agg #[.int .i64 r2, .int .i64 r3, .int .i64 r4, .int .i64 r5, .int .i64 r6, .int .i64 r7, .int .i64 r8, .int .i64 r9, .int .i64 r10, .int .i64 r11, v11_], .bool r13]) ∧ Kd.V k39 39 w' w.heap.size (fun k_ => (P3_ k_ ∨ w.heap.size ≤ k_) ∧ some k_ ≠ (v11_ : Value).ownBlock) v0_ r1 ∧ Kd.R (Kd.int .i64) 3 w' w.heap.size (fun k_ => (w.heap.size ≤ k_)) v11_ r12 ∧ Below w.heap.size w w' := by
  have hu24 := Try.underlying24
  have hu27 := Try.underlying27
  have hu31 := Try.underlying31
  have hu37 := Try.underlying37
  have hu63 := Try.underlying63
  have HR0_1 := Am hr0_1
  have HC0_1 := Am hc0_1
  clear hr0_1 hc0_1
  have HR1_1 := Am hr1_1
  have HC1_1 := Am hc1_1
  clear hr1_1 hc1_1
  have HO3 := Am (show Kd.V k39 39 w w.heap.size (fun k_ => (P3_ k_ ∨ w.heap.size ≤ k_)) (.slice A3 l3.length c3) l3 from Kd.V_mono hs3 (fun k_ hk => .inl hk))
  have HR4_10 := Am hr4_10
  have HC4_10 := Am hc4_10
  clear hr4_10 hc4_10
  have HB := Am (Below.refl w.heap.size w)
  have H : ((node_fits.f k a0_0 l0_1 a1_0 l1_1 a2 a4_0 a4_1 a4_2 a4_3 a4_4 a4_5 a4_6 a4_7 a4_8 a4_9 l4_10).bind fun t190 => (if t190 = true then (if a4_9 = a1_0 then ((place_Holds.f k a1_0 l1_1 a4_8 a2).bind fun t192 => (node_Work.j0 k l3 (!t192) a0_0 l0_1 a4_0 a4_1 a4_2 a4_3 a4_4 a4_5 a4_6 a4_7 a4_8 a4_9 l4_10 3 a2 a4_1 a4_3 a4_4 a4_5 a4_6 a4_7 a4_8 a1_0)) else (node_Work.j0 k l3 true a0_0 l0_1 a4_0 a4_1 a4_2 a4_3 a4_4 a4_5 a4_6 a4_7 a4_8 a4_9 l4_10 3 a2 a4_1 a4_3 a4_4 a4_5 a4_6 a4_7 a4_8 a1_0)) else (some (l3, 0, 0, 0, 0, 0, 0, 0, 0, 0, 0, ([] : List Int), false)))) = some (r1, r2, r3, r4, r5, r6, r7, r8, r9, r10, r11, r12, r13) := h
  clear h
  replace H := Option.bind_eq_some_iff.mp H
  obtain ⟨t190, A60, H⟩ := H
  replace H : (if t190 = true then (if a4_9 = a1_0 then ((place_Holds.f k a1_0 l1_1 a4_8 a2).bind fun t192 => (node_Work.j0 k l3 (!t192) a0_0 l0_1 a4_0 a4_1 a4_2 a4_3 a4_4 a4_5 a4_6 a4_7 a4_8 a4_9 l4_10 3 a2 a4_1 a4_3 a4_4 a4_5 a4_6 a4_7 a4_8 a1_0)) else (node_Work.j0 k l3 true a0_0 l0_1 a4_0 a4_1 a4_2 a4_3 a4_4 a4_5 a4_6 a4_7 a4_8 a4_9 l4_10 3 a2 a4_1 a4_3 a4_4 a4_5 a4_6 a4_7 a4_8 a1_0)) else (some (l3, 0, 0, 0, 0, 0, 0, 0, 0, 0, 0, ([] : List Int), false))) = some (r1, r2, r3, r4, r5, r6, r7, r8, r9, r10, r11, r12, r13) := H
  have A6 := Am A60
  clear A60
  by_cases c7 : t190 = true
  ·
   subst c7
   have H1 : (if a4_9 = a1_0 then ((place_Holds.f k a1_0 l1_1 a4_8 a2).bind fun t192 => (node_Work.j0 k l3 (!t192) a0_0 l0_1 a4_0 a4_1 a4_2 a4_3 a4_4 a4_5 a4_6 a4_7 a4_8 a4_9 l4_10 3 a2 a4_1 a4_3 a4_4 a4_5 a4_6 a4_7 a4_8 a1_0)) else (node_Work.j0 k l3 true a0_0 l0_1 a4_0 a4_1 a4_2 a4_3 a4_4 a4_5 a4_6 a4_7 a4_8 a4_9 l4_10 3 a2 a4_1 a4_3 a4_4 a4_5 a4_6 a4_7 a4_8 a1_0)) = some (r1, r2, r3, r4, r5, r6, r7, r8, r9, r10, r11, r12, r13) := by rw [if_pos rfl] at H; exact H
   clear H
   have H := H1
   clear H1
   have HC8 := Am H
   clear H
   go_enter Try.func10, Try.ntmps10
   try go_wp2_with (first | ((with_reducible refine gate_dst (N := 5) rfl ?_); refine box_event ?hg (N := 5) ?hd (cs := #[.int .i64 a0_0, .slice A0_1 l0_1.length c0_1]) (t := 24) ?hr ?_; (case hd => rfl); (case hg => rfl); (case hr => first | (go_simp; done) | (go_simp; rfl)); intro gb186 hg w9 hbox hb; have n0_ := Am (Kd.V_below (Kd.V_elderB (by (with_reducible repeat (first | apply Kd.V_alloc | apply Kd.V_drewN | apply Kd.V_drew)); exact HO3.out) gb186 (Nat.le_of_eq hg.symm)) hb); have n1_ := Am (below_step (by repeat (first | (with_reducible first | exact HB.out | apply below_alloc | apply pw_below_drewN | apply below_drew1) | exact HB.out)) hb); have n2_ := Am (hbox); have n3_ := Am ((by rw [hg]; exact (below_size (by repeat (first | (with_reducible first | exact HB.out | apply below_alloc | apply pw_below_drewN | apply below_drew1) | exact HB.out))) : w.heap.size ≤ gb186)); have n4_ := Am ((by rw [hg]; exact (below_size (by repeat (first | (with_reducible first | exact HB.out | apply below_alloc | apply pw_below_drewN | apply below_drew1) | exact HB.out))) : w.heap.size ≤ gb186)); clear HO3; clear HB; have HO3 := n0_; have HB := n1_; have BK186 := n2_; have GW186 := n3_; have GE186 := n4_; clear n0_ n1_ n2_ n3_ n4_; clear hb hbox hg) | ((with_reducible refine gate_dst (N := 6) rfl ?_); refine box_event ?hg (N := 6) ?hd (cs := #[.int .i64 a1_0, .slice A1_1 l1_1.length c1_1]) (t := 27) ?hr ?_; (case hd => rfl); (case hg => rfl); (case hr => first | (go_simp; done) | (go_simp; rfl)); intro gb187 hg w10 hbox hb; have n0_ := Am (Kd.V_below (Kd.V_elderB (by (with_reducible repeat (first | apply Kd.V_alloc | apply Kd.V_drewN | apply Kd.V_drew)); exact HO3.out) gb187 (Nat.le_of_eq hg.symm)) hb); have n1_ := Am (blk_below (g := gb186) (o := .cells #[.int .i64 a0_0, .slice A0_1 l0_1.length c0_1] 24 (0, 0)) (by (with_reducible repeat (first | refine blk_drewN ?_ _ | refine blk_drew ?_ | refine blk_alloc ?_ _)); exact BK186.out) hb); have n2_ := Am (below_step (by repeat (first | (with_reducible first | exact HB.out | apply below_alloc | apply pw_below_drewN | apply below_drew1 | refine below_set ?_ GE186.out) | exact HB.out)) hb); have n3_ := Am (hbox); have n4_ := Am ((by rw [hg]; exact (below_size (by repeat (first | (with_reducible first | exact HB.out | apply below_alloc | apply pw_below_drewN | apply below_drew1 | refine below_set ?_ GE186.out) | exact HB.out))) : w.heap.size ≤ gb187)); have n5_ := Am ((by rw [hg]; exact (below_size (by repeat (first | (with_reducible first | exact HB.out | apply below_alloc | apply pw_below_drewN | apply below_drew1 | refine below_set ?_ GE186.out) | exact HB.out))) : w.heap.size ≤ gb187)); have n6_ := Am ((by rw [hg]; exact Nat.ne_of_lt (blk_lt (g := gb186) (o := .cells #[.int .i64 a0_0, .slice A0_1 l0_1.length c0_1] 24 (0, 0)) (by (with_reducible repeat (first | refine blk_drewN ?_ _ | refine blk_drew ?_ | refine blk_alloc ?_ _)); exact BK186.out)) : gb186 ≠ gb187)); have n7_ := Am ((by rw [hg]; exact Nat.ne_of_gt (blk_lt (g := gb186) (o := .cells #[.int .i64 a0_0, .slice A0_1 l0_1.length c0_1] 24 (0, 0)) (by (with_reducible repeat (first | refine blk_drewN ?_ _ | refine blk_drew ?_ | refine blk_alloc ?_ _)); exact BK186.out)) : gb187 ≠ gb186)); clear HO3; clear BK186; clear HB; have HO3 := n0_; have BK186 := n1_; have HB := n2_; have BK187 := n3_; have GW187 := n4_; have GE187 := n5_; have NB186_187 := n6_; have NB187_186 := n7_; clear n0_ n1_ n2_ n3_ n4_ n5_ n6_ n7_; clear hb hbox hg) | ((with_reducible refine gate_dst (N := 9) rfl ?_); refine box_event ?hg (N := 9) ?hd (cs := #[.int .i64 a4_0, .int .i64 a4_1, .int .i64 a4_2, .int .i64 a4_3, .int .i64 a4_4, .int .i64 a4_5, .int .i64 a4_6, .int .i64 a4_7, .int .i64 a4_8, .int .i64 a4_9, .slice A4_10 l4_10.length c4_10]) (t := 31) ?hr ?_; (case hd => rfl); (case hg => rfl); (case hr => first | (go_simp; done) | (go_simp; rfl)); intro gb188 hg w11 hbox hb; have n0_ := Am (Kd.V_below (Kd.V_elderB (by (with_reducible repeat (first | apply Kd.V_alloc | apply Kd.V_drewN | apply Kd.V_drew)); exact HO3.out) gb188 (Nat.le_of_eq hg.symm)) hb); have n1_ := Am (blk_below (g := gb186) (o := .cells #[.int .i64 a0_0, .slice A0_1 l0_1.length c0_1] 24 (0, 0)) (by (with_reducible repeat (first | refine blk_drewN ?_ _ | refine blk_drew ?_ | refine blk_alloc ?_ _)); exact BK186.out) hb); have n2_ := Am (blk_below (g := gb187) (o := .cells #[.int .i64 a1_0, .slice A1_1 l1_1.length c1_1] 27 (0, 0)) (by (with_reducible repeat (first | refine blk_drewN ?_ _ | refine blk_drew ?_ | refine blk_alloc ?_ _)); exact BK187.out) hb); have n3_ := Am (below_step (by repeat (first | (with_reducible first | exact HB.out | apply below_alloc | apply pw_below_drewN | apply below_drew1 | refine below_set ?_ GE186.out | refine below_set ?_ GE187.out) | exact HB.out)) hb); have n4_ := Am (hbox); have n5_ := Am ((by rw [hg]; exact (below_size (by repeat (first | (with_reducible first | exact HB.out | apply below_alloc | apply pw_below_drewN | apply below_drew1 | refine below_set ?_ GE186.out | refine below_set ?_ GE187.out) | exact HB.out))) : w.heap.size ≤ gb188)); have n6_ := Am ((by rw [hg]; exact (below_size (by repeat (first | (with_reducible first | exact HB.out | apply below_alloc | apply pw_below_drewN | apply below_drew1 | refine below_set ?_ GE186.out | refine below_set ?_ GE187.out) | exact HB.out))) : w.heap.size ≤ gb188)); have n7_ := Am ((by rw [hg]; exact Nat.ne_of_lt (blk_lt (g := gb186) (o := .cells #[.int .i64 a0_0, .slice A0_1 l0_1.length c0_1] 24 (0, 0)) (by (with_reducible repeat (first | refine blk_drewN ?_ _ | refine blk_drew ?_ | refine blk_alloc ?_ _)); exact BK186.out)) : gb186 ≠ gb188)); have n8_ := Am ((by rw [hg]; exact Nat.ne_of_gt (blk_lt (g := gb186) (o := .cells #[.int .i64 a0_0, .slice A0_1 l0_1.length c0_1] 24 (0, 0)) (by (with_reducible repeat (first | refine blk_drewN ?_ _ | refine blk_drew ?_ | refine blk_alloc ?_ _)); exact BK186.out)) : gb188 ≠ gb186)); have n9_ := Am ((by rw [hg]; exact Nat.ne_of_lt (blk_lt (g := gb187) (o := .cells #[.int .i64 a1_0, .slice A1_1 l1_1.length c1_1] 27 (0, 0)) (by (with_reducible repeat (first | refine blk_drewN ?_ _ | refine blk_drew ?_ | refine blk_alloc ?_ _)); exact BK187.out)) : gb187 ≠ gb188)); have n10_ := Am ((by rw [hg]; exact Nat.ne_of_gt (blk_lt (g := gb187) (o := .cells #[.int .i64 a1_0, .slice A1_1 l1_1.length c1_1] 27 (0, 0)) (by (with_reducible repeat (first | refine blk_drewN ?_ _ | refine blk_drew ?_ | refine blk_alloc ?_ _)); exact BK187.out)) : gb188 ≠ gb187)); clear HO3; clear BK186; clear BK187; clear HB; have HO3 := n0_; have BK186 := n1_; have BK187 := n2_; have HB := n3_; have BK188 := n4_; have GW188 := n5_; have GE188 := n6_; have NB186_188 := n7_; have NB188_186 := n8_; have NB187_188 := n9_; have NB188_187 := n10_; clear n0_ n1_ n2_ n3_ n4_ n5_ n6_ n7_ n8_ n9_ n10_; clear hb hbox hg) | ((with_reducible refine gate_dst (N := 11) rfl ?_); refine box_event ?hg (N := 11) ?hd (cs := #[.int .i64 0, .int .i64 0, .int .i64 0, .int .i64 0, .int .i64 0, .int .i64 0, .int .i64 0, .int .i64 0, .int .i64 0, .int .i64 0, .slice none 0 0]) (t := 31) ?hr ?_; (case hd => rfl); (case hg => rfl); (case hr => first | (go_simp; done) | (go_simp; rfl)); intro gb189 hg w12 hbox hb; have n0_ := Am (Kd.V_below (Kd.V_elderB (by (with_reducible repeat (first | apply Kd.V_alloc | apply Kd.V_drewN | apply Kd.V_drew)); exact HO3.out) gb189 (Nat.le_of_eq hg.symm)) hb); have n1_ := Am (blk_below (g := gb186) (o := .cells #[.int .i64 a0_0, .slice A0_1 l0_1.length c0_1] 24 (0, 0)) (by (with_reducible repeat (first | refine blk_drewN ?_ _ | refine blk_drew ?_ | refine blk_alloc ?_ _)); exact BK186.out) hb); have n2_ := Am (blk_below (g := gb187) (o := .cells #[.int .i64 a1_0, .slice A1_1 l1_1.length c1_1] 27 (0, 0)) (by (with_reducible repeat (first | refine blk_drewN ?_ _ | refine blk_drew ?_ | refine blk_alloc ?_ _)); exact BK187.out) hb); have n3_ := Am (blk_below (g := gb188) (o := .cells #[.int .i64 a4_0, .int .i64 a4_1, .int .i64 a4_2, .int .i64 a4_3, .int .i64 a4_4, .int .i64 a4_5, .int .i64 a4_6, .int .i64 a4_7, .int .i64 a4_8, .int .i64 a4_9, .slice A4_10 l4_10.length c4_10] 31 (0, 0)) (by (with_reducible repeat (first | refine blk_drewN ?_ _ | refine blk_drew ?_ | refine blk_alloc ?_ _)); exact BK188.out) hb); have n4_ := Am (below_step (by repeat (first | (with_reducible first | exact HB.out | apply below_alloc | apply pw_below_drewN | apply below_drew1 | refine below_set ?_ GE186.out | refine below_set ?_ GE187.out | refine below_set ?_ GE188.out) | exact HB.out)) hb); have n5_ := Am (hbox); have n6_ := Am ((by rw [hg]; exact (below_size (by repeat (first | (with_reducible first | exact HB.out | apply below_alloc | apply pw_below_drewN | apply below_drew1 | refine below_set ?_ GE186.out | refine below_set ?_ GE187.out | refine below_set ?_ GE188.out) | exact HB.out))) : w.heap.size ≤ gb189)); have n7_ := Am ((by rw [hg]; exact (below_size (by repeat (first | (with_reducible first | exact HB.out | apply below_alloc | apply pw_below_drewN | apply below_drew1 | refine below_set ?_ GE186.out | refine below_set ?_ GE187.out | refine below_set ?_ GE188.out) | exact HB.out))) : w.heap.size ≤ gb189)); have n8_ := Am ((by rw [hg]; exact Nat.ne_of_lt (blk_lt (g := gb186) (o := .cells #[.int .i64 a0_0, .slice A0_1 l0_1.length c0_1] 24 (0, 0)) (by (with_reducible repeat (first | refine blk_drewN ?_ _ | refine blk_drew ?_ | refine blk_alloc ?_ _)); exact BK186.out)) : gb186 ≠ gb189)); have n9_ := Am ((by rw [hg]; exact Nat.ne_of_gt (blk_lt (g := gb186) (o := .cells #[.int .i64 a0_0, .slice A0_1 l0_1.length c0_1] 24 (0, 0)) (by (with_reducible repeat (first | refine blk_drewN ?_ _ | refine blk_drew ?_ | refine blk_alloc ?_ _)); exact BK186.out)) : gb189 ≠ gb186)); have n10_ := Am ((by rw [hg]; exact Nat.ne_of_lt (blk_lt (g := gb187) (o := .cells #[.int .i64 a1_0, .slice A1_1 l1_1.length c1_1] 27 (0, 0)) (by (with_reducible repeat (first | refine blk_drewN ?_ _ | refine blk_drew ?_ | refine blk_alloc ?_ _)); exact BK187.out)) : gb187 ≠ gb189)); have n11_ := Am ((by rw [hg]; exact Nat.ne_of_gt (blk_lt (g := gb187) (o := .cells #[.int .i64 a1_0, .slice A1_1 l1_1.length c1_1] 27 (0, 0)) (by (with_reducible repeat (first | refine blk_drewN ?_ _ | refine blk_drew ?_ | refine blk_alloc ?_ _)); exact BK187.out)) : gb189 ≠ gb187)); have n12_ := Am ((by rw [hg]; exact Nat.ne_of_lt (blk_lt (g := gb188) (o := .cells #[.int .i64 a4_0, .int .i64 a4_1, .int .i64 a4_2, .int .i64 a4_3, .int .i64 a4_4, .int .i64 a4_5, .int .i64 a4_6, .int .i64 a4_7, .int .i64 a4_8, .int .i64 a4_9, .slice A4_10 l4_10.length c4_10] 31 (0, 0)) (by (with_reducible repeat (first | refine blk_drewN ?_ _ | refine blk_drew ?_ | refine blk_alloc ?_ _)); exact BK188.out)) : gb188 ≠ gb189)); have n13_ := Am ((by rw [hg]; exact Nat.ne_of_gt (blk_lt (g := gb188) (o := .cells #[.int .i64 a4_0, .int .i64 a4_1, .int .i64 a4_2, .int .i64 a4_3, .int .i64 a4_4, .int .i64 a4_5, .int .i64 a4_6, .int .i64 a4_7, .int .i64 a4_8, .int .i64 a4_9, .slice A4_10 l4_10.length c4_10] 31 (0, 0)) (by (with_reducible repeat (first | refine blk_drewN ?_ _ | refine blk_drew ?_ | refine blk_alloc ?_ _)); exact BK188.out)) : gb189 ≠ gb188)); clear HO3; clear BK186; clear BK187; clear BK188; clear HB; have HO3 := n0_; have BK186 := n1_; have BK187 := n2_; have BK188 := n3_; have HB := n4_; have BK189 := n5_; have GW189 := n6_; have GE189 := n7_; have NB186_189 := n8_; have NB189_186 := n9_; have NB187_189 := n10_; have NB189_187 := n11_; have NB188_189 := n12_; have NB189_188 := n13_; clear n0_ n1_ n2_ n3_ n4_ n5_ n6_ n7_ n8_ n9_ n10_ n11_ n12_ n13_; clear hb hbox hg; have hnb13 := NB186_187.out; have hnc13 := NB187_186.out; have hnb14 := NB186_188.out; have hnc14 := NB188_186.out; have hnb15 := NB186_189.out; have hnc15 := NB189_186.out; have hcz16_0 : w12.cell? ⟨gb186, 0, none⟩ = some (.int .i64 a0_0) := (blk_cell BK186.out 0).trans rfl; have hcz16_1 : w12.cell? ⟨gb186, 1, none⟩ = some (.slice A0_1 l0_1.length c0_1) := (blk_cell BK186.out 1).trans rfl; have hfz16_0 := blk_frozen BK186.out 0; have hfz16_1 := blk_frozen BK186.out 1; have hnb17 := NB187_188.out; have hnc17 := NB188_187.out; have hnb18 := NB187_189.out; have hnc18 := NB189_187.out; have hcz19_0 : w12.cell? ⟨gb187, 0, none⟩ = some (.int .i64 a1_0) := (blk_cell BK187.out 0).trans rfl; have hcz19_1 : w12.cell? ⟨gb187, 1, none⟩ = some (.slice A1_1 l1_1.length c1_1) := (blk_cell BK187.out 1).trans rfl; have hfz19_0 := blk_frozen BK187.out 0; have hfz19_1 := blk_frozen BK187.out 1; have hnb20 := NB188_189.out; have hnc20 := NB189_188.out; have hcz21_0 : w12.cell? ⟨gb188, 0, none⟩ = some (.int .i64 a4_0) := (blk_cell BK188.out 0).trans rfl; have hcz21_1 : w12.cell? ⟨gb188, 1, none⟩ = some (.int .i64 a4_1) := (blk_cell BK188.out 1).trans rfl; have hcz21_2 : w12.cell? ⟨gb188, 2, none⟩ = some (.int .i64 a4_2) := (blk_cell BK188.out 2).trans rfl; have hcz21_3 : w12.cell? ⟨gb188, 3, none⟩ = some (.int .i64 a4_3) := (blk_cell BK188.out 3).trans rfl; have hcz21_4 : w12.cell? ⟨gb188, 4, none⟩ = some (.int .i64 a4_4) := (blk_cell BK188.out 4).trans rfl; have hcz21_5 : w12.cell? ⟨gb188, 5, none⟩ = some (.int .i64 a4_5) := (blk_cell BK188.out 5).trans rfl; have hcz21_6 : w12.cell? ⟨gb188, 6, none⟩ = some (.int .i64 a4_6) := (blk_cell BK188.out 6).trans rfl; have hcz21_7 : w12.cell? ⟨gb188, 7, none⟩ = some (.int .i64 a4_7) := (blk_cell BK188.out 7).trans rfl; have hcz21_8 : w12.cell? ⟨gb188, 8, none⟩ = some (.int .i64 a4_8) := (blk_cell BK188.out 8).trans rfl; have hcz21_9 : w12.cell? ⟨gb188, 9, none⟩ = some (.int .i64 a4_9) := (blk_cell BK188.out 9).trans rfl; have hcz21_10 : w12.cell? ⟨gb188, 10, none⟩ = some (.slice A4_10 l4_10.length c4_10) := (blk_cell BK188.out 10).trans rfl; have hfz21_0 := blk_frozen BK188.out 0; have hfz21_1 := blk_frozen BK188.out 1; have hfz21_2 := blk_frozen BK188.out 2; have hfz21_3 := blk_frozen BK188.out 3; have hfz21_4 := blk_frozen BK188.out 4; have hfz21_5 := blk_frozen BK188.out 5; have hfz21_6 := blk_frozen BK188.out 6; have hfz21_7 := blk_frozen BK188.out 7; have hfz21_8 := blk_frozen BK188.out 8; have hfz21_9 := blk_frozen BK188.out 9; have hfz21_10 := blk_frozen BK188.out 10) | ((with_reducible refine gate_callee (f := 16) rfl ?_); refine goesL_ (some 21) rfl rfl Try.func16 (by kernel_rfl) rfl #[.agg #[.int .i64 a0_0, .slice A0_1 l0_1.length c0_1], .agg #[.int .i64 a1_0, .slice A1_1 l1_1.length c1_1], .int .i64 a2, .agg #[.int .i64 a4_0, .int .i64 a4_1, .int .i64 a4_2, .int .i64 a4_3, .int .i64 a4_4, .int .i64 a4_5, .int .i64 a4_6, .int .i64 a4_7, .int .i64 a4_8, .int .i64 a4_9, .slice A4_10 l4_10.length c4_10]] rfl (by (try simp only [List.map_toArray, List.map_cons, List.map_nil]); first | done | rfl | (simp only [List.length_drop, List.length_take]; rfl)) ?_; (with_reducible refine (node_fits.calls k a0_0 _ _ l0_1 a1_0 _ _ l1_1 a2 a4_0 a4_1 a4_2 a4_3 a4_4 a4_5 a4_6 a4_7 a4_8 a4_9 _ _ l4_10 true _ ?side1 ?side2 ?side3 ?side4 ?side5 ?side6 A6.out).mono ?_); (case side1 => repeat (first | exact (Kd.C_below HR0_1.out HB.out) | (with_reducible refine Kd.C_alloc ?_ _) | (with_reducible refine Kd.C_drewN ?_ _) | (with_reducible refine Kd.C_drew ?_))); (case side2 => exact HC0_1.out); (case side3 => repeat (first | exact (Kd.C_below HR1_1.out HB.out) | (with_reducible refine Kd.C_alloc ?_ _) | (with_reducible refine Kd.C_drewN ?_ _) | (with_reducible refine Kd.C_drew ?_))); (case side4 => exact HC1_1.out); (case side5 => repeat (first | exact (Kd.C_below HR4_10.out HB.out) | (with_reducible refine Kd.C_alloc ?_ _) | (with_reducible refine Kd.C_drewN ?_ _) | (with_reducible refine Kd.C_drew ?_))); (case side6 => exact HC4_10.out); rintro e w22 ⟨rfl, hb⟩; refine ⟨_, rfl, ?_⟩; have n0_ := Am (Kd.V_below (by (with_reducible repeat (first | apply Kd.V_alloc | apply Kd.V_drewN | apply Kd.V_drew)); exact HO3.out) hb); have n1_ := Am (blk_below (g := gb186) (o := .cells #[.int .i64 a0_0, .slice A0_1 l0_1.length c0_1] 24 (0, 0)) (by (with_reducible repeat (first | refine blk_drewN ?_ _ | refine blk_drew ?_ | refine blk_alloc ?_ _)); exact BK186.out) hb); have n2_ := Am (blk_below (g := gb187) (o := .cells #[.int .i64 a1_0, .slice A1_1 l1_1.length c1_1] 27 (0, 0)) (by (with_reducible repeat (first | refine blk_drewN ?_ _ | refine blk_drew ?_ | refine blk_alloc ?_ _)); exact BK187.out) hb); have n3_ := Am (blk_below (g := gb188) (o := .cells #[.int .i64 a4_0, .int .i64 a4_1, .int .i64 a4_2, .int .i64 a4_3, .int .i64 a4_4, .int .i64 a4_5, .int .i64 a4_6, .int .i64 a4_7, .int .i64 a4_8, .int .i64 a4_9, .slice A4_10 l4_10.length c4_10] 31 (0, 0)) (by (with_reducible repeat (first | refine blk_drewN ?_ _ | refine blk_drew ?_ | refine blk_alloc ?_ _)); exact BK188.out) hb); have n4_ := Am (blk_below (g := gb189) (o := .cells #[.int .i64 0, .int .i64 0, .int .i64 0, .int .i64 0, .int .i64 0, .int .i64 0, .int .i64 0, .int .i64 0, .int .i64 0, .int .i64 0, .slice none 0 0] 31 (0, 0)) (by (with_reducible repeat (first | refine blk_drewN ?_ _ | refine blk_drew ?_ | refine blk_alloc ?_ _)); exact BK189.out) hb); have n5_ := Am (below_step (by repeat (first | (with_reducible first | exact HB.out | apply below_alloc | apply pw_below_drewN | apply below_drew1 | refine below_set ?_ GE186.out | refine below_set ?_ GE187.out | refine below_set ?_ GE188.out | refine below_set ?_ GE189.out) | exact HB.out)) hb); clear HO3; clear BK186; clear BK187; clear BK188; clear BK189; clear HB; have HO3 := n0_; have BK186 := n1_; have BK187 := n2_; have BK188 := n3_; have BK189 := n4_; have HB := n5_; clear n0_ n1_ n2_ n3_ n4_ n5_; (try clear hb); (try clear hb2); (try clear hk); (try clear hi); have hcz23_0 : w22.cell? ⟨gb188, 0, none⟩ = some (.int .i64 a4_0) := (blk_cell BK188.out 0).trans rfl; have hcz23_1 : w22.cell? ⟨gb188, 1, none⟩ = some (.int .i64 a4_1) := (blk_cell BK188.out 1).trans rfl; have hcz23_2 : w22.cell? ⟨gb188, 2, none⟩ = some (.int .i64 a4_2) := (blk_cell BK188.out 2).trans rfl; have hcz23_3 : w22.cell? ⟨gb188, 3, none⟩ = some (.int .i64 a4_3) := (blk_cell BK188.out 3).trans rfl; have hcz23_4 : w22.cell? ⟨gb188, 4, none⟩ = some (.int .i64 a4_4) := (blk_cell BK188.out 4).trans rfl; have hcz23_5 : w22.cell? ⟨gb188, 5, none⟩ = some (.int .i64 a4_5) := (blk_cell BK188.out 5).trans rfl; have hcz23_6 : w22.cell? ⟨gb188, 6, none⟩ = some (.int .i64 a4_6) := (blk_cell BK188.out 6).trans rfl; have hcz23_7 : w22.cell? ⟨gb188, 7, none⟩ = some (.int .i64 a4_7) := (blk_cell BK188.out 7).trans rfl; have hcz23_8 : w22.cell? ⟨gb188, 8, none⟩ = some (.int .i64 a4_8) := (blk_cell BK188.out 8).trans rfl; have hcz23_9 : w22.cell? ⟨gb188, 9, none⟩ = some (.int .i64 a4_9) := (blk_cell BK188.out 9).trans rfl; have hcz23_10 : w22.cell? ⟨gb188, 10, none⟩ = some (.slice A4_10 l4_10.length c4_10) := (blk_cell BK188.out 10).trans rfl; have hfz23_0 := blk_frozen BK188.out 0; have hfz23_1 := blk_frozen BK188.out 1; have hfz23_2 := blk_frozen BK188.out 2; have hfz23_3 := blk_frozen BK188.out 3; have hfz23_4 := blk_frozen BK188.out 4; have hfz23_5 := blk_frozen BK188.out 5; have hfz23_6 := blk_frozen BK188.out 6; have hfz23_7 := blk_frozen BK188.out 7; have hfz23_8 := blk_frozen BK188.out 8; have hfz23_9 := blk_frozen BK188.out 9; have hfz23_10 := blk_frozen BK188.out 10) | ((with_reducible refine gate_dst (N := 13) rfl ?_); refine box_event ?hg (N := 13) ?hd (cs := #[.int .i64 0, .int .i64 0, .int .i64 0, .int .i64 0, .int .i64 0, .int .i64 0, .int .i64 0, .int .i64 0, .int .i64 0, .int .i64 0, .slice none 0 0]) (t := 31) ?hr ?_; (case hd => rfl); (case hg => rfl); (case hr => first | (go_simp; done) | (go_simp; rfl)); intro gb191 hg w24 hbox hb; have n0_ := Am (Kd.V_below (Kd.V_elderB (by (with_reducible repeat (first | apply Kd.V_alloc | apply Kd.V_drewN | apply Kd.V_drew)); exact HO3.out) gb191 (Nat.le_of_eq hg.symm)) hb); have n1_ := Am (blk_below (g := gb186) (o := .cells #[.int .i64 a0_0, .slice A0_1 l0_1.length c0_1] 24 (0, 0)) (by (with_reducible repeat (first | refine blk_drewN ?_ _ | refine blk_drew ?_ | refine blk_alloc ?_ _)); exact BK186.out) hb); have n2_ := Am (blk_below (g := gb187) (o := .cells #[.int .i64 a1_0, .slice A1_1 l1_1.length c1_1] 27 (0, 0)) (by (with_reducible repeat (first | refine blk_drewN ?_ _ | refine blk_drew ?_ | refine blk_alloc ?_ _)); exact BK187.out) hb); have n3_ := Am (blk_below (g := gb188) (o := .cells #[.int .i64 a4_0, .int .i64 a4_1, .int .i64 a4_2, .int .i64 a4_3, .int .i64 a4_4, .int .i64 a4_5, .int .i64 a4_6, .int .i64 a4_7, .int .i64 a4_8, .int .i64 a4_9, .slice A4_10 l4_10.length c4_10] 31 (0, 0)) (by (with_reducible repeat (first | refine blk_drewN ?_ _ | refine blk_drew ?_ | refine blk_alloc ?_ _)); exact BK188.out) hb); have n4_ := Am (blk_below (g := gb189) (o := .cells #[.int .i64 0, .int .i64 0, .int .i64 0, .int .i64 0, .int .i64 0, .int .i64 0, .int .i64 0, .int .i64 0, .int .i64 0, .int .i64 0, .slice none 0 0] 31 (0, 0)) (by (with_reducible repeat (first | refine blk_drewN ?_ _ | refine blk_drew ?_ | refine blk_alloc ?_ _)); exact BK189.out) hb); have n5_ := Am (below_step (by repeat (first | (with_reducible first | exact HB.out | apply below_alloc | apply pw_below_drewN | apply below_drew1 | refine below_set ?_ GE186.out | refine below_set ?_ GE187.out | refine below_set ?_ GE188.out | refine below_set ?_ GE189.out) | exact HB.out)) hb); have n6_ := Am (hbox); have n7_ := Am ((by rw [hg]; exact (below_size (by repeat (first | (with_reducible first | exact HB.out | apply below_alloc | apply pw_below_drewN | apply below_drew1 | refine below_set ?_ GE186.out | refine below_set ?_ GE187.out | refine below_set ?_ GE188.out | refine below_set ?_ GE189.out) | exact HB.out))) : w.heap.size ≤ gb191)); have n8_ := Am ((by rw [hg]; exact (below_size (by repeat (first | (with_reducible first | exact HB.out | apply below_alloc | apply pw_below_drewN | apply below_drew1 | refine below_set ?_ GE186.out | refine below_set ?_ GE187.out | refine below_set ?_ GE188.out | refine below_set ?_ GE189.out) | exact HB.out))) : w.heap.size ≤ gb191)); have n9_ := Am ((by rw [hg]; exact Nat.ne_of_lt (blk_lt (g := gb186) (o := .cells #[.int .i64 a0_0, .slice A0_1 l0_1.length c0_1] 24 (0, 0)) (by (with_reducible repeat (first | refine blk_drewN ?_ _ | refine blk_drew ?_ | refine blk_alloc ?_ _)); exact BK186.out)) : gb186 ≠ gb191)); have n10_ := Am ((by rw [hg]; exact Nat.ne_of_gt (blk_lt (g := gb186) (o := .cells #[.int .i64 a0_0, .slice A0_1 l0_1.length c0_1] 24 (0, 0)) (by (with_reducible repeat (first | refine blk_drewN ?_ _ | refine blk_drew ?_ | refine blk_alloc ?_ _)); exact BK186.out)) : gb191 ≠ gb186)); have n11_ := Am ((by rw [hg]; exact Nat.ne_of_lt (blk_lt (g := gb187) (o := .cells #[.int .i64 a1_0, .slice A1_1 l1_1.length c1_1] 27 (0, 0)) (by (with_reducible repeat (first | refine blk_drewN ?_ _ | refine blk_drew ?_ | refine blk_alloc ?_ _)); exact BK187.out)) : gb187 ≠ gb191)); have n12_ := Am ((by rw [hg]; exact Nat.ne_of_gt (blk_lt (g := gb187) (o := .cells #[.int .i64 a1_0, .slice A1_1 l1_1.length c1_1] 27 (0, 0)) (by (with_reducible repeat (first | refine blk_drewN ?_ _ | refine blk_drew ?_ | refine blk_alloc ?_ _)); exact BK187.out)) : gb191 ≠ gb187)); have n13_ := Am ((by rw [hg]; exact Nat.ne_of_lt (blk_lt (g := gb188) (o := .cells #[.int .i64 a4_0, .int .i64 a4_1, .int .i64 a4_2, .int .i64 a4_3, .int .i64 a4_4, .int .i64 a4_5, .int .i64 a4_6, .int .i64 a4_7, .int .i64 a4_8, .int .i64 a4_9, .slice A4_10 l4_10.length c4_10] 31 (0, 0)) (by (with_reducible repeat (first | refine blk_drewN ?_ _ | refine blk_drew ?_ | refine blk_alloc ?_ _)); exact BK188.out)) : gb188 ≠ gb191)); have n14_ := Am ((by rw [hg]; exact Nat.ne_of_gt (blk_lt (g := gb188) (o := .cells #[.int .i64 a4_0, .int .i64 a4_1, .int .i64 a4_2, .int .i64 a4_3, .int .i64 a4_4, .int .i64 a4_5, .int .i64 a4_6, .int .i64 a4_7, .int .i64 a4_8, .int .i64 a4_9, .slice A4_10 l4_10.length c4_10] 31 (0, 0)) (by (with_reducible repeat (first | refine blk_drewN ?_ _ | refine blk_drew ?_ | refine blk_alloc ?_ _)); exact BK188.out)) : gb191 ≠ gb188)); have n15_ := Am ((by rw [hg]; exact Nat.ne_of_lt (blk_lt (g := gb189) (o := .cells #[.int .i64 0, .int .i64 0, .int .i64 0, .int .i64 0, .int .i64 0, .int .i64 0, .int .i64 0, .int .i64 0, .int .i64 0, .int .i64 0, .slice none 0 0] 31 (0, 0)) (by (with_reducible repeat (first | refine blk_drewN ?_ _ | refine blk_drew ?_ | refine blk_alloc ?_ _)); exact BK189.out)) : gb189 ≠ gb191)); have n16_ := Am ((by rw [hg]; exact Nat.ne_of_gt (blk_lt (g := gb189) (o := .cells #[.int .i64 0, .int .i64 0, .int .i64 0, .int .i64 0, .int .i64 0, .int .i64 0, .int .i64 0, .int .i64 0, .int .i64 0, .int .i64 0, .slice none 0 0] 31 (0, 0)) (by (with_reducible repeat (first | refine blk_drewN ?_ _ | refine blk_drew ?_ | refine blk_alloc ?_ _)); exact BK189.out)) : gb191 ≠ gb189)); clear HO3; clear BK186; clear BK187; clear BK188; clear BK189; clear HB; have HO3 := n0_; have BK186 := n1_; have BK187 := n2_; have BK188 := n3_; have BK189 := n4_; have HB := n5_; have BK191 := n6_; have GW191 := n7_; have GE191 := n8_; have NB186_191 := n9_; have NB191_186 := n10_; have NB187_191 := n11_; have NB191_187 := n12_; have NB188_191 := n13_; have NB191_188 := n14_; have NB189_191 := n15_; have NB191_189 := n16_; clear n0_ n1_ n2_ n3_ n4_ n5_ n6_ n7_ n8_ n9_ n10_ n11_ n12_ n13_ n14_ n15_ n16_; clear hb hbox hg; have hnb25 := NB191_186.out; have hnc25 := NB186_191.out; have hnb26 := NB191_187.out; have hnc26 := NB187_191.out; have hnb27 := NB191_188.out; have hnc27 := NB188_191.out; have hnb28 := NB191_189.out; have hnc28 := NB189_191.out; have hcz29_0 : w24.cell? ⟨gb191, 0, none⟩ = some (.int .i64 0) := (blk_cell BK191.out 0).trans rfl; have hcz29_1 : w24.cell? ⟨gb191, 1, none⟩ = some (.int .i64 0) := (blk_cell BK191.out 1).trans rfl; have hcz29_2 : w24.cell? ⟨gb191, 2, none⟩ = some (.int .i64 0) := (blk_cell BK191.out 2).trans rfl; have hcz29_3 : w24.cell? ⟨gb191, 3, none⟩ = some (.int .i64 0) := (blk_cell BK191.out 3).trans rfl; have hcz29_4 : w24.cell? ⟨gb191, 4, none⟩ = some (.int .i64 0) := (blk_cell BK191.out 4).trans rfl; have hcz29_5 : w24.cell? ⟨gb191, 5, none⟩ = some (.int .i64 0) := (blk_cell BK191.out 5).trans rfl; have hcz29_6 : w24.cell? ⟨gb191, 6, none⟩ = some (.int .i64 0) := (blk_cell BK191.out 6).trans rfl; have hcz29_7 : w24.cell? ⟨gb191, 7, none⟩ = some (.int .i64 0) := (blk_cell BK191.out 7).trans rfl; have hcz29_8 : w24.cell? ⟨gb191, 8, none⟩ = some (.int .i64 0) := (blk_cell BK191.out 8).trans rfl; have hcz29_9 : w24.cell? ⟨gb191, 9, none⟩ = some (.int .i64 0) := (blk_cell BK191.out 9).trans rfl; have hcz29_10 : w24.cell? ⟨gb191, 10, none⟩ = some (.slice none 0 0) := (blk_cell BK191.out 10).trans rfl; have hfz29_0 := blk_frozen BK191.out 0; have hfz29_1 := blk_frozen BK191.out 1; have hfz29_2 := blk_frozen BK191.out 2; have hfz29_3 := blk_frozen BK191.out 3; have hfz29_4 := blk_frozen BK191.out 4; have hfz29_5 := blk_frozen BK191.out 5; have hfz29_6 := blk_frozen BK191.out 6; have hfz29_7 := blk_frozen BK191.out 7; have hfz29_8 := blk_frozen BK191.out 8; have hfz29_9 := blk_frozen BK191.out 9; have hfz29_10 := blk_frozen BK191.out 10))
   have n0_ : Aside0 (Kd.V k39 39 (((((((((((w24.setCell ⟨gb191, 0, none⟩ (.int .i64 a4_0)).setCell ⟨gb191, 1, none⟩ (.int .i64 a4_1)).setCell ⟨gb191, 2, none⟩ (.int .i64 a4_2)).setCell ⟨gb191, 3, none⟩ (.int .i64 a4_3)).setCell ⟨gb191, 4, none⟩ (.int .i64 a4_4)).setCell ⟨gb191, 5, none⟩ (.int .i64 a4_5)).setCell ⟨gb191, 6, none⟩ (.int .i64 a4_6)).setCell ⟨gb191, 7, none⟩ (.int .i64 a4_7)).setCell ⟨gb191, 8, none⟩ (.int .i64 a4_8)).setCell ⟨gb191, 9, none⟩ (.int .i64 a4_9)).setCell ⟨gb191, 10, none⟩ (.slice A4_10 l4_10.length c4_10)) w.heap.size (fun k_ => (P3_ k_ ∨ w.heap.size ≤ k_) ∧ k_ ≠ gb186 ∧ k_ ≠ gb187 ∧ k_ ≠ gb188 ∧ k_ ≠ gb189 ∧ k_ ≠ gb191) (.slice A3 l3.length c3) l3) := ⟨by (with_reducible repeat (first | apply Kd.V_alloc | apply Kd.V_drewN | apply Kd.V_drew)); exact Kd.V_mono (Kd.V_far (p := ⟨gb191, 10, none⟩) (Kd.V_far (p := ⟨gb191, 9, none⟩) (Kd.V_far (p := ⟨gb191, 8, none⟩) (Kd.V_far (p := ⟨gb191, 7, none⟩) (Kd.V_far (p := ⟨gb191, 6, none⟩) (Kd.V_far (p := ⟨gb191, 5, none⟩) (Kd.V_far (p := ⟨gb191, 4, none⟩) (Kd.V_far (p := ⟨gb191, 3, none⟩) (Kd.V_far (p := ⟨gb191, 2, none⟩) (Kd.V_far (p := ⟨gb191, 1, none⟩) (Kd.V_far (p := ⟨gb191, 0, none⟩) (Kd.V_mono HO3.out (fun k_ hk => (⟨hk, hk.2⟩ : _ ∧ k_ ≠ gb191))) (fun _ hk => hk.2) (.int .i64 a4_0)) (fun _ hk => hk.2) (.int .i64 a4_1)) (fun _ hk => hk.2) (.int .i64 a4_2)) (fun _ hk => hk.2) (.int .i64 a4_3)) (fun _ hk => hk.2) (.int .i64 a4_4)) (fun _ hk => hk.2) (.int .i64 a4_5)) (fun _ hk => hk.2) (.int .i64 a4_6)) (fun _ hk => hk.2) (.int .i64 a4_7)) (fun _ hk => hk.2) (.int .i64 a4_8)) (fun _ hk => hk.2) (.int .i64 a4_9)) (fun _ hk => hk.2) (.slice A4_10 l4_10.length c4_10)) (fun _ hk => ⟨hk.1.1.1.1.1.1, ⟨hk.1.1.1.1.1.2, ⟨hk.1.1.1.1.2, ⟨hk.1.1.1.2, ⟨hk.1.1.2, hk.1.2⟩⟩⟩⟩⟩)⟩
   have n1_ : Aside0 ((((((((((((w24.setCell ⟨gb191, 0, none⟩ (.int .i64 a4_0)).setCell ⟨gb191, 1, none⟩ (.int .i64 a4_1)).setCell ⟨gb191, 2, none⟩ (.int .i64 a4_2)).setCell ⟨gb191, 3, none⟩ (.int .i64 a4_3)).setCell ⟨gb191, 4, none⟩ (.int .i64 a4_4)).setCell ⟨gb191, 5, none⟩ (.int .i64 a4_5)).setCell ⟨gb191, 6, none⟩ (.int .i64 a4_6)).setCell ⟨gb191, 7, none⟩ (.int .i64 a4_7)).setCell ⟨gb191, 8, none⟩ (.int .i64 a4_8)).setCell ⟨gb191, 9, none⟩ (.int .i64 a4_9)).setCell ⟨gb191, 10, none⟩ (.slice A4_10 l4_10.length c4_10)).heap[gb186]? = some (.cells #[.int .i64 a0_0, .slice A0_1 l0_1.length c0_1] 24 (0, 0))) := ⟨by (with_reducible repeat (first | refine blk_drewN ?_ _ | refine blk_drew ?_ | refine blk_alloc ?_ _)); refine blk_far ?_ NB186_191.out _; (with_reducible repeat (first | refine blk_drewN ?_ _ | refine blk_drew ?_ | refine blk_alloc ?_ _)); refine blk_far ?_ NB186_191.out _; (with_reducible repeat (first | refine blk_drewN ?_ _ | refine blk_drew ?_ | refine blk_alloc ?_ _)); refine blk_far ?_ NB186_191.out _; (with_reducible repeat (first | refine blk_drewN ?_ _ | refine blk_drew ?_ | refine blk_alloc ?_ _)); refine blk_far ?_ NB186_191.out _; (with_reducible repeat (first | refine blk_drewN ?_ _ | refine blk_drew ?_ | refine blk_alloc ?_ _)); refine blk_far ?_ NB186_191.out _; (with_reducible repeat (first | refine blk_drewN ?_ _ | refine blk_drew ?_ | refine blk_alloc ?_ _)); refine blk_far ?_ NB186_191.out _; (with_reducible repeat (first | refine blk_drewN ?_ _ | refine blk_drew ?_ | refine blk_alloc ?_ _)); refine blk_far ?_ NB186_191.out _; (with_reducible repeat (first | refine blk_drewN ?_ _ | refine blk_drew ?_ | refine blk_alloc ?_ _)); refine blk_far ?_ NB186_191.out _; (with_reducible repeat (first | refine blk_drewN ?_ _ | refine blk_drew ?_ | refine blk_alloc ?_ _)); refine blk_far ?_ NB186_191.out _; (with_reducible repeat (first | refine blk_drewN ?_ _ | refine blk_drew ?_ | refine blk_alloc ?_ _)); refine blk_far ?_ NB186_191.out _; (with_reducible repeat (first | refine blk_drewN ?_ _ | refine blk_drew ?_ | refine blk_alloc ?_ _)); refine blk_far ?_ NB186_191.out _; (with_reducible repeat (first | refine blk_drewN ?_ _ | refine blk_drew ?_ | refine blk_alloc ?_ _)); exact BK186.out⟩
   have n2_ : Aside0 ((((((((((((w24.setCell ⟨gb191, 0, none⟩ (.int .i64 a4_0)).setCell ⟨gb191, 1, none⟩ (.int .i64 a4_1)).setCell ⟨gb191, 2, none⟩ (.int .i64 a4_2)).setCell ⟨gb191, 3, none⟩ (.int .i64 a4_3)).setCell ⟨gb191, 4, none⟩ (.int .i64 a4_4)).setCell ⟨gb191, 5, none⟩ (.int .i64 a4_5)).setCell ⟨gb191, 6, none⟩ (.int .i64 a4_6)).setCell ⟨gb191, 7, none⟩ (.int .i64 a4_7)).setCell ⟨gb191, 8, none⟩ (.int .i64 a4_8)).setCell ⟨gb191, 9, none⟩ (.int .i64 a4_9)).setCell ⟨gb191, 10, none⟩ (.slice A4_10 l4_10.length c4_10)).heap[gb187]? = some (.cells #[.int .i64 a1_0, .slice A1_1 l1_1.length c1_1] 27 (0, 0))) := ⟨by (with_reducible repeat (first | refine blk_drewN ?_ _ | refine blk_drew ?_ | refine blk_alloc ?_ _)); refine blk_far ?_ NB187_191.out _; (with_reducible repeat (first | refine blk_drewN ?_ _ | refine blk_drew ?_ | refine blk_alloc ?_ _)); refine blk_far ?_ NB187_191.out _; (with_reducible repeat (first | refine blk_drewN ?_ _ | refine blk_drew ?_ | refine blk_alloc ?_ _)); refine blk_far ?_ NB187_191.out _; (with_reducible repeat (first | refine blk_drewN ?_ _ | refine blk_drew ?_ | refine blk_alloc ?_ _)); refine blk_far ?_ NB187_191.out _; (with_reducible repeat (first | refine blk_drewN ?_ _ | refine blk_drew ?_ | refine blk_alloc ?_ _)); refine blk_far ?_ NB187_191.out _; (with_reducible repeat (first | refine blk_drewN ?_ _ | refine blk_drew ?_ | refine blk_alloc ?_ _)); refine blk_far ?_ NB187_191.out _; (with_reducible repeat (first | refine blk_drewN ?_ _ | refine blk_drew ?_ | refine blk_alloc ?_ _)); refine blk_far ?_ NB187_191.out _; (with_reducible repeat (first | refine blk_drewN ?_ _ | refine blk_drew ?_ | refine blk_alloc ?_ _)); refine blk_far ?_ NB187_191.out _; (with_reducible repeat (first | refine blk_drewN ?_ _ | refine blk_drew ?_ | refine blk_alloc ?_ _)); refine blk_far ?_ NB187_191.out _; (with_reducible repeat (first | refine blk_drewN ?_ _ | refine blk_drew ?_ | refine blk_alloc ?_ _)); refine blk_far ?_ NB187_191.out _; (with_reducible repeat (first | refine blk_drewN ?_ _ | refine blk_drew ?_ | refine blk_alloc ?_ _)); refine blk_far ?_ NB187_191.out _; (with_reducible repeat (first | refine blk_drewN ?_ _ | refine blk_drew ?_ | refine blk_alloc ?_ _)); exact BK187.out⟩
   have n3_ : Aside0 ((((((((((((w24.setCell ⟨gb191, 0, none⟩ (.int .i64 a4_0)).setCell ⟨gb191, 1, none⟩ (.int .i64 a4_1)).setCell ⟨gb191, 2, none⟩ (.int .i64 a4_2)).setCell ⟨gb191, 3, none⟩ (.int .i64 a4_3)).setCell ⟨gb191, 4, none⟩ (.int .i64 a4_4)).setCell ⟨gb191, 5, none⟩ (.int .i64 a4_5)).setCell ⟨gb191, 6, none⟩ (.int .i64 a4_6)).setCell ⟨gb191, 7, none⟩ (.int .i64 a4_7)).setCell ⟨gb191, 8, none⟩ (.int .i64 a4_8)).setCell ⟨gb191, 9, none⟩ (.int .i64 a4_9)).setCell ⟨gb191, 10, none⟩ (.slice A4_10 l4_10.length c4_10)).heap[gb188]? = some (.cells #[.int .i64 a4_0, .int .i64 a4_1, .int .i64 a4_2, .int .i64 a4_3, .int .i64 a4_4, .int .i64 a4_5, .int .i64 a4_6, .int .i64 a4_7, .int .i64 a4_8, .int .i64 a4_9, .slice A4_10 l4_10.length c4_10] 31 (0, 0))) := ⟨by (with_reducible repeat (first | refine blk_drewN ?_ _ | refine blk_drew ?_ | refine blk_alloc ?_ _)); refine blk_far ?_ NB188_191.out _; (with_reducible repeat (first | refine blk_drewN ?_ _ | refine blk_drew ?_ | refine blk_alloc ?_ _)); refine blk_far ?_ NB188_191.out _; (with_reducible repeat (first | refine blk_drewN ?_ _ | refine blk_drew ?_ | refine blk_alloc ?_ _)); refine blk_far ?_ NB188_191.out _; (with_reducible repeat (first | refine blk_drewN ?_ _ | refine blk_drew ?_ | refine blk_alloc ?_ _)); refine blk_far ?_ NB188_191.out _; (with_reducible repeat (first | refine blk_drewN ?_ _ | refine blk_drew ?_ | refine blk_alloc ?_ _)); refine blk_far ?_ NB188_191.out _; (with_reducible repeat (first | refine blk_drewN ?_ _ | refine blk_drew ?_ | refine blk_alloc ?_ _)); refine blk_far ?_ NB188_191.out _; (with_reducible repeat (first | refine blk_drewN ?_ _ | refine blk_drew ?_ | refine blk_alloc ?_ _)); refine blk_far ?_ NB188_191.out _; (with_reducible repeat (first | refine blk_drewN ?_ _ | refine blk_drew ?_ | refine blk_alloc ?_ _)); refine blk_far ?_ NB188_191.out _; (with_reducible repeat (first | refine blk_drewN ?_ _ | refine blk_drew ?_ | refine blk_alloc ?_ _)); refine blk_far ?_ NB188_191.out _; (with_reducible repeat (first | refine blk_drewN ?_ _ | refine blk_drew ?_ | refine blk_alloc ?_ _)); refine blk_far ?_ NB188_191.out _; (with_reducible repeat (first | refine blk_drewN ?_ _ | refine blk_drew ?_ | refine blk_alloc ?_ _)); refine blk_far ?_ NB188_191.out _; (with_reducible repeat (first | refine blk_drewN ?_ _ | refine blk_drew ?_ | refine blk_alloc ?_ _)); exact BK188.out⟩
   have n4_ : Aside0 ((((((((((((w24.setCell ⟨gb191, 0, none⟩ (.int .i64 a4_0)).setCell ⟨gb191, 1, none⟩ (.int .i64 a4_1)).setCell ⟨gb191, 2, none⟩ (.int .i64 a4_2)).setCell ⟨gb191, 3, none⟩ (.int .i64 a4_3)).setCell ⟨gb191, 4, none⟩ (.int .i64 a4_4)).setCell ⟨gb191, 5, none⟩ (.int .i64 a4_5)).setCell ⟨gb191, 6, none⟩ (.int .i64 a4_6)).setCell ⟨gb191, 7, none⟩ (.int .i64 a4_7)).setCell ⟨gb191, 8, none⟩ (.int .i64 a4_8)).setCell ⟨gb191, 9, none⟩ (.int .i64 a4_9)).setCell ⟨gb191, 10, none⟩ (.slice A4_10 l4_10.length c4_10)).heap[gb189]? = some (.cells #[.int .i64 0, .int .i64 0, .int .i64 0, .int .i64 0, .int .i64 0, .int .i64 0, .int .i64 0, .int .i64 0, .int .i64 0, .int .i64 0, .slice none 0 0] 31 (0, 0))) := ⟨by (with_reducible repeat (first | refine blk_drewN ?_ _ | refine blk_drew ?_ | refine blk_alloc ?_ _)); refine blk_far ?_ NB189_191.out _; (with_reducible repeat (first | refine blk_drewN ?_ _ | refine blk_drew ?_ | refine blk_alloc ?_ _)); refine blk_far ?_ NB189_191.out _; (with_reducible repeat (first | refine blk_drewN ?_ _ | refine blk_drew ?_ | refine blk_alloc ?_ _)); refine blk_far ?_ NB189_191.out _; (with_reducible repeat (first | refine blk_drewN ?_ _ | refine blk_drew ?_ | refine blk_alloc ?_ _)); refine blk_far ?_ NB189_191.out _; (with_reducible repeat (first | refine blk_drewN ?_ _ | refine blk_drew ?_ | refine blk_alloc ?_ _)); refine blk_far ?_ NB189_191.out _; (with_reducible repeat (first | refine blk_drewN ?_ _ | refine blk_drew ?_ | refine blk_alloc ?_ _)); refine blk_far ?_ NB189_191.out _; (with_reducible repeat (first | refine blk_drewN ?_ _ | refine blk_drew ?_ | refine blk_alloc ?_ _)); refine blk_far ?_ NB189_191.out _; (with_reducible repeat (first | refine blk_drewN ?_ _ | refine blk_drew ?_ | refine blk_alloc ?_ _)); refine blk_far ?_ NB189_191.out _; (with_reducible repeat (first | refine blk_drewN ?_ _ | refine blk_drew ?_ | refine blk_alloc ?_ _)); refine blk_far ?_ NB189_191.out _; (with_reducible repeat (first | refine blk_drewN ?_ _ | refine blk_drew ?_ | refine blk_alloc ?_ _)); refine blk_far ?_ NB189_191.out _; (with_reducible repeat (first | refine blk_drewN ?_ _ | refine blk_drew ?_ | refine blk_alloc ?_ _)); refine blk_far ?_ NB189_191.out _; (with_reducible repeat (first | refine blk_drewN ?_ _ | refine blk_drew ?_ | refine blk_alloc ?_ _)); exact BK189.out⟩
   have n5_ : Aside0 ((((((((((((w24.setCell ⟨gb191, 0, none⟩ (.int .i64 a4_0)).setCell ⟨gb191, 1, none⟩ (.int .i64 a4_1)).setCell ⟨gb191, 2, none⟩ (.int .i64 a4_2)).setCell ⟨gb191, 3, none⟩ (.int .i64 a4_3)).setCell ⟨gb191, 4, none⟩ (.int .i64 a4_4)).setCell ⟨gb191, 5, none⟩ (.int .i64 a4_5)).setCell ⟨gb191, 6, none⟩ (.int .i64 a4_6)).setCell ⟨gb191, 7, none⟩ (.int .i64 a4_7)).setCell ⟨gb191, 8, none⟩ (.int .i64 a4_8)).setCell ⟨gb191, 9, none⟩ (.int .i64 a4_9)).setCell ⟨gb191, 10, none⟩ (.slice A4_10 l4_10.length c4_10)).heap[gb191]? = some (.cells #[.int .i64 a4_0, .int .i64 a4_1, .int .i64 a4_2, .int .i64 a4_3, .int .i64 a4_4, .int .i64 a4_5, .int .i64 a4_6, .int .i64 a4_7, .int .i64 a4_8, .int .i64 a4_9, .slice A4_10 l4_10.length c4_10] 31 (0, 0))) := ⟨by (with_reducible repeat (first | refine blk_drewN ?_ _ | refine blk_drew ?_ | refine blk_alloc ?_ _)); refine blk_put (cs := #[.int .i64 a4_0, .int .i64 a4_1, .int .i64 a4_2, .int .i64 a4_3, .int .i64 a4_4, .int .i64 a4_5, .int .i64 a4_6, .int .i64 a4_7, .int .i64 a4_8, .int .i64 a4_9, .slice none 0 0]) ?_ 10 _ rfl; (with_reducible repeat (first | refine blk_drewN ?_ _ | refine blk_drew ?_ | refine blk_alloc ?_ _)); refine blk_put (cs := #[.int .i64 a4_0, .int .i64 a4_1, .int .i64 a4_2, .int .i64 a4_3, .int .i64 a4_4, .int .i64 a4_5, .int .i64 a4_6, .int .i64 a4_7, .int .i64 a4_8, .int .i64 0, .slice none 0 0]) ?_ 9 _ rfl; (with_reducible repeat (first | refine blk_drewN ?_ _ | refine blk_drew ?_ | refine blk_alloc ?_ _)); refine blk_put (cs := #[.int .i64 a4_0, .int .i64 a4_1, .int .i64 a4_2, .int .i64 a4_3, .int .i64 a4_4, .int .i64 a4_5, .int .i64 a4_6, .int .i64 a4_7, .int .i64 0, .int .i64 0, .slice none 0 0]) ?_ 8 _ rfl; (with_reducible repeat (first | refine blk_drewN ?_ _ | refine blk_drew ?_ | refine blk_alloc ?_ _)); refine blk_put (cs := #[.int .i64 a4_0, .int .i64 a4_1, .int .i64 a4_2, .int .i64 a4_3, .int .i64 a4_4, .int .i64 a4_5, .int .i64 a4_6, .int .i64 0, .int .i64 0, .int .i64 0, .slice none 0 0]) ?_ 7 _ rfl; (with_reducible repeat (first | refine blk_drewN ?_ _ | refine blk_drew ?_ | refine blk_alloc ?_ _)); refine blk_put (cs := #[.int .i64 a4_0, .int .i64 a4_1, .int .i64 a4_2, .int .i64 a4_3, .int .i64 a4_4, .int .i64 a4_5, .int .i64 0, .int .i64 0, .int .i64 0, .int .i64 0, .slice none 0 0]) ?_ 6 _ rfl; (with_reducible repeat (first | refine blk_drewN ?_ _ | refine blk_drew ?_ | refine blk_alloc ?_ _)); refine blk_put (cs := #[.int .i64 a4_0, .int .i64 a4_1, .int .i64 a4_2, .int .i64 a4_3, .int .i64 a4_4, .int .i64 0, .int .i64 0, .int .i64 0, .int .i64 0, .int .i64 0, .slice none 0 0]) ?_ 5 _ rfl; (with_reducible repeat (first | refine blk_drewN ?_ _ | refine blk_drew ?_ | refine blk_alloc ?_ _)); refine blk_put (cs := #[.int .i64 a4_0, .int .i64 a4_1, .int .i64 a4_2, .int .i64 a4_3, .int .i64 0, .int .i64 0, .int .i64 0, .int .i64 0, .int .i64 0, .int .i64 0, .slice none 0 0]) ?_ 4 _ rfl; (with_reducible repeat (first | refine blk_drewN ?_ _ | refine blk_drew ?_ | refine blk_alloc ?_ _)); refine blk_put (cs := #[.int .i64 a4_0, .int .i64 a4_1, .int .i64 a4_2, .int .i64 0, .int .i64 0, .int .i64 0, .int .i64 0, .int .i64 0, .int .i64 0, .int .i64 0, .slice none 0 0]) ?_ 3 _ rfl; (with_reducible repeat (first | refine blk_drewN ?_ _ | refine blk_drew ?_ | refine blk_alloc ?_ _)); refine blk_put (cs := #[.int .i64 a4_0, .int .i64 a4_1, .int .i64 0, .int .i64 0, .int .i64 0, .int .i64 0, .int .i64 0, .int .i64 0, .int .i64 0, .int .i64 0, .slice none 0 0]) ?_ 2 _ rfl; (with_reducible repeat (first | refine blk_drewN ?_ _ | refine blk_drew ?_ | refine blk_alloc ?_ _)); refine blk_put (cs := #[.int .i64 a4_0, .int .i64 0, .int .i64 0, .int .i64 0, .int .i64 0, .int .i64 0, .int .i64 0, .int .i64 0, .int .i64 0, .int .i64 0, .slice none 0 0]) ?_ 1 _ rfl; (with_reducible repeat (first | refine blk_drewN ?_ _ | refine blk_drew ?_ | refine blk_alloc ?_ _)); refine blk_put (cs := #[.int .i64 0, .int .i64 0, .int .i64 0, .int .i64 0, .int .i64 0, .int .i64 0, .int .i64 0, .int .i64 0, .int .i64 0, .int .i64 0, .slice none 0 0]) ?_ 0 _ rfl; (with_reducible repeat (first | refine blk_drewN ?_ _ | refine blk_drew ?_ | refine blk_alloc ?_ _)); exact BK191.out⟩
   have n6_ : Aside0 (Below w.heap.size w (((((((((((w24.setCell ⟨gb191, 0, none⟩ (.int .i64 a4_0)).setCell ⟨gb191, 1, none⟩ (.int .i64 a4_1)).setCell ⟨gb191, 2, none⟩ (.int .i64 a4_2)).setCell ⟨gb191, 3, none⟩ (.int .i64 a4_3)).setCell ⟨gb191, 4, none⟩ (.int .i64 a4_4)).setCell ⟨gb191, 5, none⟩ (.int .i64 a4_5)).setCell ⟨gb191, 6, none⟩ (.int .i64 a4_6)).setCell ⟨gb191, 7, none⟩ (.int .i64 a4_7)).setCell ⟨gb191, 8, none⟩ (.int .i64 a4_8)).setCell ⟨gb191, 9, none⟩ (.int .i64 a4_9)).setCell ⟨gb191, 10, none⟩ (.slice A4_10 l4_10.length c4_10))) := ⟨by repeat (first | (with_reducible first | exact HB.out | apply below_alloc | apply pw_below_drewN | apply below_drew1 | refine below_set ?_ GE186.out | refine below_set ?_ GE187.out | refine below_set ?_ GE188.out | refine below_set ?_ GE189.out | refine below_set ?_ GE191.out) | exact HB.out)⟩
   (try clear HO3)
   (try clear BK186)
   (try clear BK187)
   (try clear BK188)
   (try clear BK189)
   (try clear BK191)
   (try clear HB)
   generalize (((((((((((w24.setCell ⟨gb191, 0, none⟩ (.int .i64 a4_0)).setCell ⟨gb191, 1, none⟩ (.int .i64 a4_1)).setCell ⟨gb191, 2, none⟩ (.int .i64 a4_2)).setCell ⟨gb191, 3, none⟩ (.int .i64 a4_3)).setCell ⟨gb191, 4, none⟩ (.int .i64 a4_4)).setCell ⟨gb191, 5, none⟩ (.int .i64 a4_5)).setCell ⟨gb191, 6, none⟩ (.int .i64 a4_6)).setCell ⟨gb191, 7, none⟩ (.int .i64 a4_7)).setCell ⟨gb191, 8, none⟩ (.int .i64 a4_8)).setCell ⟨gb191, 9, none⟩ (.int .i64 a4_9)).setCell ⟨gb191, 10, none⟩ (.slice A4_10 l4_10.length c4_10)) = w30 at n0_ n1_ n2_ n3_ n4_ n5_ n6_ ⊢
   have HO3 := n0_
   have BK186 := n1_
   have BK187 := n2_
   have BK188 := n3_
   have BK189 := n4_
   have BK191 := n5_
   have HB := n6_
   clear n0_ n1_ n2_ n3_ n4_ n5_ n6_
   have n0_ := Am (Kd.V_drew HO3.out)
   have n1_ := Am (blk_drew BK186.out)
   have n2_ := Am (blk_drew BK187.out)
   have n3_ := Am (blk_drew BK188.out)
   have n4_ := Am (blk_drew BK189.out)
   have n5_ := Am (blk_drew BK191.out)
   have n6_ := Am (below_drew1 HB.out)
   clear HO3
   clear BK186
   clear BK187
   clear BK188
   clear BK189
   clear BK191
   clear HB
   have HO3 := n0_
   have BK186 := n1_
   have BK187 := n2_
   have BK188 := n3_
   have BK189 := n4_
   have BK191 := n5_
   have HB := n6_
   clear n0_ n1_ n2_ n3_ n4_ n5_ n6_
   refine start_ (n := 15) (S := fun w' => w'.cell? ⟨gb188, 0, none⟩ = some (.int .i64 a4_0) ∧ w'.cell? ⟨gb188, 1, none⟩ = some (.int .i64 a4_1) ∧ w'.cell? ⟨gb188, 2, none⟩ = some (.int .i64 a4_2) ∧ w'.cell? ⟨gb188, 3, none⟩ = some (.int .i64 a4_3) ∧ w'.cell? ⟨gb188, 4, none⟩ = some (.int .i64 a4_4) ∧ w'.cell? ⟨gb188, 5, none⟩ = some (.int .i64 a4_5) ∧ w'.cell? ⟨gb188, 6, none⟩ = some (.int .i64 a4_6) ∧ w'.cell? ⟨gb188, 7, none⟩ = some (.int .i64 a4_7) ∧ w'.cell? ⟨gb188, 8, none⟩ = some (.int .i64 a4_8) ∧ w'.cell? ⟨gb188, 9, none⟩ = some (.int .i64 a4_9) ∧ w'.cell? ⟨gb188, 10, none⟩ = some (.slice A4_10 l4_10.length c4_10) ∧ w'.cell? ⟨gb187, 0, none⟩ = some (.int .i64 a1_0) ∧ w'.cell? ⟨gb187, 1, none⟩ = some (.slice A1_1 l1_1.length c1_1)) (ds := []) node_Work.m0 (by kernel_rfl) rfl rfl ⟨(blk_cell BK188.out 0).trans rfl, (blk_cell BK188.out 1).trans rfl, (blk_cell BK188.out 2).trans rfl, (blk_cell BK188.out 3).trans rfl, (blk_cell BK188.out 4).trans rfl, (blk_cell BK188.out 5).trans rfl, (blk_cell BK188.out 6).trans rfl, (blk_cell BK188.out 7).trans rfl, (blk_cell BK188.out 8).trans rfl, (blk_cell BK188.out 9).trans rfl, (blk_cell BK188.out 10).trans rfl, (blk_cell BK187.out 0).trans rfl, (blk_cell BK187.out 1).trans rfl⟩ (fun hHeld => ?_); refine with_tabW node_Work.tab4 node_Work.bits4 (fun HT_ HW_ => ?_)
   generalize w30.drew = w31 at HO3 BK186 BK187 BK188 BK189 BK191 HB hHeld ⊢
   refine pure_ (i := 0) (N := some 26) (v := ?_) (a' := ?_) node_Work.m1 rfl rfl (any_of HT_.out (by kernel_rfl)) (fun _ _ _ h => h) (Or.inl ⟨by rfl, ?_⟩) ?_ ?_
   rotate_left
   ·
    intro w'
    go_simp
    with_reducible rfl
   rotate_left
   ·
    simp only [Act.put, List.setIfInBounds_toArray, List.set_cons_zero, List.set_cons_succ, i64_w, i32_w]
    rfl
   refine pure_ (i := 1) (N := some 27) (v := ?_) (a' := ?_) node_Work.m2 rfl rfl (any_of HT_.out (by kernel_rfl)) (fun _ _ _ h => h) (Or.inl ⟨by rfl, ?_⟩) ?_ ?_
   rotate_left
   ·
    intro w'
    go_simp
    with_reducible rfl
   rotate_left
   ·
    simp only [Act.put, List.setIfInBounds_toArray, List.set_cons_zero, List.set_cons_succ, i64_w, i32_w]
    rfl
   refine pure_ (i := 3) (N := some 29) (v := ?_) (a' := ?_) node_Work.m3 rfl rfl (any_of HT_.out (by kernel_rfl)) (fun _ _ _ h => h) (Or.inl ⟨by rfl, ?_⟩) ?_ ?_
   rotate_left
   ·
    intro w'
    go_simp
    with_reducible rfl
   rotate_left
   ·
    simp only [Act.put, List.setIfInBounds_toArray, List.set_cons_zero, List.set_cons_succ, i64_w, i32_w]
    rfl
   refine pure_ (i := 5) (N := some 31) (v := ?_) (a' := ?_) node_Work.m4 rfl rfl (any_of HT_.out (by kernel_rfl)) (fun _ _ _ h => h) (Or.inl ⟨by rfl, ?_⟩) ?_ ?_
   rotate_left
   ·
    intro w'
    go_simp
    with_reducible rfl
   rotate_left
   ·
    simp only [Act.put, List.setIfInBounds_toArray, List.set_cons_zero, List.set_cons_succ, i64_w, i32_w]
    rfl
   refine take_ (i := 2) (N := some 28) (v := ?_) (a' := ?_) node_Work.m5 rfl rfl (take_ofW HT_.out HW_.out (by kernel_rfl)) (fun _ _ _ h => h) (Or.inl ⟨by rfl, ?_⟩) hHeld ?_ ?_
   rotate_left
   ·
    rintro w' ⟨s0, s1, s2, s3, s4, s5, s6, s7, s8, s9, s10, s11, s12⟩
    go_simp
    with_reducible rfl
   rotate_left
   ·
    simp only [Act.put, List.setIfInBounds_toArray, List.set_cons_zero, List.set_cons_succ, i64_w, i32_w]
    rfl
   refine take_ (i := 4) (N := some 30) (v := ?_) (a' := ?_) node_Work.m6 rfl rfl (take_ofW HT_.out HW_.out (by kernel_rfl)) (fun _ _ _ h => h) (Or.inl ⟨by rfl, ?_⟩) hHeld ?_ ?_
   rotate_left
   ·
    rintro w' ⟨s0, s1, s2, s3, s4, s5, s6, s7, s8, s9, s10, s11, s12⟩
    go_simp
    with_reducible rfl
   rotate_left
   ·
    simp only [Act.put, List.setIfInBounds_toArray, List.set_cons_zero, List.set_cons_succ, i64_w, i32_w]
    rfl
   refine one_ (i := 6) (N := none) node_Work.m7 rfl rfl (one_of HT_.out (by kernel_rfl)) (by decide) (fun K hK => ?_)
   have hs32 : w31.cell? ⟨gb191, 0, none⟩ = some (.int .i64 a4_0) := (blk_cell BK191.out 0).trans rfl
   have hfs32 := blk_frozen BK191.out 0
   have hns32_0 := NB186_191.out
   have hns32_1 := NB187_191.out
   have hns32_2 := NB188_191.out
   have hns32_3 := NB189_191.out
   have hms32_0 := NB191_186.out
   have hms32_1 := NB191_187.out
   have hms32_2 := NB191_188.out
   have hms32_3 := NB191_189.out
   refine skip_ (w1 := ?_) (by rfl) rfl ?_ ?_
   rotate_left
   ·
    go_simp
    rfl
   refine hK.out _ _ ⟨((cell_far (p := ⟨gb191, _, none⟩) NB188_191.out _).trans (hHeld.1)), ((cell_far (p := ⟨gb191, _, none⟩) NB188_191.out _).trans (hHeld.2.1)), ((cell_far (p := ⟨gb191, _, none⟩) NB188_191.out _).trans (hHeld.2.2.1)), ((cell_far (p := ⟨gb191, _, none⟩) NB188_191.out _).trans (hHeld.2.2.2.1)), ((cell_far (p := ⟨gb191, _, none⟩) NB188_191.out _).trans (hHeld.2.2.2.2.1)), ((cell_far (p := ⟨gb191, _, none⟩) NB188_191.out _).trans (hHeld.2.2.2.2.2.1)), ((cell_far (p := ⟨gb191, _, none⟩) NB188_191.out _).trans (hHeld.2.2.2.2.2.2.1)), ((cell_far (p := ⟨gb191, _, none⟩) NB188_191.out _).trans (hHeld.2.2.2.2.2.2.2.1)), ((cell_far (p := ⟨gb191, _, none⟩) NB188_191.out _).trans (hHeld.2.2.2.2.2.2.2.2.1)), ((cell_far (p := ⟨gb191, _, none⟩) NB188_191.out _).trans (hHeld.2.2.2.2.2.2.2.2.2.1)), ((cell_far (p := ⟨gb191, _, none⟩) NB188_191.out _).trans (hHeld.2.2.2.2.2.2.2.2.2.2.1)), ((cell_far (p := ⟨gb191, _, none⟩) NB187_191.out _).trans (hHeld.2.2.2.2.2.2.2.2.2.2.2.1)), ((cell_far (p := ⟨gb191, _, none⟩) NB187_191.out _).trans (hHeld.2.2.2.2.2.2.2.2.2.2.2.2))⟩ (fun hHeld => ?_)
   clear hK K
   refine pure_ (i := 7) (N := some 32) (v := ?_) (a' := ?_) node_Work.m8 rfl rfl (any_of HT_.out (by kernel_rfl)) (fun _ _ _ h => h) (Or.inl ⟨by rfl, ?_⟩) ?_ ?_
   rotate_left
   ·
    intro w'
    go_simp
    with_reducible rfl
   rotate_left
   ·
    simp only [Act.put, List.setIfInBounds_toArray, List.set_cons_zero, List.set_cons_succ, i64_w, i32_w]
    rfl
   refine one_ (i := 8) (N := none) node_Work.m9 rfl rfl (one_of HT_.out (by kernel_rfl)) (by decide) (fun K hK => ?_)
   have hs33 : w31.cell? ⟨gb191, 1, none⟩ = some (.int .i64 a4_1) := (blk_cell BK191.out 1).trans rfl
   have hfs33 := blk_frozen BK191.out 1
   have hns33_0 := NB186_191.out
   have hns33_1 := NB187_191.out
   have hns33_2 := NB188_191.out
   have hns33_3 := NB189_191.out
   have hms33_0 := NB191_186.out
   have hms33_1 := NB191_187.out
   have hms33_2 := NB191_188.out
   have hms33_3 := NB191_189.out
   refine skip_ (w1 := ?_) (by rfl) rfl ?_ ?_
   rotate_left
   ·
    go_simp
    rfl
   refine hK.out _ _ ⟨((cell_far (p := ⟨gb191, _, none⟩) NB188_191.out _).trans (hHeld.1)), ((cell_far (p := ⟨gb191, _, none⟩) NB188_191.out _).trans (hHeld.2.1)), ((cell_far (p := ⟨gb191, _, none⟩) NB188_191.out _).trans (hHeld.2.2.1)), ((cell_far (p := ⟨gb191, _, none⟩) NB188_191.out _).trans (hHeld.2.2.2.1)), ((cell_far (p := ⟨gb191, _, none⟩) NB188_191.out _).trans (hHeld.2.2.2.2.1)), ((cell_far (p := ⟨gb191, _, none⟩) NB188_191.out _).trans (hHeld.2.2.2.2.2.1)), ((cell_far (p := ⟨gb191, _, none⟩) NB188_191.out _).trans (hHeld.2.2.2.2.2.2.1)), ((cell_far (p := ⟨gb191, _, none⟩) NB188_191.out _).trans (hHeld.2.2.2.2.2.2.2.1)), ((cell_far (p := ⟨gb191, _, none⟩) NB188_191.out _).trans (hHeld.2.2.2.2.2.2.2.2.1)), ((cell_far (p := ⟨gb191, _, none⟩) NB188_191.out _).trans (hHeld.2.2.2.2.2.2.2.2.2.1)), ((cell_far (p := ⟨gb191, _, none⟩) NB188_191.out _).trans (hHeld.2.2.2.2.2.2.2.2.2.2.1)), ((cell_far (p := ⟨gb191, _, none⟩) NB187_191.out _).trans (hHeld.2.2.2.2.2.2.2.2.2.2.2.1)), ((cell_far (p := ⟨gb191, _, none⟩) NB187_191.out _).trans (hHeld.2.2.2.2.2.2.2.2.2.2.2.2))⟩ (fun hHeld => ?_)
   clear hK K
   refine pure_ (i := 9) (N := some 33) (v := ?_) (a' := ?_) node_Work.m10 rfl rfl (any_of HT_.out (by kernel_rfl)) (fun _ _ _ h => h) (Or.inl ⟨by rfl, ?_⟩) ?_ ?_
   rotate_left
   ·
    intro w'
    go_simp
    with_reducible rfl
   rotate_left
   ·
    simp only [Act.put, List.setIfInBounds_toArray, List.set_cons_zero, List.set_cons_succ, i64_w, i32_w]
    rfl
   refine one_ (i := 10) (N := none) node_Work.m11 rfl rfl (one_of HT_.out (by kernel_rfl)) (by decide) (fun K hK => ?_)
   have hs34 : w31.cell? ⟨gb191, 2, none⟩ = some (.int .i64 a4_2) := (blk_cell BK191.out 2).trans rfl
   have hfs34 := blk_frozen BK191.out 2
   have hns34_0 := NB186_191.out
   have hns34_1 := NB187_191.out
   have hns34_2 := NB188_191.out
   have hns34_3 := NB189_191.out
   have hms34_0 := NB191_186.out
   have hms34_1 := NB191_187.out
   have hms34_2 := NB191_188.out
   have hms34_3 := NB191_189.out
   refine skip_ (w1 := ?_) (by rfl) rfl ?_ ?_
   rotate_left
   ·
    go_simp
    rfl
   refine hK.out _ _ ⟨((cell_far (p := ⟨gb191, _, none⟩) NB188_191.out _).trans (hHeld.1)), ((cell_far (p := ⟨gb191, _, none⟩) NB188_191.out _).trans (hHeld.2.1)), ((cell_far (p := ⟨gb191, _, none⟩) NB188_191.out _).trans (hHeld.2.2.1)), ((cell_far (p := ⟨gb191, _, none⟩) NB188_191.out _).trans (hHeld.2.2.2.1)), ((cell_far (p := ⟨gb191, _, none⟩) NB188_191.out _).trans (hHeld.2.2.2.2.1)), ((cell_far (p := ⟨gb191, _, none⟩) NB188_191.out _).trans (hHeld.2.2.2.2.2.1)), ((cell_far (p := ⟨gb191, _, none⟩) NB188_191.out _).trans (hHeld.2.2.2.2.2.2.1)), ((cell_far (p := ⟨gb191, _, none⟩) NB188_191.out _).trans (hHeld.2.2.2.2.2.2.2.1)), ((cell_far (p := ⟨gb191, _, none⟩) NB188_191.out _).trans (hHeld.2.2.2.2.2.2.2.2.1)), ((cell_far (p := ⟨gb191, _, none⟩) NB188_191.out _).trans (hHeld.2.2.2.2.2.2.2.2.2.1)), ((cell_far (p := ⟨gb191, _, none⟩) NB188_191.out _).trans (hHeld.2.2.2.2.2.2.2.2.2.2.1)), ((cell_far (p := ⟨gb191, _, none⟩) NB187_191.out _).trans (hHeld.2.2.2.2.2.2.2.2.2.2.2.1)), ((cell_far (p := ⟨gb191, _, none⟩) NB187_191.out _).trans (hHeld.2.2.2.2.2.2.2.2.2.2.2.2))⟩ (fun hHeld => ?_)
   clear hK K
   refine pure_ (i := 11) (N := some 34) (v := ?_) (a' := ?_) node_Work.m12 rfl rfl (any_of HT_.out (by kernel_rfl)) (fun _ _ _ h => h) (Or.inl ⟨by rfl, ?_⟩) ?_ ?_
   rotate_left
   ·
    intro w'
    go_simp
    with_reducible rfl
   rotate_left
   ·
    simp only [Act.put, List.setIfInBounds_toArray, List.set_cons_zero, List.set_cons_succ, i64_w, i32_w]
    rfl
   refine one_ (i := 12) (N := none) node_Work.m13 rfl rfl (one_of HT_.out (by kernel_rfl)) (by decide) (fun K hK => ?_)
   have hs35 : w31.cell? ⟨gb191, 9, none⟩ = some (.int .i64 a4_9) := (blk_cell BK191.out 9).trans rfl
   have hfs35 := blk_frozen BK191.out 9
   have hns35_0 := NB186_191.out
   have hns35_1 := NB187_191.out
   have hns35_2 := NB188_191.out
   have hns35_3 := NB189_191.out
   have hms35_0 := NB191_186.out
   have hms35_1 := NB191_187.out
   have hms35_2 := NB191_188.out
   have hms35_3 := NB191_189.out
   refine skip_ (w1 := ?_) (by rfl) rfl ?_ ?_
   rotate_left
   ·
    go_simp
    rfl
   refine hK.out _ _ ⟨((cell_far (p := ⟨gb191, _, none⟩) NB188_191.out _).trans (hHeld.1)), ((cell_far (p := ⟨gb191, _, none⟩) NB188_191.out _).trans (hHeld.2.1)), ((cell_far (p := ⟨gb191, _, none⟩) NB188_191.out _).trans (hHeld.2.2.1)), ((cell_far (p := ⟨gb191, _, none⟩) NB188_191.out _).trans (hHeld.2.2.2.1)), ((cell_far (p := ⟨gb191, _, none⟩) NB188_191.out _).trans (hHeld.2.2.2.2.1)), ((cell_far (p := ⟨gb191, _, none⟩) NB188_191.out _).trans (hHeld.2.2.2.2.2.1)), ((cell_far (p := ⟨gb191, _, none⟩) NB188_191.out _).trans (hHeld.2.2.2.2.2.2.1)), ((cell_far (p := ⟨gb191, _, none⟩) NB188_191.out _).trans (hHeld.2.2.2.2.2.2.2.1)), ((cell_far (p := ⟨gb191, _, none⟩) NB188_191.out _).trans (hHeld.2.2.2.2.2.2.2.2.1)), ((cell_far (p := ⟨gb191, _, none⟩) NB188_191.out _).trans (hHeld.2.2.2.2.2.2.2.2.2.1)), ((cell_far (p := ⟨gb191, _, none⟩) NB188_191.out _).trans (hHeld.2.2.2.2.2.2.2.2.2.2.1)), ((cell_far (p := ⟨gb191, _, none⟩) NB187_191.out _).trans (hHeld.2.2.2.2.2.2.2.2.2.2.2.1)), ((cell_far (p := ⟨gb191, _, none⟩) NB187_191.out _).trans (hHeld.2.2.2.2.2.2.2.2.2.2.2.2))⟩ (fun hHeld => ?_)
   clear hK K
   refine pure_ (i := 13) (N := some 35) (v := ?_) (a' := ?_) node_Work.m14 rfl rfl (any_of HT_.out (by kernel_rfl)) (fun _ _ _ h => h) (Or.inl ⟨by rfl, ?_⟩) ?_ ?_
   rotate_left
   ·
    intro w'
    go_simp
    with_reducible rfl
   rotate_left
   ·
    simp only [Act.put, List.setIfInBounds_toArray, List.set_cons_zero, List.set_cons_succ, i64_w, i32_w]
    rfl
   refine one_ (i := 14) (N := none) node_Work.m15 rfl rfl (one_of HT_.out (by kernel_rfl)) (by decide) (fun K hK => ?_)
   have hs36 : w31.cell? ⟨gb191, 10, none⟩ = some (.slice A4_10 l4_10.length c4_10) := (blk_cell BK191.out 10).trans rfl
   have hfs36 := blk_frozen BK191.out 10
   have hns36_0 := NB186_191.out
   have hns36_1 := NB187_191.out
   have hns36_2 := NB188_191.out
   have hns36_3 := NB189_191.out
   have hms36_0 := NB191_186.out
   have hms36_1 := NB191_187.out
   have hms36_2 := NB191_188.out
   have hms36_3 := NB191_189.out
   refine skip_ (w1 := ?_) (by rfl) rfl ?_ ?_
   rotate_left
   ·
    go_simp
    rfl
   refine hK.out _ _ ⟨((cell_far (p := ⟨gb191, _, none⟩) NB188_191.out _).trans (hHeld.1)), ((cell_far (p := ⟨gb191, _, none⟩) NB188_191.out _).trans (hHeld.2.1)), ((cell_far (p := ⟨gb191, _, none⟩) NB188_191.out _).trans (hHeld.2.2.1)), ((cell_far (p := ⟨gb191, _, none⟩) NB188_191.out _).trans (hHeld.2.2.2.1)), ((cell_far (p := ⟨gb191, _, none⟩) NB188_191.out _).trans (hHeld.2.2.2.2.1)), ((cell_far (p := ⟨gb191, _, none⟩) NB188_191.out _).trans (hHeld.2.2.2.2.2.1)), ((cell_far (p := ⟨gb191, _, none⟩) NB188_191.out _).trans (hHeld.2.2.2.2.2.2.1)), ((cell_far (p := ⟨gb191, _, none⟩) NB188_191.out _).trans (hHeld.2.2.2.2.2.2.2.1)), ((cell_far (p := ⟨gb191, _, none⟩) NB188_191.out _).trans (hHeld.2.2.2.2.2.2.2.2.1)), ((cell_far (p := ⟨gb191, _, none⟩) NB188_191.out _).trans (hHeld.2.2.2.2.2.2.2.2.2.1)), ((cell_far (p := ⟨gb191, _, none⟩) NB188_191.out _).trans (hHeld.2.2.2.2.2.2.2.2.2.2.1)), ((cell_far (p := ⟨gb191, _, none⟩) NB187_191.out _).trans (hHeld.2.2.2.2.2.2.2.2.2.2.2.1)), ((cell_far (p := ⟨gb191, _, none⟩) NB187_191.out _).trans (hHeld.2.2.2.2.2.2.2.2.2.2.2.2))⟩ (fun hHeld => ?_)
   clear hK K
   refine done_ (done_of HT_.out (by kernel_rfl)) ?_
   go_upto_region 5 with (fail)
   go_cut [48] (fun v48 wc => ∃ (kq : Nat) (x48_7 : Bool), v48 = .bool x48_7 ∧ Aside0 (node_Work.j0 kq l3 x48_7 a0_0 l0_1 a4_0 a4_1 a4_2 a4_3 a4_4 a4_5 a4_6 a4_7 a4_8 a4_9 l4_10 3 a2 a4_1 a4_3 a4_4 a4_5 a4_6 a4_7 a4_8 a1_0 = some (r1, r2, r3, r4, r5, r6, r7, r8, r9, r10, r11, r12, r13)) ∧ Aside0 (kq ≤ k) ∧ Aside0 (Kd.V k39 39 wc w.heap.size (fun k_ => (P3_ k_ ∨ w.heap.size ≤ k_) ∧ k_ ≠ gb186 ∧ k_ ≠ gb187 ∧ k_ ≠ gb188 ∧ k_ ≠ gb189 ∧ k_ ≠ gb191) (.slice A3 l3.length c3) l3) ∧ Aside0 (wc.heap[gb186]? = some (.cells #[.int .i64 a0_0, (.slice A0_1 l0_1.length c0_1)] 24 (0, 0))) ∧ Aside0 (wc.heap[gb187]? = some (.cells #[.int .i64 a1_0, (.slice A1_1 l1_1.length c1_1)] 27 (0, 0))) ∧ Aside0 (wc.heap[gb188]? = some (.cells #[.int .i64 a4_0, .int .i64 a4_1, .int .i64 a4_2, .int .i64 a4_3, .int .i64 a4_4, .int .i64 a4_5, .int .i64 a4_6, .int .i64 a4_7, .int .i64 a4_8, .int .i64 a4_9, (.slice A4_10 l4_10.length c4_10)] 31 (0, 0))) ∧ Aside0 (wc.heap[gb189]? = some (.cells #[.int .i64 0, .int .i64 0, .int .i64 0, .int .i64 0, .int .i64 0, .int .i64 0, .int .i64 0, .int .i64 0, .int .i64 0, .int .i64 0, (.slice none 0 0)] 31 (0, 0))) ∧ Aside0 (wc.heap[gb191]? = some (.cells #[.int .i64 3, .int .i64 a2, .int .i64 a4_1, .int .i64 a4_3, .int .i64 a4_4, .int .i64 a4_5, .int .i64 a4_6, .int .i64 a4_7, .int .i64 a4_8, .int .i64 a1_0, (.slice none 0 0)] 31 (0, 0))) ∧ Aside0 (Below w.heap.size w wc))
   case first =>
    have H := HC8.out
    clear HC8
    by_cases c37 : a4_9 = a1_0
    ·
     rw [if_pos c37] at H
     have c37b0 : (a4_9 == a1_0) = true := beq_iff_eq.mpr c37
     have c37b1 : (a4_9 != a1_0) = false := bne_eq_false_iff_eq.mpr c37
     clear c37
     (first | rw [c37b0] | (simp only [i64_w, i32_w]; rw [c37b0]) | skip)
     replace H := Option.bind_eq_some_iff.mp H
     obtain ⟨t192, A380, H⟩ := H
     replace H : (node_Work.j0 k l3 (!t192) a0_0 l0_1 a4_0 a4_1 a4_2 a4_3 a4_4 a4_5 a4_6 a4_7 a4_8 a4_9 l4_10 3 a2 a4_1 a4_3 a4_4 a4_5 a4_6 a4_7 a4_8 a1_0) = some (r1, r2, r3, r4, r5, r6, r7, r8, r9, r10, r11, r12, r13) := H
     have A38 := Am A380
     clear A380
     have H' := Am H
     clear H
     have hnb39 := NB188_186.out
     have hnc39 := NB186_188.out
     have hnb40 := NB188_187.out
     have hnc40 := NB187_188.out
     have hnb41 := NB188_189.out
     have hnc41 := NB189_188.out
     have hnb42 := NB188_191.out
     have hnc42 := NB191_188.out
     have hcz43_0 : w31.cell? ⟨gb188, 0, none⟩ = some (.int .i64 a4_0) := (blk_cell BK188.out 0).trans rfl
     have hcz43_1 : w31.cell? ⟨gb188, 1, none⟩ = some (.int .i64 a4_1) := (blk_cell BK188.out 1).trans rfl
     have hcz43_2 : w31.cell? ⟨gb188, 2, none⟩ = some (.int .i64 a4_2) := (blk_cell BK188.out 2).trans rfl
     have hcz43_3 : w31.cell? ⟨gb188, 3, none⟩ = some (.int .i64 a4_3) := (blk_cell BK188.out 3).trans rfl
     have hcz43_4 : w31.cell? ⟨gb188, 4, none⟩ = some (.int .i64 a4_4) := (blk_cell BK188.out 4).trans rfl
     have hcz43_5 : w31.cell? ⟨gb188, 5, none⟩ = some (.int .i64 a4_5) := (blk_cell BK188.out 5).trans rfl
     have hcz43_6 : w31.cell? ⟨gb188, 6, none⟩ = some (.int .i64 a4_6) := (blk_cell BK188.out 6).trans rfl
     have hcz43_7 : w31.cell? ⟨gb188, 7, none⟩ = some (.int .i64 a4_7) := (blk_cell BK188.out 7).trans rfl
     have hcz43_8 : w31.cell? ⟨gb188, 8, none⟩ = some (.int .i64 a4_8) := (blk_cell BK188.out 8).trans rfl
     have hcz43_9 : w31.cell? ⟨gb188, 9, none⟩ = some (.int .i64 a4_9) := (blk_cell BK188.out 9).trans rfl
     have hcz43_10 : w31.cell? ⟨gb188, 10, none⟩ = some (.slice A4_10 l4_10.length c4_10) := (blk_cell BK188.out 10).trans rfl
     have hfz43_0 := blk_frozen BK188.out 0
     have hfz43_1 := blk_frozen BK188.out 1
     have hfz43_2 := blk_frozen BK188.out 2
     have hfz43_3 := blk_frozen BK188.out 3
     have hfz43_4 := blk_frozen BK188.out 4
     have hfz43_5 := blk_frozen BK188.out 5
     have hfz43_6 := blk_frozen BK188.out 6
     have hfz43_7 := blk_frozen BK188.out 7
     have hfz43_8 := blk_frozen BK188.out 8
     have hfz43_9 := blk_frozen BK188.out 9
     have hfz43_10 := blk_frozen BK188.out 10
     have hnb44 := NB187_186.out
     have hnc44 := NB186_187.out
     have hnb45 := NB187_189.out
     have hnc45 := NB189_187.out
     have hnb46 := NB187_191.out
     have hnc46 := NB191_187.out
     have hcz47_0 : w31.cell? ⟨gb187, 0, none⟩ = some (.int .i64 a1_0) := (blk_cell BK187.out 0).trans rfl
     have hcz47_1 : w31.cell? ⟨gb187, 1, none⟩ = some (.slice A1_1 l1_1.length c1_1) := (blk_cell BK187.out 1).trans rfl
     have hfz47_0 := blk_frozen BK187.out 0
     have hfz47_1 := blk_frozen BK187.out 1
     go_wp2_with (first | (go_at_call 17; (with_reducible refine (place_Holds.calls k a1_0 _ _ l1_1 a4_8 a2 t192 _ ?side1 ?side2 A38.out).mono ?_); (case side1 => exact Kd.C_below HR1_1.out (by repeat (first | (with_reducible first | exact HB.out | apply below_alloc | apply pw_below_drewN | apply below_drew1 | refine below_set ?_ GE186.out | refine below_set ?_ GE187.out | refine below_set ?_ GE188.out | refine below_set ?_ GE189.out | refine below_set ?_ GE191.out) | exact HB.out))); (case side2 => exact HC1_1.out); rintro e w48 ⟨rfl, hb⟩; have n0_ := Am (Kd.V_below (by (with_reducible repeat (first | apply Kd.V_alloc | apply Kd.V_drewN | apply Kd.V_drew)); exact (Kd.V_mono (Kd.V_far (p := ⟨gb191, 10, none⟩) (Kd.V_far (p := ⟨gb191, 9, none⟩) (Kd.V_far (p := ⟨gb191, 2, none⟩) (Kd.V_far (p := ⟨gb191, 1, none⟩) (Kd.V_far (p := ⟨gb191, 0, none⟩) (Kd.V_mono HO3.out (fun k_ hk => (⟨hk, hk.2.2.2.2.2⟩ : _ ∧ k_ ≠ gb191))) (fun _ hk => hk.2) (.int .i64 3)) (fun _ hk => hk.2) (.int .i64 a2)) (fun _ hk => hk.2) (.int .i64 a4_1)) (fun _ hk => hk.2) (.int .i64 a1_0)) (fun _ hk => hk.2) (.slice none 0 0)) (fun _ h_ => h_.1))) hb); have n1_ := Am (blk_below (g := gb186) (o := .cells #[.int .i64 a0_0, .slice A0_1 l0_1.length c0_1] 24 (0, 0)) (by (with_reducible repeat (first | refine blk_drewN ?_ _ | refine blk_drew ?_ | refine blk_alloc ?_ _)); refine blk_far ?_ NB186_191.out _; (with_reducible repeat (first | refine blk_drewN ?_ _ | refine blk_drew ?_ | refine blk_alloc ?_ _)); refine blk_far ?_ NB186_191.out _; (with_reducible repeat (first | refine blk_drewN ?_ _ | refine blk_drew ?_ | refine blk_alloc ?_ _)); refine blk_far ?_ NB186_191.out _; (with_reducible repeat (first | refine blk_drewN ?_ _ | refine blk_drew ?_ | refine blk_alloc ?_ _)); refine blk_far ?_ NB186_191.out _; (with_reducible repeat (first | refine blk_drewN ?_ _ | refine blk_drew ?_ | refine blk_alloc ?_ _)); refine blk_far ?_ NB186_191.out _; (with_reducible repeat (first | refine blk_drewN ?_ _ | refine blk_drew ?_ | refine blk_alloc ?_ _)); exact BK186.out) hb); have n2_ := Am (blk_below (g := gb187) (o := .cells #[.int .i64 a1_0, .slice A1_1 l1_1.length c1_1] 27 (0, 0)) (by (with_reducible repeat (first | refine blk_drewN ?_ _ | refine blk_drew ?_ | refine blk_alloc ?_ _)); refine blk_far ?_ NB187_191.out _; (with_reducible repeat (first | refine blk_drewN ?_ _ | refine blk_drew ?_ | refine blk_alloc ?_ _)); refine blk_far ?_ NB187_191.out _; (with_reducible repeat (first | refine blk_drewN ?_ _ | refine blk_drew ?_ | refine blk_alloc ?_ _)); refine blk_far ?_ NB187_191.out _; (with_reducible repeat (first | refine blk_drewN ?_ _ | refine blk_drew ?_ | refine blk_alloc ?_ _)); refine blk_far ?_ NB187_191.out _; (with_reducible repeat (first | refine blk_drewN ?_ _ | refine blk_drew ?_ | refine blk_alloc ?_ _)); refine blk_far ?_ NB187_191.out _; (with_reducible repeat (first | refine blk_drewN ?_ _ | refine blk_drew ?_ | refine blk_alloc ?_ _)); exact BK187.out) hb); have n3_ := Am (blk_below (g := gb188) (o := .cells #[.int .i64 a4_0, .int .i64 a4_1, .int .i64 a4_2, .int .i64 a4_3, .int .i64 a4_4, .int .i64 a4_5, .int .i64 a4_6, .int .i64 a4_7, .int .i64 a4_8, .int .i64 a4_9, .slice A4_10 l4_10.length c4_10] 31 (0, 0)) (by (with_reducible repeat (first | refine blk_drewN ?_ _ | refine blk_drew ?_ | refine blk_alloc ?_ _)); refine blk_far ?_ NB188_191.out _; (with_reducible repeat (first | refine blk_drewN ?_ _ | refine blk_drew ?_ | refine blk_alloc ?_ _)); refine blk_far ?_ NB188_191.out _; (with_reducible repeat (first | refine blk_drewN ?_ _ | refine blk_drew ?_ | refine blk_alloc ?_ _)); refine blk_far ?_ NB188_191.out _; (with_reducible repeat (first | refine blk_drewN ?_ _ | refine blk_drew ?_ | refine blk_alloc ?_ _)); refine blk_far ?_ NB188_191.out _; (with_reducible repeat (first | refine blk_drewN ?_ _ | refine blk_drew ?_ | refine blk_alloc ?_ _)); refine blk_far ?_ NB188_191.out _; (with_reducible repeat (first | refine blk_drewN ?_ _ | refine blk_drew ?_ | refine blk_alloc ?_ _)); exact BK188.out) hb); have n4_ := Am (blk_below (g := gb189) (o := .cells #[.int .i64 0, .int .i64 0, .int .i64 0, .int .i64 0, .int .i64 0, .int .i64 0, .int .i64 0, .int .i64 0, .int .i64 0, .int .i64 0, .slice none 0 0] 31 (0, 0)) (by (with_reducible repeat (first | refine blk_drewN ?_ _ | refine blk_drew ?_ | refine blk_alloc ?_ _)); refine blk_far ?_ NB189_191.out _; (with_reducible repeat (first | refine blk_drewN ?_ _ | refine blk_drew ?_ | refine blk_alloc ?_ _)); refine blk_far ?_ NB189_191.out _; (with_reducible repeat (first | refine blk_drewN ?_ _ | refine blk_drew ?_ | refine blk_alloc ?_ _)); refine blk_far ?_ NB189_191.out _; (with_reducible repeat (first | refine blk_drewN ?_ _ | refine blk_drew ?_ | refine blk_alloc ?_ _)); refine blk_far ?_ NB189_191.out _; (with_reducible repeat (first | refine blk_drewN ?_ _ | refine blk_drew ?_ | refine blk_alloc ?_ _)); refine blk_far ?_ NB189_191.out _; (with_reducible repeat (first | refine blk_drewN ?_ _ | refine blk_drew ?_ | refine blk_alloc ?_ _)); exact BK189.out) hb); have n5_ := Am (blk_below (g := gb191) (o := .cells #[.int .i64 3, .int .i64 a2, .int .i64 a4_1, .int .i64 a4_3, .int .i64 a4_4, .int .i64 a4_5, .int .i64 a4_6, .int .i64 a4_7, .int .i64 a4_8, .int .i64 a1_0, .slice none 0 0] 31 (0, 0)) (by (with_reducible repeat (first | refine blk_drewN ?_ _ | refine blk_drew ?_ | refine blk_alloc ?_ _)); refine blk_put (cs := #[.int .i64 3, .int .i64 a2, .int .i64 a4_1, .int .i64 a4_3, .int .i64 a4_4, .int .i64 a4_5, .int .i64 a4_6, .int .i64 a4_7, .int .i64 a4_8, .int .i64 a1_0, .slice A4_10 l4_10.length c4_10]) ?_ 10 _ rfl; (with_reducible repeat (first | refine blk_drewN ?_ _ | refine blk_drew ?_ | refine blk_alloc ?_ _)); refine blk_put (cs := #[.int .i64 3, .int .i64 a2, .int .i64 a4_1, .int .i64 a4_3, .int .i64 a4_4, .int .i64 a4_5, .int .i64 a4_6, .int .i64 a4_7, .int .i64 a4_8, .int .i64 a4_9, .slice A4_10 l4_10.length c4_10]) ?_ 9 _ rfl; (with_reducible repeat (first | refine blk_drewN ?_ _ | refine blk_drew ?_ | refine blk_alloc ?_ _)); refine blk_put (cs := #[.int .i64 3, .int .i64 a2, .int .i64 a4_2, .int .i64 a4_3, .int .i64 a4_4, .int .i64 a4_5, .int .i64 a4_6, .int .i64 a4_7, .int .i64 a4_8, .int .i64 a4_9, .slice A4_10 l4_10.length c4_10]) ?_ 2 _ rfl; (with_reducible repeat (first | refine blk_drewN ?_ _ | refine blk_drew ?_ | refine blk_alloc ?_ _)); refine blk_put (cs := #[.int .i64 3, .int .i64 a4_1, .int .i64 a4_2, .int .i64 a4_3, .int .i64 a4_4, .int .i64 a4_5, .int .i64 a4_6, .int .i64 a4_7, .int .i64 a4_8, .int .i64 a4_9, .slice A4_10 l4_10.length c4_10]) ?_ 1 _ rfl; (with_reducible repeat (first | refine blk_drewN ?_ _ | refine blk_drew ?_ | refine blk_alloc ?_ _)); refine blk_put (cs := #[.int .i64 a4_0, .int .i64 a4_1, .int .i64 a4_2, .int .i64 a4_3, .int .i64 a4_4, .int .i64 a4_5, .int .i64 a4_6, .int .i64 a4_7, .int .i64 a4_8, .int .i64 a4_9, .slice A4_10 l4_10.length c4_10]) ?_ 0 _ rfl; (with_reducible repeat (first | refine blk_drewN ?_ _ | refine blk_drew ?_ | refine blk_alloc ?_ _)); exact BK191.out) hb); have n6_ := Am (below_step (by repeat (first | (with_reducible first | exact HB.out | apply below_alloc | apply pw_below_drewN | apply below_drew1 | refine below_set ?_ GE186.out | refine below_set ?_ GE187.out | refine below_set ?_ GE188.out | refine below_set ?_ GE189.out | refine below_set ?_ GE191.out) | exact HB.out)) hb); clear HO3; clear BK186; clear BK187; clear BK188; clear BK189; clear BK191; clear HB; have HO3 := n0_; have BK186 := n1_; have BK187 := n2_; have BK188 := n3_; have BK189 := n4_; have BK191 := n5_; have HB := n6_; clear n0_ n1_ n2_ n3_ n4_ n5_ n6_; (try clear hb); (try clear hb2); (try clear hk); (try clear hi)))
     go_meet
     case rel => exact ⟨_, (!t192), (by first | rfl | (simp; done) | (simp [*]; done)), H', ⟨by first | omega | exact Nat.le_refl _⟩, ⟨by (with_reducible repeat (first | apply Kd.V_alloc | apply Kd.V_drewN | apply Kd.V_drew)); exact HO3.out⟩, ⟨by (with_reducible repeat (first | refine blk_drewN ?_ _ | refine blk_drew ?_ | refine blk_alloc ?_ _)); exact BK186.out⟩, ⟨by (with_reducible repeat (first | refine blk_drewN ?_ _ | refine blk_drew ?_ | refine blk_alloc ?_ _)); exact BK187.out⟩, ⟨by (with_reducible repeat (first | refine blk_drewN ?_ _ | refine blk_drew ?_ | refine blk_alloc ?_ _)); exact BK188.out⟩, ⟨by (with_reducible repeat (first | refine blk_drewN ?_ _ | refine blk_drew ?_ | refine blk_alloc ?_ _)); exact BK189.out⟩, ⟨by (with_reducible repeat (first | refine blk_drewN ?_ _ | refine blk_drew ?_ | refine blk_alloc ?_ _)); exact BK191.out⟩, ⟨by repeat (first | (with_reducible first | exact HB.out | apply below_alloc | apply pw_below_drewN | apply below_drew1 | refine below_set ?_ GE186.out | refine below_set ?_ GE187.out | refine below_set ?_ GE188.out | refine below_set ?_ GE189.out | refine below_set ?_ GE191.out) | exact HB.out)⟩⟩
    ·
     rw [if_neg c37] at H
     have c37b0 : (a4_9 == a1_0) = false := beq_eq_false_iff_ne.mpr c37
     have c37b1 : (a4_9 != a1_0) = true := bne_iff_ne.mpr c37
     (first | rw [c37b0] | (simp only [i64_w, i32_w]; rw [c37b0]) | skip)
     have H' := Am H
     clear H
     have hnb49 := NB188_186.out
     have hnc49 := NB186_188.out
     have hnb50 := NB188_187.out
     have hnc50 := NB187_188.out
     have hnb51 := NB188_189.out
     have hnc51 := NB189_188.out
     have hnb52 := NB188_191.out
     have hnc52 := NB191_188.out
     have hcz53_0 : w31.cell? ⟨gb188, 0, none⟩ = some (.int .i64 a4_0) := (blk_cell BK188.out 0).trans rfl
     have hcz53_1 : w31.cell? ⟨gb188, 1, none⟩ = some (.int .i64 a4_1) := (blk_cell BK188.out 1).trans rfl
     have hcz53_2 : w31.cell? ⟨gb188, 2, none⟩ = some (.int .i64 a4_2) := (blk_cell BK188.out 2).trans rfl
     have hcz53_3 : w31.cell? ⟨gb188, 3, none⟩ = some (.int .i64 a4_3) := (blk_cell BK188.out 3).trans rfl
     have hcz53_4 : w31.cell? ⟨gb188, 4, none⟩ = some (.int .i64 a4_4) := (blk_cell BK188.out 4).trans rfl
     have hcz53_5 : w31.cell? ⟨gb188, 5, none⟩ = some (.int .i64 a4_5) := (blk_cell BK188.out 5).trans rfl
     have hcz53_6 : w31.cell? ⟨gb188, 6, none⟩ = some (.int .i64 a4_6) := (blk_cell BK188.out 6).trans rfl
     have hcz53_7 : w31.cell? ⟨gb188, 7, none⟩ = some (.int .i64 a4_7) := (blk_cell BK188.out 7).trans rfl
     have hcz53_8 : w31.cell? ⟨gb188, 8, none⟩ = some (.int .i64 a4_8) := (blk_cell BK188.out 8).trans rfl
     have hcz53_9 : w31.cell? ⟨gb188, 9, none⟩ = some (.int .i64 a4_9) := (blk_cell BK188.out 9).trans rfl
     have hcz53_10 : w31.cell? ⟨gb188, 10, none⟩ = some (.slice A4_10 l4_10.length c4_10) := (blk_cell BK188.out 10).trans rfl
     have hfz53_0 := blk_frozen BK188.out 0
     have hfz53_1 := blk_frozen BK188.out 1
     have hfz53_2 := blk_frozen BK188.out 2
     have hfz53_3 := blk_frozen BK188.out 3
     have hfz53_4 := blk_frozen BK188.out 4
     have hfz53_5 := blk_frozen BK188.out 5
     have hfz53_6 := blk_frozen BK188.out 6
     have hfz53_7 := blk_frozen BK188.out 7
     have hfz53_8 := blk_frozen BK188.out 8
     have hfz53_9 := blk_frozen BK188.out 9
     have hfz53_10 := blk_frozen BK188.out 10
     have hnb54 := NB187_186.out
     have hnc54 := NB186_187.out
     have hnb55 := NB187_189.out
     have hnc55 := NB189_187.out
     have hnb56 := NB187_191.out
     have hnc56 := NB191_187.out
     have hcz57_0 : w31.cell? ⟨gb187, 0, none⟩ = some (.int .i64 a1_0) := (blk_cell BK187.out 0).trans rfl
     have hcz57_1 : w31.cell? ⟨gb187, 1, none⟩ = some (.slice A1_1 l1_1.length c1_1) := (blk_cell BK187.out 1).trans rfl
     have hfz57_0 := blk_frozen BK187.out 0
     have hfz57_1 := blk_frozen BK187.out 1
     go_wp2
     go_meet
     case rel => exact ⟨_, (true), (by first | rfl | (simp; done) | (simp [*]; done)), H', ⟨by first | omega | exact Nat.le_refl _⟩, ⟨by (with_reducible repeat (first | apply Kd.V_alloc | apply Kd.V_drewN | apply Kd.V_drew)); exact Kd.V_mono (Kd.V_far (p := ⟨gb191, 10, none⟩) (Kd.V_far (p := ⟨gb191, 9, none⟩) (Kd.V_far (p := ⟨gb191, 2, none⟩) (Kd.V_far (p := ⟨gb191, 1, none⟩) (Kd.V_far (p := ⟨gb191, 0, none⟩) (Kd.V_mono HO3.out (fun k_ hk => (⟨hk, hk.2.2.2.2.2⟩ : _ ∧ k_ ≠ gb191))) (fun _ hk => hk.2) (.int .i64 3)) (fun _ hk => hk.2) (.int .i64 a2)) (fun _ hk => hk.2) (.int .i64 a4_1)) (fun _ hk => hk.2) (.int .i64 a1_0)) (fun _ hk => hk.2) (.slice none 0 0)) (fun _ hk => ⟨hk.1.1, ⟨hk.1.2.1, ⟨hk.1.2.2.1, ⟨hk.1.2.2.2.1, ⟨hk.1.2.2.2.2.1, hk.1.2.2.2.2.2⟩⟩⟩⟩⟩)⟩, ⟨by (with_reducible repeat (first | refine blk_drewN ?_ _ | refine blk_drew ?_ | refine blk_alloc ?_ _)); refine blk_far ?_ NB186_191.out _; (with_reducible repeat (first | refine blk_drewN ?_ _ | refine blk_drew ?_ | refine blk_alloc ?_ _)); refine blk_far ?_ NB186_191.out _; (with_reducible repeat (first | refine blk_drewN ?_ _ | refine blk_drew ?_ | refine blk_alloc ?_ _)); refine blk_far ?_ NB186_191.out _; (with_reducible repeat (first | refine blk_drewN ?_ _ | refine blk_drew ?_ | refine blk_alloc ?_ _)); refine blk_far ?_ NB186_191.out _; (with_reducible repeat (first | refine blk_drewN ?_ _ | refine blk_drew ?_ | refine blk_alloc ?_ _)); refine blk_far ?_ NB186_191.out _; (with_reducible repeat (first | refine blk_drewN ?_ _ | refine blk_drew ?_ | refine blk_alloc ?_ _)); exact BK186.out⟩, ⟨by (with_reducible repeat (first | refine blk_drewN ?_ _ | refine blk_drew ?_ | refine blk_alloc ?_ _)); refine blk_far ?_ NB187_191.out _; (with_reducible repeat (first | refine blk_drewN ?_ _ | refine blk_drew ?_ | refine blk_alloc ?_ _)); refine blk_far ?_ NB187_191.out _; (with_reducible repeat (first | refine blk_drewN ?_ _ | refine blk_drew ?_ | refine blk_alloc ?_ _)); refine blk_far ?_ NB187_191.out _; (with_reducible repeat (first | refine blk_drewN ?_ _ | refine blk_drew ?_ | refine blk_alloc ?_ _)); refine blk_far ?_ NB187_191.out _; (with_reducible repeat (first | refine blk_drewN ?_ _ | refine blk_drew ?_ | refine blk_alloc ?_ _)); refine blk_far ?_ NB187_191.out _; (with_reducible repeat (first | refine blk_drewN ?_ _ | refine blk_drew ?_ | refine blk_alloc ?_ _)); exact BK187.out⟩, ⟨by (with_reducible repeat (first | refine blk_drewN ?_ _ | refine blk_drew ?_ | refine blk_alloc ?_ _)); refine blk_far ?_ NB188_191.out _; (with_reducible repeat (first | refine blk_drewN ?_ _ | refine blk_drew ?_ | refine blk_alloc ?_ _)); refine blk_far ?_ NB188_191.out _; (with_reducible repeat (first | refine blk_drewN ?_ _ | refine blk_drew ?_ | refine blk_alloc ?_ _)); refine blk_far ?_ NB188_191.out _; (with_reducible repeat (first | refine blk_drewN ?_ _ | refine blk_drew ?_ | refine blk_alloc ?_ _)); refine blk_far ?_ NB188_191.out _; (with_reducible repeat (first | refine blk_drewN ?_ _ | refine blk_drew ?_ | refine blk_alloc ?_ _)); refine blk_far ?_ NB188_191.out _; (with_reducible repeat (first | refine blk_drewN ?_ _ | refine blk_drew ?_ | refine blk_alloc ?_ _)); exact BK188.out⟩, ⟨by (with_reducible repeat (first | refine blk_drewN ?_ _ | refine blk_drew ?_ | refine blk_alloc ?_ _)); refine blk_far ?_ NB189_191.out _; (with_reducible repeat (first | refine blk_drewN ?_ _ | refine blk_drew ?_ | refine blk_alloc ?_ _)); refine blk_far ?_ NB189_191.out _; (with_reducible repeat (first | refine blk_drewN ?_ _ | refine blk_drew ?_ | refine blk_alloc ?_ _)); refine blk_far ?_ NB189_191.out _; (with_reducible repeat (first | refine blk_drewN ?_ _ | refine blk_drew ?_ | refine blk_alloc ?_ _)); refine blk_far ?_ NB189_191.out _; (with_reducible repeat (first | refine blk_drewN ?_ _ | refine blk_drew ?_ | refine blk_alloc ?_ _)); refine blk_far ?_ NB189_191.out _; (with_reducible repeat (first | refine blk_drewN ?_ _ | refine blk_drew ?_ | refine blk_alloc ?_ _)); exact BK189.out⟩, ⟨by (with_reducible repeat (first | refine blk_drewN ?_ _ | refine blk_drew ?_ | refine blk_alloc ?_ _)); refine blk_put (cs := #[.int .i64 3, .int .i64 a2, .int .i64 a4_1, .int .i64 a4_3, .int .i64 a4_4, .int .i64 a4_5, .int .i64 a4_6, .int .i64 a4_7, .int .i64 a4_8, .int .i64 a1_0, .slice A4_10 l4_10.length c4_10]) ?_ 10 _ rfl; (with_reducible repeat (first | refine blk_drewN ?_ _ | refine blk_drew ?_ | refine blk_alloc ?_ _)); refine blk_put (cs := #[.int .i64 3, .int .i64 a2, .int .i64 a4_1, .int .i64 a4_3, .int .i64 a4_4, .int .i64 a4_5, .int .i64 a4_6, .int .i64 a4_7, .int .i64 a4_8, .int .i64 a4_9, .slice A4_10 l4_10.length c4_10]) ?_ 9 _ rfl; (with_reducible repeat (first | refine blk_drewN ?_ _ | refine blk_drew ?_ | refine blk_alloc ?_ _)); refine blk_put (cs := #[.int .i64 3, .int .i64 a2, .int .i64 a4_2, .int .i64 a4_3, .int .i64 a4_4, .int .i64 a4_5, .int .i64 a4_6, .int .i64 a4_7, .int .i64 a4_8, .int .i64 a4_9, .slice A4_10 l4_10.length c4_10]) ?_ 2 _ rfl; (with_reducible repeat (first | refine blk_drewN ?_ _ | refine blk_drew ?_ | refine blk_alloc ?_ _)); refine blk_put (cs := #[.int .i64 3, .int .i64 a4_1, .int .i64 a4_2, .int .i64 a4_3, .int .i64 a4_4, .int .i64 a4_5, .int .i64 a4_6, .int .i64 a4_7, .int .i64 a4_8, .int .i64 a4_9, .slice A4_10 l4_10.length c4_10]) ?_ 1 _ rfl; (with_reducible repeat (first | refine blk_drewN ?_ _ | refine blk_drew ?_ | refine blk_alloc ?_ _)); refine blk_put (cs := #[.int .i64 a4_0, .int .i64 a4_1, .int .i64 a4_2, .int .i64 a4_3, .int .i64 a4_4, .int .i64 a4_5, .int .i64 a4_6, .int .i64 a4_7, .int .i64 a4_8, .int .i64 a4_9, .slice A4_10 l4_10.length c4_10]) ?_ 0 _ rfl; (with_reducible repeat (first | refine blk_drewN ?_ _ | refine blk_drew ?_ | refine blk_alloc ?_ _)); exact BK191.out⟩, ⟨by repeat (first | (with_reducible first | exact HB.out | apply below_alloc | apply pw_below_drewN | apply below_drew1 | refine below_set ?_ GE186.out | refine below_set ?_ GE187.out | refine below_set ?_ GE188.out | refine below_set ?_ GE189.out | refine below_set ?_ GE191.out) | exact HB.out)⟩⟩
   case rest =>
    clear HC8
    try clear c1
    try clear c2
    try clear p2
    try clear c3
    try clear c4
    try clear c5
    try clear c7
    try clear c10
    try clear c13
    try clear c14
    try clear c15
    try clear c16
    try clear c17
    try clear c18
    try clear c20
    try clear c25
    try clear c26
    try clear c27
    try clear c28
    try clear c37
    try clear c37b0
    try clear c37b1
    try clear c39
    try clear c40
    try clear c41
    try clear c42
    try clear c44
    try clear c45
    try clear c46
    try clear c49
    try clear c50
    try clear c51
    try clear c52
    try clear c54
    try clear c55
    try clear c56
    try clear hcz16_0
    try clear hcz16_1
    try clear hcz19_0
    try clear hcz19_1
    try clear hcz21_0
    try clear hcz21_1
    try clear hcz21_10
    try clear hcz21_2
    try clear hcz21_3
    try clear hcz21_4
    try clear hcz21_5
    try clear hcz21_6
    try clear hcz21_7
    try clear hcz21_8
    try clear hcz21_9
    try clear hcz23_0
    try clear hcz23_1
    try clear hcz23_10
    try clear hcz23_2
    try clear hcz23_3
    try clear hcz23_4
    try clear hcz23_5
    try clear hcz23_6
    try clear hcz23_7
    try clear hcz23_8
    try clear hcz23_9
    try clear hcz29_0
    try clear hcz29_1
    try clear hcz29_10
    try clear hcz29_2
    try clear hcz29_3
    try clear hcz29_4
    try clear hcz29_5
    try clear hcz29_6
    try clear hcz29_7
    try clear hcz29_8
    try clear hcz29_9
    try clear hcz43_0
    try clear hcz43_1
    try clear hcz43_10
    try clear hcz43_2
    try clear hcz43_3
    try clear hcz43_4
    try clear hcz43_5
    try clear hcz43_6
    try clear hcz43_7
    try clear hcz43_8
    try clear hcz43_9
    try clear hcz47_0
    try clear hcz47_1
    try clear hcz53_0
    try clear hcz53_1
    try clear hcz53_10
    try clear hcz53_2
    try clear hcz53_3
    try clear hcz53_4
    try clear hcz53_5
    try clear hcz53_6
    try clear hcz53_7
    try clear hcz53_8
    try clear hcz53_9
    try clear hcz57_0
    try clear hcz57_1
    try clear hfz16_0
    try clear hfz16_1
    try clear hfz19_0
    try clear hfz19_1
    try clear hfz21_0
    try clear hfz21_1
    try clear hfz21_10
    try clear hfz21_2
    try clear hfz21_3
    try clear hfz21_4
    try clear hfz21_5
    try clear hfz21_6
    try clear hfz21_7
    try clear hfz21_8
    try clear hfz21_9
    try clear hfz23_0
    try clear hfz23_1
    try clear hfz23_10
    try clear hfz23_2
    try clear hfz23_3
    try clear hfz23_4
    try clear hfz23_5
    try clear hfz23_6
    try clear hfz23_7
    try clear hfz23_8
    try clear hfz23_9
    try clear hfz29_0
    try clear hfz29_1
    try clear hfz29_10
    try clear hfz29_2
    try clear hfz29_3
    try clear hfz29_4
    try clear hfz29_5
    try clear hfz29_6
    try clear hfz29_7
    try clear hfz29_8
    try clear hfz29_9
    try clear hfz43_0
    try clear hfz43_1
    try clear hfz43_10
    try clear hfz43_2
    try clear hfz43_3
    try clear hfz43_4
    try clear hfz43_5
    try clear hfz43_6
    try clear hfz43_7
    try clear hfz43_8
    try clear hfz43_9
    try clear hfz47_0
    try clear hfz47_1
    try clear hfz53_0
    try clear hfz53_1
    try clear hfz53_10
    try clear hfz53_2
    try clear hfz53_3
    try clear hfz53_4
    try clear hfz53_5
    try clear hfz53_6
    try clear hfz53_7
    try clear hfz53_8
    try clear hfz53_9
    try clear hfz57_0
    try clear hfz57_1
    obtain ⟨kq, x48_7, rfl, HA, HJ7, HO_3, BK186, BK187, BK188, BK189, BK191, HB⟩ := hcut
    cases kq with
    | zero => exact absurd HA.out (by simp [node_Work.j0])
    | succ kj7 =>
     have H := HA.out
     clear HA
     simp only [node_Work.j0] at H
     by_cases c58 : x48_7 = true
     ·
      subst c58
      have H1 : (some (l3, 3, a2, a4_1, a4_3, a4_4, a4_5, a4_6, a4_7, a4_8, a1_0, ([] : List Int), true)) = some (r1, r2, r3, r4, r5, r6, r7, r8, r9, r10, r11, r12, r13) := by rw [if_pos rfl] at H; exact H
      clear H
      have H := H1
      clear H1
      simp only [Option.some.injEq, Prod.mk.injEq] at H
      obtain ⟨rfl, rfl, rfl, rfl, rfl, rfl, rfl, rfl, rfl, rfl, rfl, rfl, rfl⟩ := H
      try go_wp2
      have n0_ := Am (Kd.V_drew HO_3.out)
      have n1_ := Am (blk_drew BK186.out)
      have n2_ := Am (blk_drew BK187.out)
      have n3_ := Am (blk_drew BK188.out)
      have n4_ := Am (blk_drew BK189.out)
      have n5_ := Am (blk_drew BK191.out)
      have n6_ := Am (below_drew1 HB.out)
      clear HO_3
      clear BK186
      clear BK187
      clear BK188
      clear BK189
      clear BK191
      clear HB
      have HO_3 := n0_
      have BK186 := n1_
      have BK187 := n2_
      have BK188 := n3_
      have BK189 := n4_
      have BK191 := n5_
      have HB := n6_
      clear n0_ n1_ n2_ n3_ n4_ n5_ n6_
      refine start_ (n := 5) (S := fun w' => w'.cell? ⟨gb191, 0, none⟩ = some (.int .i64 3) ∧ w'.cell? ⟨gb191, 1, none⟩ = some (.int .i64 a2) ∧ w'.cell? ⟨gb191, 2, none⟩ = some (.int .i64 a4_1) ∧ w'.cell? ⟨gb191, 3, none⟩ = some (.int .i64 a4_3) ∧ w'.cell? ⟨gb191, 4, none⟩ = some (.int .i64 a4_4) ∧ w'.cell? ⟨gb191, 5, none⟩ = some (.int .i64 a4_5) ∧ w'.cell? ⟨gb191, 6, none⟩ = some (.int .i64 a4_6) ∧ w'.cell? ⟨gb191, 7, none⟩ = some (.int .i64 a4_7) ∧ w'.cell? ⟨gb191, 8, none⟩ = some (.int .i64 a4_8) ∧ w'.cell? ⟨gb191, 9, none⟩ = some (.int .i64 a1_0) ∧ w'.cell? ⟨gb191, 10, none⟩ = some (.slice none 0 0)) (ds := []) #[false, false, false, false, false] (by kernel_rfl) rfl rfl ⟨(blk_cell BK191.out 0).trans rfl, (blk_cell BK191.out 1).trans rfl, (blk_cell BK191.out 2).trans rfl, (blk_cell BK191.out 3).trans rfl, (blk_cell BK191.out 4).trans rfl, (blk_cell BK191.out 5).trans rfl, (blk_cell BK191.out 6).trans rfl, (blk_cell BK191.out 7).trans rfl, (blk_cell BK191.out 8).trans rfl, (blk_cell BK191.out 9).trans rfl, (blk_cell BK191.out 10).trans rfl⟩ (fun hHeld => ?_)
      generalize wc.drew = w59 at HO_3 BK186 BK187 BK188 BK189 BK191 HB hHeld ⊢
      refine pure_ (i := 0) (N := some 49) (v := ?_) (a' := ?_) #[true, false, false, false, false] rfl rfl (by kernel_rfl) (fun _ _ _ h => h) (Or.inl ⟨by rfl, ?_⟩) ?_ ?_
      rotate_left
      ·
       intro w'
       go_simp
       with_reducible rfl
      rotate_left
      ·
       simp only [Act.put, List.setIfInBounds_toArray, List.set_cons_zero, List.set_cons_succ, i64_w, i32_w]
       rfl
      refine pure_ (i := 2) (N := some 10) (v := ?_) (a' := ?_) #[true, false, true, false, false] rfl rfl (by kernel_rfl) (fun _ _ _ h => h) (Or.inl ⟨by rfl, ?_⟩) ?_ ?_
      rotate_left
      ·
       intro w'
       go_simp
       with_reducible rfl
      rotate_left
      ·
       simp only [Act.put, List.setIfInBounds_toArray, List.set_cons_zero, List.set_cons_succ, i64_w, i32_w]
       rfl
      refine take_ (i := 1) (N := some 50) (v := ?_) (a' := ?_) #[true, true, true, false, false] rfl rfl (by kernel_rfl) (fun _ _ _ h => h) (Or.inl ⟨by rfl, ?_⟩) hHeld ?_ ?_
      rotate_left
      ·
       rintro w' ⟨s0, s1, s2, s3, s4, s5, s6, s7, s8, s9, s10⟩
       go_simp
       with_reducible rfl
      rotate_left
      ·
       simp only [Act.put, List.setIfInBounds_toArray, List.set_cons_zero, List.set_cons_succ, i64_w, i32_w]
       rfl
      refine one_ (i := 3) (N := none) #[true, true, true, true, false] rfl rfl (by kernel_rfl) (by decide) (fun K hK => ?_)
      have hs60 : w59.cell? ⟨gb189, 0, none⟩ = some (.int .i64 0) := (blk_cell BK189.out 0).trans rfl
      have hfs60 := blk_frozen BK189.out 0
      have hns60_0 := NB186_189.out
      have hns60_1 := NB187_189.out
      have hns60_2 := NB188_189.out
      have hns60_4 := NB191_189.out
      have hms60_0 := NB189_186.out
      have hms60_1 := NB189_187.out
      have hms60_2 := NB189_188.out
      have hms60_4 := NB189_191.out
      have hs61 : w59.cell? ⟨gb189, 1, none⟩ = some (.int .i64 0) := (blk_cell BK189.out 1).trans rfl
      have hfs61 := blk_frozen BK189.out 1
      have hns61_0 := NB186_189.out
      have hns61_1 := NB187_189.out
      have hns61_2 := NB188_189.out
      have hns61_4 := NB191_189.out
      have hms61_0 := NB189_186.out
      have hms61_1 := NB189_187.out
      have hms61_2 := NB189_188.out
      have hms61_4 := NB189_191.out
      have hs62 : w59.cell? ⟨gb189, 2, none⟩ = some (.int .i64 0) := (blk_cell BK189.out 2).trans rfl
      have hfs62 := blk_frozen BK189.out 2
      have hns62_0 := NB186_189.out
      have hns62_1 := NB187_189.out
      have hns62_2 := NB188_189.out
      have hns62_4 := NB191_189.out
      have hms62_0 := NB189_186.out
      have hms62_1 := NB189_187.out
      have hms62_2 := NB189_188.out
      have hms62_4 := NB189_191.out
      have hs63 : w59.cell? ⟨gb189, 3, none⟩ = some (.int .i64 0) := (blk_cell BK189.out 3).trans rfl
      have hfs63 := blk_frozen BK189.out 3
      have hns63_0 := NB186_189.out
      have hns63_1 := NB187_189.out
      have hns63_2 := NB188_189.out
      have hns63_4 := NB191_189.out
      have hms63_0 := NB189_186.out
      have hms63_1 := NB189_187.out
      have hms63_2 := NB189_188.out
      have hms63_4 := NB189_191.out
      have hs64 : w59.cell? ⟨gb189, 4, none⟩ = some (.int .i64 0) := (blk_cell BK189.out 4).trans rfl
      have hfs64 := blk_frozen BK189.out 4
      have hns64_0 := NB186_189.out
      have hns64_1 := NB187_189.out
      have hns64_2 := NB188_189.out
      have hns64_4 := NB191_189.out
      have hms64_0 := NB189_186.out
      have hms64_1 := NB189_187.out
      have hms64_2 := NB189_188.out
      have hms64_4 := NB189_191.out
      have hs65 : w59.cell? ⟨gb189, 5, none⟩ = some (.int .i64 0) := (blk_cell BK189.out 5).trans rfl
      have hfs65 := blk_frozen BK189.out 5
      have hns65_0 := NB186_189.out
      have hns65_1 := NB187_189.out
      have hns65_2 := NB188_189.out
      have hns65_4 := NB191_189.out
      have hms65_0 := NB189_186.out
      have hms65_1 := NB189_187.out
      have hms65_2 := NB189_188.out
      have hms65_4 := NB189_191.out
      have hs66 : w59.cell? ⟨gb189, 6, none⟩ = some (.int .i64 0) := (blk_cell BK189.out 6).trans rfl
      have hfs66 := blk_frozen BK189.out 6
      have hns66_0 := NB186_189.out
      have hns66_1 := NB187_189.out
      have hns66_2 := NB188_189.out
      have hns66_4 := NB191_189.out
      have hms66_0 := NB189_186.out
      have hms66_1 := NB189_187.out
      have hms66_2 := NB189_188.out
      have hms66_4 := NB189_191.out
      have hs67 : w59.cell? ⟨gb189, 7, none⟩ = some (.int .i64 0) := (blk_cell BK189.out 7).trans rfl
      have hfs67 := blk_frozen BK189.out 7
      have hns67_0 := NB186_189.out
      have hns67_1 := NB187_189.out
      have hns67_2 := NB188_189.out
      have hns67_4 := NB191_189.out
      have hms67_0 := NB189_186.out
      have hms67_1 := NB189_187.out
      have hms67_2 := NB189_188.out
      have hms67_4 := NB189_191.out
      have hs68 : w59.cell? ⟨gb189, 8, none⟩ = some (.int .i64 0) := (blk_cell BK189.out 8).trans rfl
      have hfs68 := blk_frozen BK189.out 8
      have hns68_0 := NB186_189.out
      have hns68_1 := NB187_189.out
      have hns68_2 := NB188_189.out
      have hns68_4 := NB191_189.out
      have hms68_0 := NB189_186.out
      have hms68_1 := NB189_187.out
      have hms68_2 := NB189_188.out
      have hms68_4 := NB189_191.out
      have hs69 : w59.cell? ⟨gb189, 9, none⟩ = some (.int .i64 0) := (blk_cell BK189.out 9).trans rfl
      have hfs69 := blk_frozen BK189.out 9
      have hns69_0 := NB186_189.out
      have hns69_1 := NB187_189.out
      have hns69_2 := NB188_189.out
      have hns69_4 := NB191_189.out
      have hms69_0 := NB189_186.out
      have hms69_1 := NB189_187.out
      have hms69_2 := NB189_188.out
      have hms69_4 := NB189_191.out
      have hs70 : w59.cell? ⟨gb189, 10, none⟩ = some (.slice none 0 0) := (blk_cell BK189.out 10).trans rfl
      have hfs70 := blk_frozen BK189.out 10
      have hns70_0 := NB186_189.out
      have hns70_1 := NB187_189.out
      have hns70_2 := NB188_189.out
      have hns70_4 := NB191_189.out
      have hms70_0 := NB189_186.out
      have hms70_1 := NB189_187.out
      have hms70_2 := NB189_188.out
      have hms70_4 := NB189_191.out
      refine skip_ (w1 := ?_) (by rfl) rfl ?_ ?_
      rotate_left
      ·
       go_simp
       rfl
      refine hK.out _ _ ⟨((cell_far (p := ⟨gb189, _, none⟩) NB191_189.out _).trans (((cell_far (p := ⟨gb189, _, none⟩) NB191_189.out _).trans (((cell_far (p := ⟨gb189, _, none⟩) NB191_189.out _).trans (((cell_far (p := ⟨gb189, _, none⟩) NB191_189.out _).trans (((cell_far (p := ⟨gb189, _, none⟩) NB191_189.out _).trans (((cell_far (p := ⟨gb189, _, none⟩) NB191_189.out _).trans (((cell_far (p := ⟨gb189, _, none⟩) NB191_189.out _).trans (((cell_far (p := ⟨gb189, _, none⟩) NB191_189.out _).trans (((cell_far (p := ⟨gb189, _, none⟩) NB191_189.out _).trans (((cell_far (p := ⟨gb189, _, none⟩) NB191_189.out _).trans (((cell_far (p := ⟨gb189, _, none⟩) NB191_189.out _).trans (hHeld.1)))))))))))))))))))))), ((cell_far (p := ⟨gb189, _, none⟩) NB191_189.out _).trans (((cell_far (p := ⟨gb189, _, none⟩) NB191_189.out _).trans (((cell_far (p := ⟨gb189, _, none⟩) NB191_189.out _).trans (((cell_far (p := ⟨gb189, _, none⟩) NB191_189.out _).trans (((cell_far (p := ⟨gb189, _, none⟩) NB191_189.out _).trans (((cell_far (p := ⟨gb189, _, none⟩) NB191_189.out _).trans (((cell_far (p := ⟨gb189, _, none⟩) NB191_189.out _).trans (((cell_far (p := ⟨gb189, _, none⟩) NB191_189.out _).trans (((cell_far (p := ⟨gb189, _, none⟩) NB191_189.out _).trans (((cell_far (p := ⟨gb189, _, none⟩) NB191_189.out _).trans (((cell_far (p := ⟨gb189, _, none⟩) NB191_189.out _).trans (hHeld.2.1)))))))))))))))))))))), ((cell_far (p := ⟨gb189, _, none⟩) NB191_189.out _).trans (((cell_far (p := ⟨gb189, _, none⟩) NB191_189.out _).trans (((cell_far (p := ⟨gb189, _, none⟩) NB191_189.out _).trans (((cell_far (p := ⟨gb189, _, none⟩) NB191_189.out _).trans (((cell_far (p := ⟨gb189, _, none⟩) NB191_189.out _).trans (((cell_far (p := ⟨gb189, _, none⟩) NB191_189.out _).trans (((cell_far (p := ⟨gb189, _, none⟩) NB191_189.out _).trans (((cell_far (p := ⟨gb189, _, none⟩) NB191_189.out _).trans (((cell_far (p := ⟨gb189, _, none⟩) NB191_189.out _).trans (((cell_far (p := ⟨gb189, _, none⟩) NB191_189.out _).trans (((cell_far (p := ⟨gb189, _, none⟩) NB191_189.out _).trans (hHeld.2.2.1)))))))))))))))))))))), ((cell_far (p := ⟨gb189, _, none⟩) NB191_189.out _).trans (((cell_far (p := ⟨gb189, _, none⟩) NB191_189.out _).trans (((cell_far (p := ⟨gb189, _, none⟩) NB191_189.out _).trans (((cell_far (p := ⟨gb189, _, none⟩) NB191_189.out _).trans (((cell_far (p := ⟨gb189, _, none⟩) NB191_189.out _).trans (((cell_far (p := ⟨gb189, _, none⟩) NB191_189.out _).trans (((cell_far (p := ⟨gb189, _, none⟩) NB191_189.out _).trans (((cell_far (p := ⟨gb189, _, none⟩) NB191_189.out _).trans (((cell_far (p := ⟨gb189, _, none⟩) NB191_189.out _).trans (((cell_far (p := ⟨gb189, _, none⟩) NB191_189.out _).trans (((cell_far (p := ⟨gb189, _, none⟩) NB191_189.out _).trans (hHeld.2.2.2.1)))))))))))))))))))))), ((cell_far (p := ⟨gb189, _, none⟩) NB191_189.out _).trans (((cell_far (p := ⟨gb189, _, none⟩) NB191_189.out _).trans (((cell_far (p := ⟨gb189, _, none⟩) NB191_189.out _).trans (((cell_far (p := ⟨gb189, _, none⟩) NB191_189.out _).trans (((cell_far (p := ⟨gb189, _, none⟩) NB191_189.out _).trans (((cell_far (p := ⟨gb189, _, none⟩) NB191_189.out _).trans (((cell_far (p := ⟨gb189, _, none⟩) NB191_189.out _).trans (((cell_far (p := ⟨gb189, _, none⟩) NB191_189.out _).trans (((cell_far (p := ⟨gb189, _, none⟩) NB191_189.out _).trans (((cell_far (p := ⟨gb189, _, none⟩) NB191_189.out _).trans (((cell_far (p := ⟨gb189, _, none⟩) NB191_189.out _).trans (hHeld.2.2.2.2.1)))))))))))))))))))))), ((cell_far (p := ⟨gb189, _, none⟩) NB191_189.out _).trans (((cell_far (p := ⟨gb189, _, none⟩) NB191_189.out _).trans (((cell_far (p := ⟨gb189, _, none⟩) NB191_189.out _).trans (((cell_far (p := ⟨gb189, _, none⟩) NB191_189.out _).trans (((cell_far (p := ⟨gb189, _, none⟩) NB191_189.out _).trans (((cell_far (p := ⟨gb189, _, none⟩) NB191_189.out _).trans (((cell_far (p := ⟨gb189, _, none⟩) NB191_189.out _).trans (((cell_far (p := ⟨gb189, _, none⟩) NB191_189.out _).trans (((cell_far (p := ⟨gb189, _, none⟩) NB191_189.out _).trans (((cell_far (p := ⟨gb189, _, none⟩) NB191_189.out _).trans (((cell_far (p := ⟨gb189, _, none⟩) NB191_189.out _).trans (hHeld.2.2.2.2.2.1)))))))))))))))))))))), ((cell_far (p := ⟨gb189, _, none⟩) NB191_189.out _).trans (((cell_far (p := ⟨gb189, _, none⟩) NB191_189.out _).trans (((cell_far (p := ⟨gb189, _, none⟩) NB191_189.out _).trans (((cell_far (p := ⟨gb189, _, none⟩) NB191_189.out _).trans (((cell_far (p := ⟨gb189, _, none⟩) NB191_189.out _).trans (((cell_far (p := ⟨gb189, _, none⟩) NB191_189.out _).trans (((cell_far (p := ⟨gb189, _, none⟩) NB191_189.out _).trans (((cell_far (p := ⟨gb189, _, none⟩) NB191_189.out _).trans (((cell_far (p := ⟨gb189, _, none⟩) NB191_189.out _).trans (((cell_far (p := ⟨gb189, _, none⟩) NB191_189.out _).trans (((cell_far (p := ⟨gb189, _, none⟩) NB191_189.out _).trans (hHeld.2.2.2.2.2.2.1)))))))))))))))))))))), ((cell_far (p := ⟨gb189, _, none⟩) NB191_189.out _).trans (((cell_far (p := ⟨gb189, _, none⟩) NB191_189.out _).trans (((cell_far (p := ⟨gb189, _, none⟩) NB191_189.out _).trans (((cell_far (p := ⟨gb189, _, none⟩) NB191_189.out _).trans (((cell_far (p := ⟨gb189, _, none⟩) NB191_189.out _).trans (((cell_far (p := ⟨gb189, _, none⟩) NB191_189.out _).trans (((cell_far (p := ⟨gb189, _, none⟩) NB191_189.out _).trans (((cell_far (p := ⟨gb189, _, none⟩) NB191_189.out _).trans (((cell_far (p := ⟨gb189, _, none⟩) NB191_189.out _).trans (((cell_far (p := ⟨gb189, _, none⟩) NB191_189.out _).trans (((cell_far (p := ⟨gb189, _, none⟩) NB191_189.out _).trans (hHeld.2.2.2.2.2.2.2.1)))))))))))))))))))))), ((cell_far (p := ⟨gb189, _, none⟩) NB191_189.out _).trans (((cell_far (p := ⟨gb189, _, none⟩) NB191_189.out _).trans (((cell_far (p := ⟨gb189, _, none⟩) NB191_189.out _).trans (((cell_far (p := ⟨gb189, _, none⟩) NB191_189.out _).trans (((cell_far (p := ⟨gb189, _, none⟩) NB191_189.out _).trans (((cell_far (p := ⟨gb189, _, none⟩) NB191_189.out _).trans (((cell_far (p := ⟨gb189, _, none⟩) NB191_189.out _).trans (((cell_far (p := ⟨gb189, _, none⟩) NB191_189.out _).trans (((cell_far (p := ⟨gb189, _, none⟩) NB191_189.out _).trans (((cell_far (p := ⟨gb189, _, none⟩) NB191_189.out _).trans (((cell_far (p := ⟨gb189, _, none⟩) NB191_189.out _).trans (hHeld.2.2.2.2.2.2.2.2.1)))))))))))))))))))))), ((cell_far (p := ⟨gb189, _, none⟩) NB191_189.out _).trans (((cell_far (p := ⟨gb189, _, none⟩) NB191_189.out _).trans (((cell_far (p := ⟨gb189, _, none⟩) NB191_189.out _).trans (((cell_far (p := ⟨gb189, _, none⟩) NB191_189.out _).trans (((cell_far (p := ⟨gb189, _, none⟩) NB191_189.out _).trans (((cell_far (p := ⟨gb189, _, none⟩) NB191_189.out _).trans (((cell_far (p := ⟨gb189, _, none⟩) NB191_189.out _).trans (((cell_far (p := ⟨gb189, _, none⟩) NB191_189.out _).trans (((cell_far (p := ⟨gb189, _, none⟩) NB191_189.out _).trans (((cell_far (p := ⟨gb189, _, none⟩) NB191_189.out _).trans (((cell_far (p := ⟨gb189, _, none⟩) NB191_189.out _).trans (hHeld.2.2.2.2.2.2.2.2.2.1)))))))))))))))))))))), ((cell_far (p := ⟨gb189, _, none⟩) NB191_189.out _).trans (((cell_far (p := ⟨gb189, _, none⟩) NB191_189.out _).trans (((cell_far (p := ⟨gb189, _, none⟩) NB191_189.out _).trans (((cell_far (p := ⟨gb189, _, none⟩) NB191_189.out _).trans (((cell_far (p := ⟨gb189, _, none⟩) NB191_189.out _).trans (((cell_far (p := ⟨gb189, _, none⟩) NB191_189.out _).trans (((cell_far (p := ⟨gb189, _, none⟩) NB191_189.out _).trans (((cell_far (p := ⟨gb189, _, none⟩) NB191_189.out _).trans (((cell_far (p := ⟨gb189, _, none⟩) NB191_189.out _).trans (((cell_far (p := ⟨gb189, _, none⟩) NB191_189.out _).trans (((cell_far (p := ⟨gb189, _, none⟩) NB191_189.out _).trans (hHeld.2.2.2.2.2.2.2.2.2.2))))))))))))))))))))))⟩ (fun hHeld => ?_)
      clear hK K
      refine pure_ (i := 4) (N := some 12) (v := ?_) (a' := ?_) #[true, true, true, true, true] rfl rfl (by kernel_rfl) (fun _ _ _ h => h) (Or.inl ⟨by rfl, ?_⟩) ?_ ?_
      rotate_left
      ·
       intro w'
       go_simp
       with_reducible rfl
      rotate_left
      ·
       simp only [Act.put, List.setIfInBounds_toArray, List.set_cons_zero, List.set_cons_succ, i64_w, i32_w]
       rfl
      refine done_ (by kernel_rfl) ?_
      try go_wp2
      refine bodyPost_ret (results_list (rs := [.tmp 10, .cell 11 31, .tmp 12]) rfl (by simp) (.tmp (.cell gb189 31 #[.int .i64 3, .int .i64 a2, .int .i64 a4_1, .int .i64 a4_3, .int .i64 a4_4, .int .i64 a4_5, .int .i64 a4_6, .int .i64 a4_7, .int .i64 a4_8, .int .i64 a1_0, .slice none 0 0] (0, 0) _ rfl (by (with_reducible repeat (first | refine blk_drewN ?_ _ | refine blk_drew ?_ | refine blk_alloc ?_ _)); refine blk_put (cs := #[.int .i64 3, .int .i64 a2, .int .i64 a4_1, .int .i64 a4_3, .int .i64 a4_4, .int .i64 a4_5, .int .i64 a4_6, .int .i64 a4_7, .int .i64 a4_8, .int .i64 a1_0, .slice none 0 0]) ?_ 10 _ rfl; (with_reducible repeat (first | refine blk_drewN ?_ _ | refine blk_drew ?_ | refine blk_alloc ?_ _)); refine blk_put (cs := #[.int .i64 3, .int .i64 a2, .int .i64 a4_1, .int .i64 a4_3, .int .i64 a4_4, .int .i64 a4_5, .int .i64 a4_6, .int .i64 a4_7, .int .i64 a4_8, .int .i64 0, .slice none 0 0]) ?_ 9 _ rfl; (with_reducible repeat (first | refine blk_drewN ?_ _ | refine blk_drew ?_ | refine blk_alloc ?_ _)); refine blk_put (cs := #[.int .i64 3, .int .i64 a2, .int .i64 a4_1, .int .i64 a4_3, .int .i64 a4_4, .int .i64 a4_5, .int .i64 a4_6, .int .i64 a4_7, .int .i64 0, .int .i64 0, .slice none 0 0]) ?_ 8 _ rfl; (with_reducible repeat (first | refine blk_drewN ?_ _ | refine blk_drew ?_ | refine blk_alloc ?_ _)); refine blk_put (cs := #[.int .i64 3, .int .i64 a2, .int .i64 a4_1, .int .i64 a4_3, .int .i64 a4_4, .int .i64 a4_5, .int .i64 a4_6, .int .i64 0, .int .i64 0, .int .i64 0, .slice none 0 0]) ?_ 7 _ rfl; (with_reducible repeat (first | refine blk_drewN ?_ _ | refine blk_drew ?_ | refine blk_alloc ?_ _)); refine blk_put (cs := #[.int .i64 3, .int .i64 a2, .int .i64 a4_1, .int .i64 a4_3, .int .i64 a4_4, .int .i64 a4_5, .int .i64 0, .int .i64 0, .int .i64 0, .int .i64 0, .slice none 0 0]) ?_ 6 _ rfl; (with_reducible repeat (first | refine blk_drewN ?_ _ | refine blk_drew ?_ | refine blk_alloc ?_ _)); refine blk_put (cs := #[.int .i64 3, .int .i64 a2, .int .i64 a4_1, .int .i64 a4_3, .int .i64 a4_4, .int .i64 0, .int .i64 0, .int .i64 0, .int .i64 0, .int .i64 0, .slice none 0 0]) ?_ 5 _ rfl; (with_reducible repeat (first | refine blk_drewN ?_ _ | refine blk_drew ?_ | refine blk_alloc ?_ _)); refine blk_put (cs := #[.int .i64 3, .int .i64 a2, .int .i64 a4_1, .int .i64 a4_3, .int .i64 0, .int .i64 0, .int .i64 0, .int .i64 0, .int .i64 0, .int .i64 0, .slice none 0 0]) ?_ 4 _ rfl; (with_reducible repeat (first | refine blk_drewN ?_ _ | refine blk_drew ?_ | refine blk_alloc ?_ _)); refine blk_put (cs := #[.int .i64 3, .int .i64 a2, .int .i64 a4_1, .int .i64 0, .int .i64 0, .int .i64 0, .int .i64 0, .int .i64 0, .int .i64 0, .int .i64 0, .slice none 0 0]) ?_ 3 _ rfl; (with_reducible repeat (first | refine blk_drewN ?_ _ | refine blk_drew ?_ | refine blk_alloc ?_ _)); refine blk_put (cs := #[.int .i64 3, .int .i64 a2, .int .i64 0, .int .i64 0, .int .i64 0, .int .i64 0, .int .i64 0, .int .i64 0, .int .i64 0, .int .i64 0, .slice none 0 0]) ?_ 2 _ rfl; (with_reducible repeat (first | refine blk_drewN ?_ _ | refine blk_drew ?_ | refine blk_alloc ?_ _)); refine blk_put (cs := #[.int .i64 3, .int .i64 0, .int .i64 0, .int .i64 0, .int .i64 0, .int .i64 0, .int .i64 0, .int .i64 0, .int .i64 0, .int .i64 0, .slice none 0 0]) ?_ 1 _ rfl; (with_reducible repeat (first | refine blk_drewN ?_ _ | refine blk_drew ?_ | refine blk_alloc ?_ _)); refine blk_put (cs := #[.int .i64 0, .int .i64 0, .int .i64 0, .int .i64 0, .int .i64 0, .int .i64 0, .int .i64 0, .int .i64 0, .int .i64 0, .int .i64 0, .slice none 0 0]) ?_ 0 _ rfl; (with_reducible repeat (first | refine blk_drewN ?_ _ | refine blk_drew ?_ | refine blk_alloc ?_ _)); exact BK189.out) Try.underlying31 rfl (by kernel_rfl) (.tmp .nil)))) rfl ?_
      exact ⟨_, _, by first | rfl | (simp [errW_none, errW_some] <;> rfl) | (simp [*, errW_none, errW_some] <;> rfl), by (with_reducible repeat (first | apply Kd.V_alloc | apply Kd.V_drewN | apply Kd.V_drew)); exact Kd.V_mono (Kd.V_far (p := ⟨gb189, 10, none⟩) (Kd.V_far (p := ⟨gb189, 9, none⟩) (Kd.V_far (p := ⟨gb189, 8, none⟩) (Kd.V_far (p := ⟨gb189, 7, none⟩) (Kd.V_far (p := ⟨gb189, 6, none⟩) (Kd.V_far (p := ⟨gb189, 5, none⟩) (Kd.V_far (p := ⟨gb189, 4, none⟩) (Kd.V_far (p := ⟨gb189, 3, none⟩) (Kd.V_far (p := ⟨gb189, 2, none⟩) (Kd.V_far (p := ⟨gb189, 1, none⟩) (Kd.V_far (p := ⟨gb189, 0, none⟩) (Kd.V_mono HO_3.out (fun k_ hk => (⟨hk, hk.2.2.2.2.1⟩ : _ ∧ k_ ≠ gb189))) (fun _ hk => hk.2) (.int .i64 3)) (fun _ hk => hk.2) (.int .i64 a2)) (fun _ hk => hk.2) (.int .i64 a4_1)) (fun _ hk => hk.2) (.int .i64 a4_3)) (fun _ hk => hk.2) (.int .i64 a4_4)) (fun _ hk => hk.2) (.int .i64 a4_5)) (fun _ hk => hk.2) (.int .i64 a4_6)) (fun _ hk => hk.2) (.int .i64 a4_7)) (fun _ hk => hk.2) (.int .i64 a4_8)) (fun _ hk => hk.2) (.int .i64 a1_0)) (fun _ hk => hk.2) (.slice none 0 0)) (fun _ hk => ⟨hk.1.1, (by simp [Value.ownBlock])⟩), by first | exact Kd.R_nil _ _ _ _ _ | exact Kd.N_nil _ _ _ _ _ | exact Kd.V_nil _ _ _ _ _ | exact Kd.Q_nil _ _ _ _ _ | exact Kd.S_nil _ _ _ _ _, by repeat (first | (with_reducible first | exact HB.out | apply below_alloc | apply pw_below_drewN | apply below_drew1 | refine below_set ?_ GE186.out | refine below_set ?_ GE187.out | refine below_set ?_ GE188.out | refine below_set ?_ GE189.out | refine below_set ?_ GE191.out) | exact HB.out)⟩
     ·
      replace c58 := Bool.eq_false_iff.mpr c58
      subst c58
      have H1 : ((ledger_Find.f l3 a4_4 a4_5 a4_6 a4_7).bind fun bt194 => (if bt194.2 = true then (some (l3, 2, a2, a4_1, a4_3, a4_4, a4_5, a4_6, a4_7, a4_8, a1_0, bt194.1, true)) else (if 0 ≤ a4_5 then (if a4_5 < (l0_1.length : Int) then (if 0 ≤ a4_8 then (if a4_8 < (((rd_T61 l0_1 a4_5).f1).length : Int) then ((expert_Run.f kj7 ((rd_T63 ((rd_T61 l0_1 a4_5).f1) a4_8).f0) ((rd_T63 ((rd_T61 l0_1 a4_5).f1) a4_8).f1) l4_10).bind fun bt200 => ((ledger_Enter.f l3 a4_4 a4_5 a4_6 a4_7 bt200.1).bind fun bt204 => (some (bt204.1, 2, a2, a4_1, a4_3, a4_4, a4_5, a4_6, a4_7, a4_8, a1_0, bt200.1, true)))) else (none)) else (none)) else (none)) else (none)))) = some (r1, r2, r3, r4, r5, r6, r7, r8, r9, r10, r11, r12, r13) := by rw [if_neg (show ¬ (false = true) by decide)] at H; exact H
      clear H
      have H := H1
      clear H1
      replace H := Option.bind_eq_some_iff.mp H
      obtain ⟨⟨t194, t197⟩, A710, H⟩ := H
      replace H : (if t197 = true then (some (l3, 2, a2, a4_1, a4_3, a4_4, a4_5, a4_6, a4_7, a4_8, a1_0, t194, true)) else (if 0 ≤ a4_5 then (if a4_5 < (l0_1.length : Int) then (if 0 ≤ a4_8 then (if a4_8 < (((rd_T61 l0_1 a4_5).f1).length : Int) then ((expert_Run.f kj7 ((rd_T63 ((rd_T61 l0_1 a4_5).f1) a4_8).f0) ((rd_T63 ((rd_T61 l0_1 a4_5).f1) a4_8).f1) l4_10).bind fun bt200 => ((ledger_Enter.f l3 a4_4 a4_5 a4_6 a4_7 bt200.1).bind fun bt204 => (some (bt204.1, 2, a2, a4_1, a4_3, a4_4, a4_5, a4_6, a4_7, a4_8, a1_0, bt200.1, true)))) else (none)) else (none)) else (none)) else (none))) = some (r1, r2, r3, r4, r5, r6, r7, r8, r9, r10, r11, r12, r13) := H
      have A71 := Am A710
      clear A710
      by_cases c72 : t197 = true
      ·
       subst c72
       have H1 : (some (l3, 2, a2, a4_1, a4_3, a4_4, a4_5, a4_6, a4_7, a4_8, a1_0, t194, true)) = some (r1, r2, r3, r4, r5, r6, r7, r8, r9, r10, r11, r12, r13) := by rw [if_pos rfl] at H; exact H
       clear H
       have H := H1
       clear H1
       simp only [Option.some.injEq, Prod.mk.injEq] at H
       obtain ⟨rfl, rfl, rfl, rfl, rfl, rfl, rfl, rfl, rfl, rfl, rfl, rfl, rfl⟩ := H
       have hnb73 := NB188_186.out
       have hnc73 := NB186_188.out
       have hnb74 := NB188_187.out
       have hnc74 := NB187_188.out
       have hnb75 := NB188_189.out
       have hnc75 := NB189_188.out
       have hnb76 := NB188_191.out
       have hnc76 := NB191_188.out
       have hcz77_0 : wc.cell? ⟨gb188, 0, none⟩ = some (.int .i64 a4_0) := (blk_cell BK188.out 0).trans rfl
       have hcz77_1 : wc.cell? ⟨gb188, 1, none⟩ = some (.int .i64 a4_1) := (blk_cell BK188.out 1).trans rfl
       have hcz77_2 : wc.cell? ⟨gb188, 2, none⟩ = some (.int .i64 a4_2) := (blk_cell BK188.out 2).trans rfl
       have hcz77_3 : wc.cell? ⟨gb188, 3, none⟩ = some (.int .i64 a4_3) := (blk_cell BK188.out 3).trans rfl
       have hcz77_4 : wc.cell? ⟨gb188, 4, none⟩ = some (.int .i64 a4_4) := (blk_cell BK188.out 4).trans rfl
       have hcz77_5 : wc.cell? ⟨gb188, 5, none⟩ = some (.int .i64 a4_5) := (blk_cell BK188.out 5).trans rfl
       have hcz77_6 : wc.cell? ⟨gb188, 6, none⟩ = some (.int .i64 a4_6) := (blk_cell BK188.out 6).trans rfl
       have hcz77_7 : wc.cell? ⟨gb188, 7, none⟩ = some (.int .i64 a4_7) := (blk_cell BK188.out 7).trans rfl
       have hcz77_8 : wc.cell? ⟨gb188, 8, none⟩ = some (.int .i64 a4_8) := (blk_cell BK188.out 8).trans rfl
       have hcz77_9 : wc.cell? ⟨gb188, 9, none⟩ = some (.int .i64 a4_9) := (blk_cell BK188.out 9).trans rfl
       have hcz77_10 : wc.cell? ⟨gb188, 10, none⟩ = some (.slice A4_10 l4_10.length c4_10) := (blk_cell BK188.out 10).trans rfl
       have hfz77_0 := blk_frozen BK188.out 0
       have hfz77_1 := blk_frozen BK188.out 1
       have hfz77_2 := blk_frozen BK188.out 2
       have hfz77_3 := blk_frozen BK188.out 3
       have hfz77_4 := blk_frozen BK188.out 4
       have hfz77_5 := blk_frozen BK188.out 5
       have hfz77_6 := blk_frozen BK188.out 6
       have hfz77_7 := blk_frozen BK188.out 7
       have hfz77_8 := blk_frozen BK188.out 8
       have hfz77_9 := blk_frozen BK188.out 9
       have hfz77_10 := blk_frozen BK188.out 10
       try go_wp2_with (first | ((with_reducible refine gate_dst (N := 14) rfl ?_); refine box_event ?hg (N := 14) ?hd (cs := #[.int .i64 0, .int .i64 0, .int .i64 0, .int .i64 0]) (t := 37) ?hr ?_; (case hd => rfl); (case hg => rfl); (case hr => first | (go_simp; done) | (go_simp; rfl)); intro gb193 hg w78 hbox hb; have n0_ := Am (Kd.V_below (Kd.V_elderB (by (with_reducible repeat (first | apply Kd.V_alloc | apply Kd.V_drewN | apply Kd.V_drew)); exact HO_3.out) gb193 (Nat.le_of_eq hg.symm)) hb); have n1_ := Am (blk_below (g := gb186) (o := .cells #[.int .i64 a0_0, .slice A0_1 l0_1.length c0_1] 24 (0, 0)) (by (with_reducible repeat (first | refine blk_drewN ?_ _ | refine blk_drew ?_ | refine blk_alloc ?_ _)); exact BK186.out) hb); have n2_ := Am (blk_below (g := gb187) (o := .cells #[.int .i64 a1_0, .slice A1_1 l1_1.length c1_1] 27 (0, 0)) (by (with_reducible repeat (first | refine blk_drewN ?_ _ | refine blk_drew ?_ | refine blk_alloc ?_ _)); exact BK187.out) hb); have n3_ := Am (blk_below (g := gb188) (o := .cells #[.int .i64 a4_0, .int .i64 a4_1, .int .i64 a4_2, .int .i64 a4_3, .int .i64 a4_4, .int .i64 a4_5, .int .i64 a4_6, .int .i64 a4_7, .int .i64 a4_8, .int .i64 a4_9, .slice A4_10 l4_10.length c4_10] 31 (0, 0)) (by (with_reducible repeat (first | refine blk_drewN ?_ _ | refine blk_drew ?_ | refine blk_alloc ?_ _)); exact BK188.out) hb); have n4_ := Am (blk_below (g := gb189) (o := .cells #[.int .i64 0, .int .i64 0, .int .i64 0, .int .i64 0, .int .i64 0, .int .i64 0, .int .i64 0, .int .i64 0, .int .i64 0, .int .i64 0, .slice none 0 0] 31 (0, 0)) (by (with_reducible repeat (first | refine blk_drewN ?_ _ | refine blk_drew ?_ | refine blk_alloc ?_ _)); exact BK189.out) hb); have n5_ := Am (blk_below (g := gb191) (o := .cells #[.int .i64 3, .int .i64 a2, .int .i64 a4_1, .int .i64 a4_3, .int .i64 a4_4, .int .i64 a4_5, .int .i64 a4_6, .int .i64 a4_7, .int .i64 a4_8, .int .i64 a1_0, .slice none 0 0] 31 (0, 0)) (by (with_reducible repeat (first | refine blk_drewN ?_ _ | refine blk_drew ?_ | refine blk_alloc ?_ _)); exact BK191.out) hb); have n6_ := Am (below_step (by repeat (first | (with_reducible first | exact HB.out | apply below_alloc | apply pw_below_drewN | apply below_drew1 | refine below_set ?_ GE186.out | refine below_set ?_ GE187.out | refine below_set ?_ GE188.out | refine below_set ?_ GE189.out | refine below_set ?_ GE191.out) | exact HB.out)) hb); have n7_ := Am (hbox); have n8_ := Am ((by rw [hg]; exact (below_size (by repeat (first | (with_reducible first | exact HB.out | apply below_alloc | apply pw_below_drewN | apply below_drew1 | refine below_set ?_ GE186.out | refine below_set ?_ GE187.out | refine below_set ?_ GE188.out | refine below_set ?_ GE189.out | refine below_set ?_ GE191.out) | exact HB.out))) : w.heap.size ≤ gb193)); have n9_ := Am ((by rw [hg]; exact (below_size (by repeat (first | (with_reducible first | exact HB.out | apply below_alloc | apply pw_below_drewN | apply below_drew1 | refine below_set ?_ GE186.out | refine below_set ?_ GE187.out | refine below_set ?_ GE188.out | refine below_set ?_ GE189.out | refine below_set ?_ GE191.out) | exact HB.out))) : w.heap.size ≤ gb193)); have n10_ := Am ((by rw [hg]; exact Nat.ne_of_lt (blk_lt (g := gb186) (o := .cells #[.int .i64 a0_0, .slice A0_1 l0_1.length c0_1] 24 (0, 0)) (by (with_reducible repeat (first | refine blk_drewN ?_ _ | refine blk_drew ?_ | refine blk_alloc ?_ _)); exact BK186.out)) : gb186 ≠ gb193)); have n11_ := Am ((by rw [hg]; exact Nat.ne_of_gt (blk_lt (g := gb186) (o := .cells #[.int .i64 a0_0, .slice A0_1 l0_1.length c0_1] 24 (0, 0)) (by (with_reducible repeat (first | refine blk_drewN ?_ _ | refine blk_drew ?_ | refine blk_alloc ?_ _)); exact BK186.out)) : gb193 ≠ gb186)); have n12_ := Am ((by rw [hg]; exact Nat.ne_of_lt (blk_lt (g := gb187) (o := .cells #[.int .i64 a1_0, .slice A1_1 l1_1.length c1_1] 27 (0, 0)) (by (with_reducible repeat (first | refine blk_drewN ?_ _ | refine blk_drew ?_ | refine blk_alloc ?_ _)); exact BK187.out)) : gb187 ≠ gb193)); have n13_ := Am ((by rw [hg]; exact Nat.ne_of_gt (blk_lt (g := gb187) (o := .cells #[.int .i64 a1_0, .slice A1_1 l1_1.length c1_1] 27 (0, 0)) (by (with_reducible repeat (first | refine blk_drewN ?_ _ | refine blk_drew ?_ | refine blk_alloc ?_ _)); exact BK187.out)) : gb193 ≠ gb187)); have n14_ := Am ((by rw [hg]; exact Nat.ne_of_lt (blk_lt (g := gb188) (o := .cells #[.int .i64 a4_0, .int .i64 a4_1, .int .i64 a4_2, .int .i64 a4_3, .int .i64 a4_4, .int .i64 a4_5, .int .i64 a4_6, .int .i64 a4_7, .int .i64 a4_8, .int .i64 a4_9, .slice A4_10 l4_10.length c4_10] 31 (0, 0)) (by (with_reducible repeat (first | refine blk_drewN ?_ _ | refine blk_drew ?_ | refine blk_alloc ?_ _)); exact BK188.out)) : gb188 ≠ gb193)); have n15_ := Am ((by rw [hg]; exact Nat.ne_of_gt (blk_lt (g := gb188) (o := .cells #[.int .i64 a4_0, .int .i64 a4_1, .int .i64 a4_2, .int .i64 a4_3, .int .i64 a4_4, .int .i64 a4_5, .int .i64 a4_6, .int .i64 a4_7, .int .i64 a4_8, .int .i64 a4_9, .slice A4_10 l4_10.length c4_10] 31 (0, 0)) (by (with_reducible repeat (first | refine blk_drewN ?_ _ | refine blk_drew ?_ | refine blk_alloc ?_ _)); exact BK188.out)) : gb193 ≠ gb188)); have n16_ := Am ((by rw [hg]; exact Nat.ne_of_lt (blk_lt (g := gb189) (o := .cells #[.int .i64 0, .int .i64 0, .int .i64 0, .int .i64 0, .int .i64 0, .int .i64 0, .int .i64 0, .int .i64 0, .int .i64 0, .int .i64 0, .slice none 0 0] 31 (0, 0)) (by (with_reducible repeat (first | refine blk_drewN ?_ _ | refine blk_drew ?_ | refine blk_alloc ?_ _)); exact BK189.out)) : gb189 ≠ gb193)); have n17_ := Am ((by rw [hg]; exact Nat.ne_of_gt (blk_lt (g := gb189) (o := .cells #[.int .i64 0, .int .i64 0, .int .i64 0, .int .i64 0, .int .i64 0, .int .i64 0, .int .i64 0, .int .i64 0, .int .i64 0, .int .i64 0, .slice none 0 0] 31 (0, 0)) (by (with_reducible repeat (first | refine blk_drewN ?_ _ | refine blk_drew ?_ | refine blk_alloc ?_ _)); exact BK189.out)) : gb193 ≠ gb189)); have n18_ := Am ((by rw [hg]; exact Nat.ne_of_lt (blk_lt (g := gb191) (o := .cells #[.int .i64 3, .int .i64 a2, .int .i64 a4_1, .int .i64 a4_3, .int .i64 a4_4, .int .i64 a4_5, .int .i64 a4_6, .int .i64 a4_7, .int .i64 a4_8, .int .i64 a1_0, .slice none 0 0] 31 (0, 0)) (by (with_reducible repeat (first | refine blk_drewN ?_ _ | refine blk_drew ?_ | refine blk_alloc ?_ _)); exact BK191.out)) : gb191 ≠ gb193)); have n19_ := Am ((by rw [hg]; exact Nat.ne_of_gt (blk_lt (g := gb191) (o := .cells #[.int .i64 3, .int .i64 a2, .int .i64 a4_1, .int .i64 a4_3, .int .i64 a4_4, .int .i64 a4_5, .int .i64 a4_6, .int .i64 a4_7, .int .i64 a4_8, .int .i64 a1_0, .slice none 0 0] 31 (0, 0)) (by (with_reducible repeat (first | refine blk_drewN ?_ _ | refine blk_drew ?_ | refine blk_alloc ?_ _)); exact BK191.out)) : gb193 ≠ gb191)); clear HO_3; clear BK186; clear BK187; clear BK188; clear BK189; clear BK191; clear HB; have HO_3 := n0_; have BK186 := n1_; have BK187 := n2_; have BK188 := n3_; have BK189 := n4_; have BK191 := n5_; have HB := n6_; have BK193 := n7_; have GW193 := n8_; have GE193 := n9_; have NB186_193 := n10_; have NB193_186 := n11_; have NB187_193 := n12_; have NB193_187 := n13_; have NB188_193 := n14_; have NB193_188 := n15_; have NB189_193 := n16_; have NB193_189 := n17_; have NB191_193 := n18_; have NB193_191 := n19_; clear n0_ n1_ n2_ n3_ n4_ n5_ n6_ n7_ n8_ n9_ n10_ n11_ n12_ n13_ n14_ n15_ n16_ n17_ n18_ n19_; clear hb hbox hg; have hnb79 := NB193_186.out; have hnc79 := NB186_193.out; have hnb80 := NB193_187.out; have hnc80 := NB187_193.out; have hnb81 := NB193_188.out; have hnc81 := NB188_193.out; have hnb82 := NB193_189.out; have hnc82 := NB189_193.out; have hnb83 := NB193_191.out; have hnc83 := NB191_193.out; have hcz84_0 : w78.cell? ⟨gb193, 0, none⟩ = some (.int .i64 0) := (blk_cell BK193.out 0).trans rfl; have hcz84_1 : w78.cell? ⟨gb193, 1, none⟩ = some (.int .i64 0) := (blk_cell BK193.out 1).trans rfl; have hcz84_2 : w78.cell? ⟨gb193, 2, none⟩ = some (.int .i64 0) := (blk_cell BK193.out 2).trans rfl; have hcz84_3 : w78.cell? ⟨gb193, 3, none⟩ = some (.int .i64 0) := (blk_cell BK193.out 3).trans rfl; have hfz84_0 := blk_frozen BK193.out 0; have hfz84_1 := blk_frozen BK193.out 1; have hfz84_2 := blk_frozen BK193.out 2; have hfz84_3 := blk_frozen BK193.out 3) | ((with_reducible refine gate_callee (f := 18) rfl ?_); refine goesL_ (some 63) rfl rfl Try.func18 (by kernel_rfl) rfl #[.slice A3 l3.length c3, .agg #[.int .i64 a4_4, .int .i64 a4_5, .int .i64 a4_6, .int .i64 a4_7]] rfl (by (try simp only [List.map_toArray, List.map_cons, List.map_nil]); first | done | rfl | (simp only [List.length_drop, List.length_take]; rfl)) ?_; (with_reducible refine (ledger_Find.calls _ _ l3 a4_4 a4_5 a4_6 a4_7 t194 true _ ?side1 ?side2 A71.out).mono ?_); (case side1 => refine (Kd.V_reads' (e := 39) (base := w.heap.size) (ok := fun k_ => ((((P3_ k_ ∨ w.heap.size ≤ k_)) ∧ (k_ ≠ gb186 ∧ (k_ ≠ gb187 ∧ (k_ ≠ gb188 ∧ (k_ ≠ gb189 ∧ k_ ≠ gb191))))) ∧ k_ ≠ gb193)) (n := l3.length) (c := c3) ?_).2.2; exact (by (with_reducible repeat (first | apply Kd.V_alloc | apply Kd.V_drewN | apply Kd.V_drew)); exact (Kd.V_mono (Kd.V_far (p := ⟨gb193, 3, none⟩) (Kd.V_far (p := ⟨gb193, 2, none⟩) (Kd.V_far (p := ⟨gb193, 1, none⟩) (Kd.V_far (p := ⟨gb193, 0, none⟩) (Kd.V_mono HO_3.out (fun k_ hk => (⟨hk, hk.2⟩ : _ ∧ k_ ≠ gb193))) (fun _ hk => hk.2) (.int .i64 a4_4)) (fun _ hk => hk.2) (.int .i64 a4_5)) (fun _ hk => hk.2) (.int .i64 a4_6)) (fun _ hk => hk.2) (.int .i64 a4_7)) (fun _ h_ => h_.1)))); (case side2 => exact (Kd.V_reads' HO_3.out).2.1); rintro e w85 ⟨v195, rfl, ho0, hb⟩; refine ⟨_, rfl, ?_⟩; have n0_ := Am (Kd.V_elder' (by (with_reducible repeat (first | apply Kd.V_alloc | apply Kd.V_drewN | apply Kd.V_drew)); exact (Kd.V_mono (Kd.V_far (p := ⟨gb193, 3, none⟩) (Kd.V_far (p := ⟨gb193, 2, none⟩) (Kd.V_far (p := ⟨gb193, 1, none⟩) (Kd.V_far (p := ⟨gb193, 0, none⟩) (Kd.V_mono HO_3.out (fun k_ hk => (⟨hk, hk.2⟩ : _ ∧ k_ ≠ gb193))) (fun _ hk => hk.2) (.int .i64 a4_4)) (fun _ hk => hk.2) (.int .i64 a4_5)) (fun _ hk => hk.2) (.int .i64 a4_6)) (fun _ hk => hk.2) (.int .i64 a4_7)) (fun _ h_ => h_.1))) (Kd.R_base ho0) hb); have n1_ := Am (Kd.R_lower (Kd.R_newM (M := fun k_ => (w.heap.size ≤ k_)) ho0 (below_size (by repeat (first | (with_reducible first | exact HB.out | apply below_alloc | apply pw_below_drewN | apply below_drew1 | refine below_set ?_ GE186.out | refine below_set ?_ GE187.out | refine below_set ?_ GE188.out | refine below_set ?_ GE189.out | refine below_set ?_ GE191.out | refine below_set ?_ GE193.out) | exact HB.out))) (fun k_ h_ => h_)) (below_size (by repeat (first | (with_reducible first | exact HB.out | apply below_alloc | apply pw_below_drewN | apply below_drew1 | refine below_set ?_ GE186.out | refine below_set ?_ GE187.out | refine below_set ?_ GE188.out | refine below_set ?_ GE189.out | refine below_set ?_ GE191.out | refine below_set ?_ GE193.out) | exact HB.out)))); have n2_ := Am (blk_below (g := gb186) (o := .cells #[.int .i64 a0_0, .slice A0_1 l0_1.length c0_1] 24 (0, 0)) (by (with_reducible repeat (first | refine blk_drewN ?_ _ | refine blk_drew ?_ | refine blk_alloc ?_ _)); refine blk_far ?_ NB186_193.out _; (with_reducible repeat (first | refine blk_drewN ?_ _ | refine blk_drew ?_ | refine blk_alloc ?_ _)); refine blk_far ?_ NB186_193.out _; (with_reducible repeat (first | refine blk_drewN ?_ _ | refine blk_drew ?_ | refine blk_alloc ?_ _)); refine blk_far ?_ NB186_193.out _; (with_reducible repeat (first | refine blk_drewN ?_ _ | refine blk_drew ?_ | refine blk_alloc ?_ _)); refine blk_far ?_ NB186_193.out _; (with_reducible repeat (first | refine blk_drewN ?_ _ | refine blk_drew ?_ | refine blk_alloc ?_ _)); exact BK186.out) hb); have n3_ := Am (blk_below (g := gb187) (o := .cells #[.int .i64 a1_0, .slice A1_1 l1_1.length c1_1] 27 (0, 0)) (by (with_reducible repeat (first | refine blk_drewN ?_ _ | refine blk_drew ?_ | refine blk_alloc ?_ _)); refine blk_far ?_ NB187_193.out _; (with_reducible repeat (first | refine blk_drewN ?_ _ | refine blk_drew ?_ | refine blk_alloc ?_ _)); refine blk_far ?_ NB187_193.out _; (with_reducible repeat (first | refine blk_drewN ?_ _ | refine blk_drew ?_ | refine blk_alloc ?_ _)); refine blk_far ?_ NB187_193.out _; (with_reducible repeat (first | refine blk_drewN ?_ _ | refine blk_drew ?_ | refine blk_alloc ?_ _)); refine blk_far ?_ NB187_193.out _; (with_reducible repeat (first | refine blk_drewN ?_ _ | refine blk_drew ?_ | refine blk_alloc ?_ _)); exact BK187.out) hb); have n4_ := Am (blk_below (g := gb188) (o := .cells #[.int .i64 a4_0, .int .i64 a4_1, .int .i64 a4_2, .int .i64 a4_3, .int .i64 a4_4, .int .i64 a4_5, .int .i64 a4_6, .int .i64 a4_7, .int .i64 a4_8, .int .i64 a4_9, .slice A4_10 l4_10.length c4_10] 31 (0, 0)) (by (with_reducible repeat (first | refine blk_drewN ?_ _ | refine blk_drew ?_ | refine blk_alloc ?_ _)); refine blk_far ?_ NB188_193.out _; (with_reducible repeat (first | refine blk_drewN ?_ _ | refine blk_drew ?_ | refine blk_alloc ?_ _)); refine blk_far ?_ NB188_193.out _; (with_reducible repeat (first | refine blk_drewN ?_ _ | refine blk_drew ?_ | refine blk_alloc ?_ _)); refine blk_far ?_ NB188_193.out _; (with_reducible repeat (first | refine blk_drewN ?_ _ | refine blk_drew ?_ | refine blk_alloc ?_ _)); refine blk_far ?_ NB188_193.out _; (with_reducible repeat (first | refine blk_drewN ?_ _ | refine blk_drew ?_ | refine blk_alloc ?_ _)); exact BK188.out) hb); have n5_ := Am (blk_below (g := gb189) (o := .cells #[.int .i64 0, .int .i64 0, .int .i64 0, .int .i64 0, .int .i64 0, .int .i64 0, .int .i64 0, .int .i64 0, .int .i64 0, .int .i64 0, .slice none 0 0] 31 (0, 0)) (by (with_reducible repeat (first | refine blk_drewN ?_ _ | refine blk_drew ?_ | refine blk_alloc ?_ _)); refine blk_far ?_ NB189_193.out _; (with_reducible repeat (first | refine blk_drewN ?_ _ | refine blk_drew ?_ | refine blk_alloc ?_ _)); refine blk_far ?_ NB189_193.out _; (with_reducible repeat (first | refine blk_drewN ?_ _ | refine blk_drew ?_ | refine blk_alloc ?_ _)); refine blk_far ?_ NB189_193.out _; (with_reducible repeat (first | refine blk_drewN ?_ _ | refine blk_drew ?_ | refine blk_alloc ?_ _)); refine blk_far ?_ NB189_193.out _; (with_reducible repeat (first | refine blk_drewN ?_ _ | refine blk_drew ?_ | refine blk_alloc ?_ _)); exact BK189.out) hb); have n6_ := Am (blk_below (g := gb191) (o := .cells #[.int .i64 3, .int .i64 a2, .int .i64 a4_1, .int .i64 a4_3, .int .i64 a4_4, .int .i64 a4_5, .int .i64 a4_6, .int .i64 a4_7, .int .i64 a4_8, .int .i64 a1_0, .slice none 0 0] 31 (0, 0)) (by (with_reducible repeat (first | refine blk_drewN ?_ _ | refine blk_drew ?_ | refine blk_alloc ?_ _)); refine blk_far ?_ NB191_193.out _; (with_reducible repeat (first | refine blk_drewN ?_ _ | refine blk_drew ?_ | refine blk_alloc ?_ _)); refine blk_far ?_ NB191_193.out _; (with_reducible repeat (first | refine blk_drewN ?_ _ | refine blk_drew ?_ | refine blk_alloc ?_ _)); refine blk_far ?_ NB191_193.out _; (with_reducible repeat (first | refine blk_drewN ?_ _ | refine blk_drew ?_ | refine blk_alloc ?_ _)); refine blk_far ?_ NB191_193.out _; (with_reducible repeat (first | refine blk_drewN ?_ _ | refine blk_drew ?_ | refine blk_alloc ?_ _)); exact BK191.out) hb); have n7_ := Am (blk_below (g := gb193) (o := .cells #[.int .i64 a4_4, .int .i64 a4_5, .int .i64 a4_6, .int .i64 a4_7] 37 (0, 0)) (by (with_reducible repeat (first | refine blk_drewN ?_ _ | refine blk_drew ?_ | refine blk_alloc ?_ _)); refine blk_put (cs := #[.int .i64 a4_4, .int .i64 a4_5, .int .i64 a4_6, .int .i64 0]) ?_ 3 _ rfl; (with_reducible repeat (first | refine blk_drewN ?_ _ | refine blk_drew ?_ | refine blk_alloc ?_ _)); refine blk_put (cs := #[.int .i64 a4_4, .int .i64 a4_5, .int .i64 0, .int .i64 0]) ?_ 2 _ rfl; (with_reducible repeat (first | refine blk_drewN ?_ _ | refine blk_drew ?_ | refine blk_alloc ?_ _)); refine blk_put (cs := #[.int .i64 a4_4, .int .i64 0, .int .i64 0, .int .i64 0]) ?_ 1 _ rfl; (with_reducible repeat (first | refine blk_drewN ?_ _ | refine blk_drew ?_ | refine blk_alloc ?_ _)); refine blk_put (cs := #[.int .i64 0, .int .i64 0, .int .i64 0, .int .i64 0]) ?_ 0 _ rfl; (with_reducible repeat (first | refine blk_drewN ?_ _ | refine blk_drew ?_ | refine blk_alloc ?_ _)); exact BK193.out) hb); have n8_ := Am (below_step (by repeat (first | (with_reducible first | exact HB.out | apply below_alloc | apply pw_below_drewN | apply below_drew1 | refine below_set ?_ GE186.out | refine below_set ?_ GE187.out | refine below_set ?_ GE188.out | refine below_set ?_ GE189.out | refine below_set ?_ GE191.out | refine below_set ?_ GE193.out) | exact HB.out)) hb); clear HO_3; clear BK186; clear BK187; clear BK188; clear BK189; clear BK191; clear BK193; clear HB; have HO_3 := n0_; have HO196 := n1_; have BK186 := n2_; have BK187 := n3_; have BK188 := n4_; have BK189 := n5_; have BK191 := n6_; have BK193 := n7_; have HB := n8_; clear n0_ n1_ n2_ n3_ n4_ n5_ n6_ n7_ n8_; (try clear hb); (try clear hb2); (try clear hk); (try clear hi); (try clear ho0); have hnb86 := NB191_186.out; have hnc86 := NB186_191.out; have hnb87 := NB191_187.out; have hnc87 := NB187_191.out; have hnb88 := NB191_189.out; have hnc88 := NB189_191.out; have hcz89_0 : w85.cell? ⟨gb191, 0, none⟩ = some (.int .i64 3) := (blk_cell BK191.out 0).trans rfl; have hcz89_1 : w85.cell? ⟨gb191, 1, none⟩ = some (.int .i64 a2) := (blk_cell BK191.out 1).trans rfl; have hcz89_2 : w85.cell? ⟨gb191, 2, none⟩ = some (.int .i64 a4_1) := (blk_cell BK191.out 2).trans rfl; have hcz89_3 : w85.cell? ⟨gb191, 3, none⟩ = some (.int .i64 a4_3) := (blk_cell BK191.out 3).trans rfl; have hcz89_4 : w85.cell? ⟨gb191, 4, none⟩ = some (.int .i64 a4_4) := (blk_cell BK191.out 4).trans rfl; have hcz89_5 : w85.cell? ⟨gb191, 5, none⟩ = some (.int .i64 a4_5) := (blk_cell BK191.out 5).trans rfl; have hcz89_6 : w85.cell? ⟨gb191, 6, none⟩ = some (.int .i64 a4_6) := (blk_cell BK191.out 6).trans rfl; have hcz89_7 : w85.cell? ⟨gb191, 7, none⟩ = some (.int .i64 a4_7) := (blk_cell BK191.out 7).trans rfl; have hcz89_8 : w85.cell? ⟨gb191, 8, none⟩ = some (.int .i64 a4_8) := (blk_cell BK191.out 8).trans rfl; have hcz89_9 : w85.cell? ⟨gb191, 9, none⟩ = some (.int .i64 a1_0) := (blk_cell BK191.out 9).trans rfl; have hcz89_10 : w85.cell? ⟨gb191, 10, none⟩ = some (.slice none 0 0) := (blk_cell BK191.out 10).trans rfl; have hfz89_0 := blk_frozen BK191.out 0; have hfz89_1 := blk_frozen BK191.out 1; have hfz89_2 := blk_frozen BK191.out 2; have hfz89_3 := blk_frozen BK191.out 3; have hfz89_4 := blk_frozen BK191.out 4; have hfz89_5 := blk_frozen BK191.out 5; have hfz89_6 := blk_frozen BK191.out 6; have hfz89_7 := blk_frozen BK191.out 7; have hfz89_8 := blk_frozen BK191.out 8; have hfz89_9 := blk_frozen BK191.out 9; have hfz89_10 := blk_frozen BK191.out 10; obtain ⟨Ao90, co90, eo90⟩ := Kd.R_slice HO196.out; subst eo90))
       have n0_ : Aside0 (Kd.V k39 39 ((w85.setCell ⟨gb191, 0, none⟩ (.int .i64 2)).setCell ⟨gb191, 10, none⟩ (.slice Ao90 t194.length co90)) w.heap.size (fun k_ => (P3_ k_ ∨ w.heap.size ≤ k_) ∧ some k_ ≠ (.slice Ao90 t194.length co90 : Value).ownBlock ∧ k_ ≠ gb186 ∧ k_ ≠ gb187 ∧ k_ ≠ gb188 ∧ k_ ≠ gb189 ∧ k_ ≠ gb191 ∧ k_ ≠ gb193) (.slice A3 l3.length c3) l3) := ⟨by (with_reducible repeat (first | apply Kd.V_alloc | apply Kd.V_drewN | apply Kd.V_drew)); exact Kd.V_mono (Kd.V_far (p := ⟨gb191, 10, none⟩) (Kd.V_far (p := ⟨gb191, 0, none⟩) (Kd.V_mono HO_3.out (fun k_ hk => (⟨hk, hk.1.1.2.2.2.2.2⟩ : _ ∧ k_ ≠ gb191))) (fun _ hk => hk.2) (.int .i64 2)) (fun _ hk => hk.2) (.slice Ao90 t194.length co90)) (fun _ hk => ⟨hk.1.1.1.1, ⟨hk.1.2, ⟨hk.1.1.1.2.1, ⟨hk.1.1.1.2.2.1, ⟨hk.1.1.1.2.2.2.1, ⟨hk.1.1.1.2.2.2.2.1, ⟨hk.1.1.1.2.2.2.2.2, hk.1.1.2⟩⟩⟩⟩⟩⟩⟩)⟩
       have n1_ : Aside0 (Kd.R (Kd.int .i64) 3 ((w85.setCell ⟨gb191, 0, none⟩ (.int .i64 2)).setCell ⟨gb191, 10, none⟩ (.slice Ao90 t194.length co90)) w.heap.size (fun k_ => (w.heap.size ≤ k_)) (.slice Ao90 t194.length co90) t194) := ⟨by (with_reducible repeat (first | apply Kd.R_alloc | apply Kd.R_drewN | apply Kd.R_drew)); exact Kd.R_mono (Kd.R_far (p := ⟨gb191, 10, none⟩) (Kd.R_far (p := ⟨gb191, 0, none⟩) (Kd.R_types HO196.out BK191.out (by decide)) (fun _ hk => hk.2) (.int .i64 2)) (fun _ hk => hk.2) (.slice Ao90 t194.length co90)) (fun _ hk => hk.1.1)⟩
       have n2_ : Aside0 (((w85.setCell ⟨gb191, 0, none⟩ (.int .i64 2)).setCell ⟨gb191, 10, none⟩ (.slice Ao90 t194.length co90)).heap[gb186]? = some (.cells #[.int .i64 a0_0, .slice A0_1 l0_1.length c0_1] 24 (0, 0))) := ⟨by (with_reducible repeat (first | refine blk_drewN ?_ _ | refine blk_drew ?_ | refine blk_alloc ?_ _)); refine blk_far ?_ NB186_191.out _; (with_reducible repeat (first | refine blk_drewN ?_ _ | refine blk_drew ?_ | refine blk_alloc ?_ _)); refine blk_far ?_ NB186_191.out _; (with_reducible repeat (first | refine blk_drewN ?_ _ | refine blk_drew ?_ | refine blk_alloc ?_ _)); exact BK186.out⟩
       have n3_ : Aside0 (((w85.setCell ⟨gb191, 0, none⟩ (.int .i64 2)).setCell ⟨gb191, 10, none⟩ (.slice Ao90 t194.length co90)).heap[gb187]? = some (.cells #[.int .i64 a1_0, .slice A1_1 l1_1.length c1_1] 27 (0, 0))) := ⟨by (with_reducible repeat (first | refine blk_drewN ?_ _ | refine blk_drew ?_ | refine blk_alloc ?_ _)); refine blk_far ?_ NB187_191.out _; (with_reducible repeat (first | refine blk_drewN ?_ _ | refine blk_drew ?_ | refine blk_alloc ?_ _)); refine blk_far ?_ NB187_191.out _; (with_reducible repeat (first | refine blk_drewN ?_ _ | refine blk_drew ?_ | refine blk_alloc ?_ _)); exact BK187.out⟩
       have n4_ : Aside0 (((w85.setCell ⟨gb191, 0, none⟩ (.int .i64 2)).setCell ⟨gb191, 10, none⟩ (.slice Ao90 t194.length co90)).heap[gb188]? = some (.cells #[.int .i64 a4_0, .int .i64 a4_1, .int .i64 a4_2, .int .i64 a4_3, .int .i64 a4_4, .int .i64 a4_5, .int .i64 a4_6, .int .i64 a4_7, .int .i64 a4_8, .int .i64 a4_9, .slice A4_10 l4_10.length c4_10] 31 (0, 0))) := ⟨by (with_reducible repeat (first | refine blk_drewN ?_ _ | refine blk_drew ?_ | refine blk_alloc ?_ _)); refine blk_far ?_ NB188_191.out _; (with_reducible repeat (first | refine blk_drewN ?_ _ | refine blk_drew ?_ | refine blk_alloc ?_ _)); refine blk_far ?_ NB188_191.out _; (with_reducible repeat (first | refine blk_drewN ?_ _ | refine blk_drew ?_ | refine blk_alloc ?_ _)); exact BK188.out⟩
       have n5_ : Aside0 (((w85.setCell ⟨gb191, 0, none⟩ (.int .i64 2)).setCell ⟨gb191, 10, none⟩ (.slice Ao90 t194.length co90)).heap[gb189]? = some (.cells #[.int .i64 0, .int .i64 0, .int .i64 0, .int .i64 0, .int .i64 0, .int .i64 0, .int .i64 0, .int .i64 0, .int .i64 0, .int .i64 0, .slice none 0 0] 31 (0, 0))) := ⟨by (with_reducible repeat (first | refine blk_drewN ?_ _ | refine blk_drew ?_ | refine blk_alloc ?_ _)); refine blk_far ?_ NB189_191.out _; (with_reducible repeat (first | refine blk_drewN ?_ _ | refine blk_drew ?_ | refine blk_alloc ?_ _)); refine blk_far ?_ NB189_191.out _; (with_reducible repeat (first | refine blk_drewN ?_ _ | refine blk_drew ?_ | refine blk_alloc ?_ _)); exact BK189.out⟩
       have n6_ : Aside0 (((w85.setCell ⟨gb191, 0, none⟩ (.int .i64 2)).setCell ⟨gb191, 10, none⟩ (.slice Ao90 t194.length co90)).heap[gb191]? = some (.cells #[.int .i64 2, .int .i64 a2, .int .i64 a4_1, .int .i64 a4_3, .int .i64 a4_4, .int .i64 a4_5, .int .i64 a4_6, .int .i64 a4_7, .int .i64 a4_8, .int .i64 a1_0, .slice Ao90 t194.length co90] 31 (0, 0))) := ⟨by (with_reducible repeat (first | refine blk_drewN ?_ _ | refine blk_drew ?_ | refine blk_alloc ?_ _)); refine blk_put (cs := #[.int .i64 2, .int .i64 a2, .int .i64 a4_1, .int .i64 a4_3, .int .i64 a4_4, .int .i64 a4_5, .int .i64 a4_6, .int .i64 a4_7, .int .i64 a4_8, .int .i64 a1_0, .slice none 0 0]) ?_ 10 _ rfl; (with_reducible repeat (first | refine blk_drewN ?_ _ | refine blk_drew ?_ | refine blk_alloc ?_ _)); refine blk_put (cs := #[.int .i64 3, .int .i64 a2, .int .i64 a4_1, .int .i64 a4_3, .int .i64 a4_4, .int .i64 a4_5, .int .i64 a4_6, .int .i64 a4_7, .int .i64 a4_8, .int .i64 a1_0, .slice none 0 0]) ?_ 0 _ rfl; (with_reducible repeat (first | refine blk_drewN ?_ _ | refine blk_drew ?_ | refine blk_alloc ?_ _)); exact BK191.out⟩
       have n7_ : Aside0 (((w85.setCell ⟨gb191, 0, none⟩ (.int .i64 2)).setCell ⟨gb191, 10, none⟩ (.slice Ao90 t194.length co90)).heap[gb193]? = some (.cells #[.int .i64 a4_4, .int .i64 a4_5, .int .i64 a4_6, .int .i64 a4_7] 37 (0, 0))) := ⟨by (with_reducible repeat (first | refine blk_drewN ?_ _ | refine blk_drew ?_ | refine blk_alloc ?_ _)); refine blk_far ?_ NB193_191.out _; (with_reducible repeat (first | refine blk_drewN ?_ _ | refine blk_drew ?_ | refine blk_alloc ?_ _)); refine blk_far ?_ NB193_191.out _; (with_reducible repeat (first | refine blk_drewN ?_ _ | refine blk_drew ?_ | refine blk_alloc ?_ _)); exact BK193.out⟩
       have n8_ : Aside0 (Below w.heap.size w ((w85.setCell ⟨gb191, 0, none⟩ (.int .i64 2)).setCell ⟨gb191, 10, none⟩ (.slice Ao90 t194.length co90))) := ⟨by repeat (first | (with_reducible first | exact HB.out | apply below_alloc | apply pw_below_drewN | apply below_drew1 | refine below_set ?_ GE186.out | refine below_set ?_ GE187.out | refine below_set ?_ GE188.out | refine below_set ?_ GE189.out | refine below_set ?_ GE191.out | refine below_set ?_ GE193.out) | exact HB.out)⟩
       (try clear HO_3)
       (try clear HO196)
       (try clear BK186)
       (try clear BK187)
       (try clear BK188)
       (try clear BK189)
       (try clear BK191)
       (try clear BK193)
       (try clear HB)
       generalize ((w85.setCell ⟨gb191, 0, none⟩ (.int .i64 2)).setCell ⟨gb191, 10, none⟩ (.slice Ao90 t194.length co90)) = w91 at n0_ n1_ n2_ n3_ n4_ n5_ n6_ n7_ n8_ ⊢
       have HO_3 := n0_
       have HO196 := n1_
       have BK186 := n2_
       have BK187 := n3_
       have BK188 := n4_
       have BK189 := n5_
       have BK191 := n6_
       have BK193 := n7_
       have HB := n8_
       clear n0_ n1_ n2_ n3_ n4_ n5_ n6_ n7_ n8_
       have n0_ := Am (Kd.V_drew HO_3.out)
       have n1_ := Am (Kd.R_drew HO196.out)
       have n2_ := Am (blk_drew BK186.out)
       have n3_ := Am (blk_drew BK187.out)
       have n4_ := Am (blk_drew BK188.out)
       have n5_ := Am (blk_drew BK189.out)
       have n6_ := Am (blk_drew BK191.out)
       have n7_ := Am (blk_drew BK193.out)
       have n8_ := Am (below_drew1 HB.out)
       clear HO_3
       clear HO196
       clear BK186
       clear BK187
       clear BK188
       clear BK189
       clear BK191
       clear BK193
       clear HB
       have HO_3 := n0_
       have HO196 := n1_
       have BK186 := n2_
       have BK187 := n3_
       have BK188 := n4_
       have BK189 := n5_
       have BK191 := n6_
       have BK193 := n7_
       have HB := n8_
       clear n0_ n1_ n2_ n3_ n4_ n5_ n6_ n7_ n8_
       refine start_ (n := 5) (S := fun w' => w'.cell? ⟨gb191, 0, none⟩ = some (.int .i64 2) ∧ w'.cell? ⟨gb191, 1, none⟩ = some (.int .i64 a2) ∧ w'.cell? ⟨gb191, 2, none⟩ = some (.int .i64 a4_1) ∧ w'.cell? ⟨gb191, 3, none⟩ = some (.int .i64 a4_3) ∧ w'.cell? ⟨gb191, 4, none⟩ = some (.int .i64 a4_4) ∧ w'.cell? ⟨gb191, 5, none⟩ = some (.int .i64 a4_5) ∧ w'.cell? ⟨gb191, 6, none⟩ = some (.int .i64 a4_6) ∧ w'.cell? ⟨gb191, 7, none⟩ = some (.int .i64 a4_7) ∧ w'.cell? ⟨gb191, 8, none⟩ = some (.int .i64 a4_8) ∧ w'.cell? ⟨gb191, 9, none⟩ = some (.int .i64 a1_0) ∧ w'.cell? ⟨gb191, 10, none⟩ = some (.slice Ao90 t194.length co90)) (ds := []) #[false, false, false, false, false] (by kernel_rfl) rfl rfl ⟨(blk_cell BK191.out 0).trans rfl, (blk_cell BK191.out 1).trans rfl, (blk_cell BK191.out 2).trans rfl, (blk_cell BK191.out 3).trans rfl, (blk_cell BK191.out 4).trans rfl, (blk_cell BK191.out 5).trans rfl, (blk_cell BK191.out 6).trans rfl, (blk_cell BK191.out 7).trans rfl, (blk_cell BK191.out 8).trans rfl, (blk_cell BK191.out 9).trans rfl, (blk_cell BK191.out 10).trans rfl⟩ (fun hHeld => ?_)
       generalize w91.drew = w92 at HO_3 HO196 BK186 BK187 BK188 BK189 BK191 BK193 HB hHeld ⊢
       refine pure_ (i := 0) (N := some 95) (v := ?_) (a' := ?_) #[true, false, false, false, false] rfl rfl (by kernel_rfl) (fun _ _ _ h => h) (Or.inl ⟨by rfl, ?_⟩) ?_ ?_
       rotate_left
       ·
        intro w'
        go_simp
        with_reducible rfl
       rotate_left
       ·
        simp only [Act.put, List.setIfInBounds_toArray, List.set_cons_zero, List.set_cons_succ, i64_w, i32_w]
        rfl
       refine pure_ (i := 2) (N := some 10) (v := ?_) (a' := ?_) #[true, false, true, false, false] rfl rfl (by kernel_rfl) (fun _ _ _ h => h) (Or.inl ⟨by rfl, ?_⟩) ?_ ?_
       rotate_left
       ·
        intro w'
        go_simp
        with_reducible rfl
       rotate_left
       ·
        simp only [Act.put, List.setIfInBounds_toArray, List.set_cons_zero, List.set_cons_succ, i64_w, i32_w]
        rfl
       refine take_ (i := 1) (N := some 96) (v := ?_) (a' := ?_) #[true, true, true, false, false] rfl rfl (by kernel_rfl) (fun _ _ _ h => h) (Or.inl ⟨by rfl, ?_⟩) hHeld ?_ ?_
       rotate_left
       ·
        rintro w' ⟨s0, s1, s2, s3, s4, s5, s6, s7, s8, s9, s10⟩
        go_simp
        with_reducible rfl
       rotate_left
       ·
        simp only [Act.put, List.setIfInBounds_toArray, List.set_cons_zero, List.set_cons_succ, i64_w, i32_w]
        rfl
       refine one_ (i := 3) (N := none) #[true, true, true, true, false] rfl rfl (by kernel_rfl) (by decide) (fun K hK => ?_)
       have hs93 : w92.cell? ⟨gb189, 0, none⟩ = some (.int .i64 0) := (blk_cell BK189.out 0).trans rfl
       have hfs93 := blk_frozen BK189.out 0
       have hns93_0 := NB186_189.out
       have hns93_1 := NB187_189.out
       have hns93_2 := NB188_189.out
       have hns93_4 := NB191_189.out
       have hns93_5 := NB193_189.out
       have hms93_0 := NB189_186.out
       have hms93_1 := NB189_187.out
       have hms93_2 := NB189_188.out
       have hms93_4 := NB189_191.out
       have hms93_5 := NB189_193.out
       have hs94 : w92.cell? ⟨gb189, 1, none⟩ = some (.int .i64 0) := (blk_cell BK189.out 1).trans rfl
       have hfs94 := blk_frozen BK189.out 1
       have hns94_0 := NB186_189.out
       have hns94_1 := NB187_189.out
       have hns94_2 := NB188_189.out
       have hns94_4 := NB191_189.out
       have hns94_5 := NB193_189.out
       have hms94_0 := NB189_186.out
       have hms94_1 := NB189_187.out
       have hms94_2 := NB189_188.out
       have hms94_4 := NB189_191.out
       have hms94_5 := NB189_193.out
       have hs95 : w92.cell? ⟨gb189, 2, none⟩ = some (.int .i64 0) := (blk_cell BK189.out 2).trans rfl
       have hfs95 := blk_frozen BK189.out 2
       have hns95_0 := NB186_189.out
       have hns95_1 := NB187_189.out
       have hns95_2 := NB188_189.out
       have hns95_4 := NB191_189.out
       have hns95_5 := NB193_189.out
       have hms95_0 := NB189_186.out
       have hms95_1 := NB189_187.out
       have hms95_2 := NB189_188.out
       have hms95_4 := NB189_191.out
       have hms95_5 := NB189_193.out
       have hs96 : w92.cell? ⟨gb189, 3, none⟩ = some (.int .i64 0) := (blk_cell BK189.out 3).trans rfl
       have hfs96 := blk_frozen BK189.out 3
       have hns96_0 := NB186_189.out
       have hns96_1 := NB187_189.out
       have hns96_2 := NB188_189.out
       have hns96_4 := NB191_189.out
       have hns96_5 := NB193_189.out
       have hms96_0 := NB189_186.out
       have hms96_1 := NB189_187.out
       have hms96_2 := NB189_188.out
       have hms96_4 := NB189_191.out
       have hms96_5 := NB189_193.out
       have hs97 : w92.cell? ⟨gb189, 4, none⟩ = some (.int .i64 0) := (blk_cell BK189.out 4).trans rfl
       have hfs97 := blk_frozen BK189.out 4
       have hns97_0 := NB186_189.out
       have hns97_1 := NB187_189.out
       have hns97_2 := NB188_189.out
       have hns97_4 := NB191_189.out
       have hns97_5 := NB193_189.out
       have hms97_0 := NB189_186.out
       have hms97_1 := NB189_187.out
       have hms97_2 := NB189_188.out
       have hms97_4 := NB189_191.out
       have hms97_5 := NB189_193.out
       have hs98 : w92.cell? ⟨gb189, 5, none⟩ = some (.int .i64 0) := (blk_cell BK189.out 5).trans rfl
       have hfs98 := blk_frozen BK189.out 5
       have hns98_0 := NB186_189.out
       have hns98_1 := NB187_189.out
       have hns98_2 := NB188_189.out
       have hns98_4 := NB191_189.out
       have hns98_5 := NB193_189.out
       have hms98_0 := NB189_186.out
       have hms98_1 := NB189_187.out
       have hms98_2 := NB189_188.out
       have hms98_4 := NB189_191.out
       have hms98_5 := NB189_193.out
       have hs99 : w92.cell? ⟨gb189, 6, none⟩ = some (.int .i64 0) := (blk_cell BK189.out 6).trans rfl
       have hfs99 := blk_frozen BK189.out 6
       have hns99_0 := NB186_189.out
       have hns99_1 := NB187_189.out
       have hns99_2 := NB188_189.out
       have hns99_4 := NB191_189.out
       have hns99_5 := NB193_189.out
       have hms99_0 := NB189_186.out
       have hms99_1 := NB189_187.out
       have hms99_2 := NB189_188.out
       have hms99_4 := NB189_191.out
       have hms99_5 := NB189_193.out
       have hs100 : w92.cell? ⟨gb189, 7, none⟩ = some (.int .i64 0) := (blk_cell BK189.out 7).trans rfl
       have hfs100 := blk_frozen BK189.out 7
       have hns100_0 := NB186_189.out
       have hns100_1 := NB187_189.out
       have hns100_2 := NB188_189.out
       have hns100_4 := NB191_189.out
       have hns100_5 := NB193_189.out
       have hms100_0 := NB189_186.out
       have hms100_1 := NB189_187.out
       have hms100_2 := NB189_188.out
       have hms100_4 := NB189_191.out
       have hms100_5 := NB189_193.out
       have hs101 : w92.cell? ⟨gb189, 8, none⟩ = some (.int .i64 0) := (blk_cell BK189.out 8).trans rfl
       have hfs101 := blk_frozen BK189.out 8
       have hns101_0 := NB186_189.out
       have hns101_1 := NB187_189.out
       have hns101_2 := NB188_189.out
       have hns101_4 := NB191_189.out
       have hns101_5 := NB193_189.out
       have hms101_0 := NB189_186.out
       have hms101_1 := NB189_187.out
       have hms101_2 := NB189_188.out
       have hms101_4 := NB189_191.out
       have hms101_5 := NB189_193.out
       have hs102 : w92.cell? ⟨gb189, 9, none⟩ = some (.int .i64 0) := (blk_cell BK189.out 9).trans rfl
       have hfs102 := blk_frozen BK189.out 9
       have hns102_0 := NB186_189.out
       have hns102_1 := NB187_189.out
       have hns102_2 := NB188_189.out
       have hns102_4 := NB191_189.out
       have hns102_5 := NB193_189.out
       have hms102_0 := NB189_186.out
       have hms102_1 := NB189_187.out
       have hms102_2 := NB189_188.out
       have hms102_4 := NB189_191.out
       have hms102_5 := NB189_193.out
       have hs103 : w92.cell? ⟨gb189, 10, none⟩ = some (.slice none 0 0) := (blk_cell BK189.out 10).trans rfl
       have hfs103 := blk_frozen BK189.out 10
       have hns103_0 := NB186_189.out
       have hns103_1 := NB187_189.out
       have hns103_2 := NB188_189.out
       have hns103_4 := NB191_189.out
       have hns103_5 := NB193_189.out
       have hms103_0 := NB189_186.out
       have hms103_1 := NB189_187.out
       have hms103_2 := NB189_188.out
       have hms103_4 := NB189_191.out
       have hms103_5 := NB189_193.out
       refine skip_ (w1 := ?_) (by rfl) rfl ?_ ?_
       rotate_left
       ·
        go_simp
        rfl
       refine hK.out _ _ ⟨((cell_far (p := ⟨gb189, _, none⟩) NB191_189.out _).trans (((cell_far (p := ⟨gb189, _, none⟩) NB191_189.out _).trans (((cell_far (p := ⟨gb189, _, none⟩) NB191_189.out _).trans (((cell_far (p := ⟨gb189, _, none⟩) NB191_189.out _).trans (((cell_far (p := ⟨gb189, _, none⟩) NB191_189.out _).trans (((cell_far (p := ⟨gb189, _, none⟩) NB191_189.out _).trans (((cell_far (p := ⟨gb189, _, none⟩) NB191_189.out _).trans (((cell_far (p := ⟨gb189, _, none⟩) NB191_189.out _).trans (((cell_far (p := ⟨gb189, _, none⟩) NB191_189.out _).trans (((cell_far (p := ⟨gb189, _, none⟩) NB191_189.out _).trans (((cell_far (p := ⟨gb189, _, none⟩) NB191_189.out _).trans (hHeld.1)))))))))))))))))))))), ((cell_far (p := ⟨gb189, _, none⟩) NB191_189.out _).trans (((cell_far (p := ⟨gb189, _, none⟩) NB191_189.out _).trans (((cell_far (p := ⟨gb189, _, none⟩) NB191_189.out _).trans (((cell_far (p := ⟨gb189, _, none⟩) NB191_189.out _).trans (((cell_far (p := ⟨gb189, _, none⟩) NB191_189.out _).trans (((cell_far (p := ⟨gb189, _, none⟩) NB191_189.out _).trans (((cell_far (p := ⟨gb189, _, none⟩) NB191_189.out _).trans (((cell_far (p := ⟨gb189, _, none⟩) NB191_189.out _).trans (((cell_far (p := ⟨gb189, _, none⟩) NB191_189.out _).trans (((cell_far (p := ⟨gb189, _, none⟩) NB191_189.out _).trans (((cell_far (p := ⟨gb189, _, none⟩) NB191_189.out _).trans (hHeld.2.1)))))))))))))))))))))), ((cell_far (p := ⟨gb189, _, none⟩) NB191_189.out _).trans (((cell_far (p := ⟨gb189, _, none⟩) NB191_189.out _).trans (((cell_far (p := ⟨gb189, _, none⟩) NB191_189.out _).trans (((cell_far (p := ⟨gb189, _, none⟩) NB191_189.out _).trans (((cell_far (p := ⟨gb189, _, none⟩) NB191_189.out _).trans (((cell_far (p := ⟨gb189, _, none⟩) NB191_189.out _).trans (((cell_far (p := ⟨gb189, _, none⟩) NB191_189.out _).trans (((cell_far (p := ⟨gb189, _, none⟩) NB191_189.out _).trans (((cell_far (p := ⟨gb189, _, none⟩) NB191_189.out _).trans (((cell_far (p := ⟨gb189, _, none⟩) NB191_189.out _).trans (((cell_far (p := ⟨gb189, _, none⟩) NB191_189.out _).trans (hHeld.2.2.1)))))))))))))))))))))), ((cell_far (p := ⟨gb189, _, none⟩) NB191_189.out _).trans (((cell_far (p := ⟨gb189, _, none⟩) NB191_189.out _).trans (((cell_far (p := ⟨gb189, _, none⟩) NB191_189.out _).trans (((cell_far (p := ⟨gb189, _, none⟩) NB191_189.out _).trans (((cell_far (p := ⟨gb189, _, none⟩) NB191_189.out _).trans (((cell_far (p := ⟨gb189, _, none⟩) NB191_189.out _).trans (((cell_far (p := ⟨gb189, _, none⟩) NB191_189.out _).trans (((cell_far (p := ⟨gb189, _, none⟩) NB191_189.out _).trans (((cell_far (p := ⟨gb189, _, none⟩) NB191_189.out _).trans (((cell_far (p := ⟨gb189, _, none⟩) NB191_189.out _).trans (((cell_far (p := ⟨gb189, _, none⟩) NB191_189.out _).trans (hHeld.2.2.2.1)))))))))))))))))))))), ((cell_far (p := ⟨gb189, _, none⟩) NB191_189.out _).trans (((cell_far (p := ⟨gb189, _, none⟩) NB191_189.out _).trans (((cell_far (p := ⟨gb189, _, none⟩) NB191_189.out _).trans (((cell_far (p := ⟨gb189, _, none⟩) NB191_189.out _).trans (((cell_far (p := ⟨gb189, _, none⟩) NB191_189.out _).trans (((cell_far (p := ⟨gb189, _, none⟩) NB191_189.out _).trans (((cell_far (p := ⟨gb189, _, none⟩) NB191_189.out _).trans (((cell_far (p := ⟨gb189, _, none⟩) NB191_189.out _).trans (((cell_far (p := ⟨gb189, _, none⟩) NB191_189.out _).trans (((cell_far (p := ⟨gb189, _, none⟩) NB191_189.out _).trans (((cell_far (p := ⟨gb189, _, none⟩) NB191_189.out _).trans (hHeld.2.2.2.2.1)))))))))))))))))))))), ((cell_far (p := ⟨gb189, _, none⟩) NB191_189.out _).trans (((cell_far (p := ⟨gb189, _, none⟩) NB191_189.out _).trans (((cell_far (p := ⟨gb189, _, none⟩) NB191_189.out _).trans (((cell_far (p := ⟨gb189, _, none⟩) NB191_189.out _).trans (((cell_far (p := ⟨gb189, _, none⟩) NB191_189.out _).trans (((cell_far (p := ⟨gb189, _, none⟩) NB191_189.out _).trans (((cell_far (p := ⟨gb189, _, none⟩) NB191_189.out _).trans (((cell_far (p := ⟨gb189, _, none⟩) NB191_189.out _).trans (((cell_far (p := ⟨gb189, _, none⟩) NB191_189.out _).trans (((cell_far (p := ⟨gb189, _, none⟩) NB191_189.out _).trans (((cell_far (p := ⟨gb189, _, none⟩) NB191_189.out _).trans (hHeld.2.2.2.2.2.1)))))))))))))))))))))), ((cell_far (p := ⟨gb189, _, none⟩) NB191_189.out _).trans (((cell_far (p := ⟨gb189, _, none⟩) NB191_189.out _).trans (((cell_far (p := ⟨gb189, _, none⟩) NB191_189.out _).trans (((cell_far (p := ⟨gb189, _, none⟩) NB191_189.out _).trans (((cell_far (p := ⟨gb189, _, none⟩) NB191_189.out _).trans (((cell_far (p := ⟨gb189, _, none⟩) NB191_189.out _).trans (((cell_far (p := ⟨gb189, _, none⟩) NB191_189.out _).trans (((cell_far (p := ⟨gb189, _, none⟩) NB191_189.out _).trans (((cell_far (p := ⟨gb189, _, none⟩) NB191_189.out _).trans (((cell_far (p := ⟨gb189, _, none⟩) NB191_189.out _).trans (((cell_far (p := ⟨gb189, _, none⟩) NB191_189.out _).trans (hHeld.2.2.2.2.2.2.1)))))))))))))))))))))), ((cell_far (p := ⟨gb189, _, none⟩) NB191_189.out _).trans (((cell_far (p := ⟨gb189, _, none⟩) NB191_189.out _).trans (((cell_far (p := ⟨gb189, _, none⟩) NB191_189.out _).trans (((cell_far (p := ⟨gb189, _, none⟩) NB191_189.out _).trans (((cell_far (p := ⟨gb189, _, none⟩) NB191_189.out _).trans (((cell_far (p := ⟨gb189, _, none⟩) NB191_189.out _).trans (((cell_far (p := ⟨gb189, _, none⟩) NB191_189.out _).trans (((cell_far (p := ⟨gb189, _, none⟩) NB191_189.out _).trans (((cell_far (p := ⟨gb189, _, none⟩) NB191_189.out _).trans (((cell_far (p := ⟨gb189, _, none⟩) NB191_189.out _).trans (((cell_far (p := ⟨gb189, _, none⟩) NB191_189.out _).trans (hHeld.2.2.2.2.2.2.2.1)))))))))))))))))))))), ((cell_far (p := ⟨gb189, _, none⟩) NB191_189.out _).trans (((cell_far (p := ⟨gb189, _, none⟩) NB191_189.out _).trans (((cell_far (p := ⟨gb189, _, none⟩) NB191_189.out _).trans (((cell_far (p := ⟨gb189, _, none⟩) NB191_189.out _).trans (((cell_far (p := ⟨gb189, _, none⟩) NB191_189.out _).trans (((cell_far (p := ⟨gb189, _, none⟩) NB191_189.out _).trans (((cell_far (p := ⟨gb189, _, none⟩) NB191_189.out _).trans (((cell_far (p := ⟨gb189, _, none⟩) NB191_189.out _).trans (((cell_far (p := ⟨gb189, _, none⟩) NB191_189.out _).trans (((cell_far (p := ⟨gb189, _, none⟩) NB191_189.out _).trans (((cell_far (p := ⟨gb189, _, none⟩) NB191_189.out _).trans (hHeld.2.2.2.2.2.2.2.2.1)))))))))))))))))))))), ((cell_far (p := ⟨gb189, _, none⟩) NB191_189.out _).trans (((cell_far (p := ⟨gb189, _, none⟩) NB191_189.out _).trans (((cell_far (p := ⟨gb189, _, none⟩) NB191_189.out _).trans (((cell_far (p := ⟨gb189, _, none⟩) NB191_189.out _).trans (((cell_far (p := ⟨gb189, _, none⟩) NB191_189.out _).trans (((cell_far (p := ⟨gb189, _, none⟩) NB191_189.out _).trans (((cell_far (p := ⟨gb189, _, none⟩) NB191_189.out _).trans (((cell_far (p := ⟨gb189, _, none⟩) NB191_189.out _).trans (((cell_far (p := ⟨gb189, _, none⟩) NB191_189.out _).trans (((cell_far (p := ⟨gb189, _, none⟩) NB191_189.out _).trans (((cell_far (p := ⟨gb189, _, none⟩) NB191_189.out _).trans (hHeld.2.2.2.2.2.2.2.2.2.1)))))))))))))))))))))), ((cell_far (p := ⟨gb189, _, none⟩) NB191_189.out _).trans (((cell_far (p := ⟨gb189, _, none⟩) NB191_189.out _).trans (((cell_far (p := ⟨gb189, _, none⟩) NB191_189.out _).trans (((cell_far (p := ⟨gb189, _, none⟩) NB191_189.out _).trans (((cell_far (p := ⟨gb189, _, none⟩) NB191_189.out _).trans (((cell_far (p := ⟨gb189, _, none⟩) NB191_189.out _).trans (((cell_far (p := ⟨gb189, _, none⟩) NB191_189.out _).trans (((cell_far (p := ⟨gb189, _, none⟩) NB191_189.out _).trans (((cell_far (p := ⟨gb189, _, none⟩) NB191_189.out _).trans (((cell_far (p := ⟨gb189, _, none⟩) NB191_189.out _).trans (((cell_far (p := ⟨gb189, _, none⟩) NB191_189.out _).trans (hHeld.2.2.2.2.2.2.2.2.2.2))))))))))))))))))))))⟩ (fun hHeld => ?_)
       clear hK K
       refine pure_ (i := 4) (N := some 12) (v := ?_) (a' := ?_) #[true, true, true, true, true] rfl rfl (by kernel_rfl) (fun _ _ _ h => h) (Or.inl ⟨by rfl, ?_⟩) ?_ ?_
       rotate_left
       ·
        intro w'
        go_simp
        with_reducible rfl
       rotate_left
       ·
        simp only [Act.put, List.setIfInBounds_toArray, List.set_cons_zero, List.set_cons_succ, i64_w, i32_w]
        rfl
       refine done_ (by kernel_rfl) ?_
       try go_wp2
       refine bodyPost_ret (results_list (rs := [.tmp 10, .cell 11 31, .tmp 12]) rfl (by simp) (.tmp (.cell gb189 31 #[.int .i64 2, .int .i64 a2, .int .i64 a4_1, .int .i64 a4_3, .int .i64 a4_4, .int .i64 a4_5, .int .i64 a4_6, .int .i64 a4_7, .int .i64 a4_8, .int .i64 a1_0, .slice Ao90 t194.length co90] (0, 0) _ rfl (by (with_reducible repeat (first | refine blk_drewN ?_ _ | refine blk_drew ?_ | refine blk_alloc ?_ _)); refine blk_put (cs := #[.int .i64 2, .int .i64 a2, .int .i64 a4_1, .int .i64 a4_3, .int .i64 a4_4, .int .i64 a4_5, .int .i64 a4_6, .int .i64 a4_7, .int .i64 a4_8, .int .i64 a1_0, .slice none 0 0]) ?_ 10 _ rfl; (with_reducible repeat (first | refine blk_drewN ?_ _ | refine blk_drew ?_ | refine blk_alloc ?_ _)); refine blk_put (cs := #[.int .i64 2, .int .i64 a2, .int .i64 a4_1, .int .i64 a4_3, .int .i64 a4_4, .int .i64 a4_5, .int .i64 a4_6, .int .i64 a4_7, .int .i64 a4_8, .int .i64 0, .slice none 0 0]) ?_ 9 _ rfl; (with_reducible repeat (first | refine blk_drewN ?_ _ | refine blk_drew ?_ | refine blk_alloc ?_ _)); refine blk_put (cs := #[.int .i64 2, .int .i64 a2, .int .i64 a4_1, .int .i64 a4_3, .int .i64 a4_4, .int .i64 a4_5, .int .i64 a4_6, .int .i64 a4_7, .int .i64 0, .int .i64 0, .slice none 0 0]) ?_ 8 _ rfl; (with_reducible repeat (first | refine blk_drewN ?_ _ | refine blk_drew ?_ | refine blk_alloc ?_ _)); refine blk_put (cs := #[.int .i64 2, .int .i64 a2, .int .i64 a4_1, .int .i64 a4_3, .int .i64 a4_4, .int .i64 a4_5, .int .i64 a4_6, .int .i64 0, .int .i64 0, .int .i64 0, .slice none 0 0]) ?_ 7 _ rfl; (with_reducible repeat (first | refine blk_drewN ?_ _ | refine blk_drew ?_ | refine blk_alloc ?_ _)); refine blk_put (cs := #[.int .i64 2, .int .i64 a2, .int .i64 a4_1, .int .i64 a4_3, .int .i64 a4_4, .int .i64 a4_5, .int .i64 0, .int .i64 0, .int .i64 0, .int .i64 0, .slice none 0 0]) ?_ 6 _ rfl; (with_reducible repeat (first | refine blk_drewN ?_ _ | refine blk_drew ?_ | refine blk_alloc ?_ _)); refine blk_put (cs := #[.int .i64 2, .int .i64 a2, .int .i64 a4_1, .int .i64 a4_3, .int .i64 a4_4, .int .i64 0, .int .i64 0, .int .i64 0, .int .i64 0, .int .i64 0, .slice none 0 0]) ?_ 5 _ rfl; (with_reducible repeat (first | refine blk_drewN ?_ _ | refine blk_drew ?_ | refine blk_alloc ?_ _)); refine blk_put (cs := #[.int .i64 2, .int .i64 a2, .int .i64 a4_1, .int .i64 a4_3, .int .i64 0, .int .i64 0, .int .i64 0, .int .i64 0, .int .i64 0, .int .i64 0, .slice none 0 0]) ?_ 4 _ rfl; (with_reducible repeat (first | refine blk_drewN ?_ _ | refine blk_drew ?_ | refine blk_alloc ?_ _)); refine blk_put (cs := #[.int .i64 2, .int .i64 a2, .int .i64 a4_1, .int .i64 0, .int .i64 0, .int .i64 0, .int .i64 0, .int .i64 0, .int .i64 0, .int .i64 0, .slice none 0 0]) ?_ 3 _ rfl; (with_reducible repeat (first | refine blk_drewN ?_ _ | refine blk_drew ?_ | refine blk_alloc ?_ _)); refine blk_put (cs := #[.int .i64 2, .int .i64 a2, .int .i64 0, .int .i64 0, .int .i64 0, .int .i64 0, .int .i64 0, .int .i64 0, .int .i64 0, .int .i64 0, .slice none 0 0]) ?_ 2 _ rfl; (with_reducible repeat (first | refine blk_drewN ?_ _ | refine blk_drew ?_ | refine blk_alloc ?_ _)); refine blk_put (cs := #[.int .i64 2, .int .i64 0, .int .i64 0, .int .i64 0, .int .i64 0, .int .i64 0, .int .i64 0, .int .i64 0, .int .i64 0, .int .i64 0, .slice none 0 0]) ?_ 1 _ rfl; (with_reducible repeat (first | refine blk_drewN ?_ _ | refine blk_drew ?_ | refine blk_alloc ?_ _)); refine blk_put (cs := #[.int .i64 0, .int .i64 0, .int .i64 0, .int .i64 0, .int .i64 0, .int .i64 0, .int .i64 0, .int .i64 0, .int .i64 0, .int .i64 0, .slice none 0 0]) ?_ 0 _ rfl; (with_reducible repeat (first | refine blk_drewN ?_ _ | refine blk_drew ?_ | refine blk_alloc ?_ _)); exact BK189.out) Try.underlying31 rfl (by kernel_rfl) (.tmp .nil)))) rfl ?_
       exact ⟨_, _, by first | rfl | (simp [errW_none, errW_some] <;> rfl) | (simp [*, errW_none, errW_some] <;> rfl), by (with_reducible repeat (first | apply Kd.V_alloc | apply Kd.V_drewN | apply Kd.V_drew)); exact Kd.V_mono (Kd.V_far (p := ⟨gb189, 10, none⟩) (Kd.V_far (p := ⟨gb189, 9, none⟩) (Kd.V_far (p := ⟨gb189, 8, none⟩) (Kd.V_far (p := ⟨gb189, 7, none⟩) (Kd.V_far (p := ⟨gb189, 6, none⟩) (Kd.V_far (p := ⟨gb189, 5, none⟩) (Kd.V_far (p := ⟨gb189, 4, none⟩) (Kd.V_far (p := ⟨gb189, 3, none⟩) (Kd.V_far (p := ⟨gb189, 2, none⟩) (Kd.V_far (p := ⟨gb189, 1, none⟩) (Kd.V_far (p := ⟨gb189, 0, none⟩) (Kd.V_mono HO_3.out (fun k_ hk => (⟨hk, hk.2.2.2.2.2.1⟩ : _ ∧ k_ ≠ gb189))) (fun _ hk => hk.2) (.int .i64 2)) (fun _ hk => hk.2) (.int .i64 a2)) (fun _ hk => hk.2) (.int .i64 a4_1)) (fun _ hk => hk.2) (.int .i64 a4_3)) (fun _ hk => hk.2) (.int .i64 a4_4)) (fun _ hk => hk.2) (.int .i64 a4_5)) (fun _ hk => hk.2) (.int .i64 a4_6)) (fun _ hk => hk.2) (.int .i64 a4_7)) (fun _ hk => hk.2) (.int .i64 a4_8)) (fun _ hk => hk.2) (.int .i64 a1_0)) (fun _ hk => hk.2) (.slice Ao90 t194.length co90)) (fun _ hk => ⟨hk.1.1, hk.1.2.1⟩), by (with_reducible repeat (first | apply Kd.R_alloc | apply Kd.R_drewN | apply Kd.R_drew)); exact Kd.R_mono (Kd.R_far (p := ⟨gb189, 10, none⟩) (Kd.R_far (p := ⟨gb189, 9, none⟩) (Kd.R_far (p := ⟨gb189, 8, none⟩) (Kd.R_far (p := ⟨gb189, 7, none⟩) (Kd.R_far (p := ⟨gb189, 6, none⟩) (Kd.R_far (p := ⟨gb189, 5, none⟩) (Kd.R_far (p := ⟨gb189, 4, none⟩) (Kd.R_far (p := ⟨gb189, 3, none⟩) (Kd.R_far (p := ⟨gb189, 2, none⟩) (Kd.R_far (p := ⟨gb189, 1, none⟩) (Kd.R_far (p := ⟨gb189, 0, none⟩) (Kd.R_types HO196.out BK189.out (by decide)) (fun _ hk => hk.2) (.int .i64 2)) (fun _ hk => hk.2) (.int .i64 a2)) (fun _ hk => hk.2) (.int .i64 a4_1)) (fun _ hk => hk.2) (.int .i64 a4_3)) (fun _ hk => hk.2) (.int .i64 a4_4)) (fun _ hk => hk.2) (.int .i64 a4_5)) (fun _ hk => hk.2) (.int .i64 a4_6)) (fun _ hk => hk.2) (.int .i64 a4_7)) (fun _ hk => hk.2) (.int .i64 a4_8)) (fun _ hk => hk.2) (.int .i64 a1_0)) (fun _ hk => hk.2) (.slice Ao90 t194.length co90)) (fun _ hk => hk.1), by repeat (first | (with_reducible first | exact HB.out | apply below_alloc | apply pw_below_drewN | apply below_drew1 | refine below_set ?_ GE186.out | refine below_set ?_ GE187.out | refine below_set ?_ GE188.out | refine below_set ?_ GE189.out | refine below_set ?_ GE191.out | refine below_set ?_ GE193.out) | exact HB.out)⟩
      ·
       replace c72 := Bool.eq_false_iff.mpr c72
       subst c72
       have H1 : (if 0 ≤ a4_5 then (if a4_5 < (l0_1.length : Int) then (if 0 ≤ a4_8 then (if a4_8 < (((rd_T61 l0_1 a4_5).f1).length : Int) then ((expert_Run.f kj7 ((rd_T63 ((rd_T61 l0_1 a4_5).f1) a4_8).f0) ((rd_T63 ((rd_T61 l0_1 a4_5).f1) a4_8).f1) l4_10).bind fun bt200 => ((ledger_Enter.f l3 a4_4 a4_5 a4_6 a4_7 bt200.1).bind fun bt204 => (some (bt204.1, 2, a2, a4_1, a4_3, a4_4, a4_5, a4_6, a4_7, a4_8, a1_0, bt200.1, true)))) else (none)) else (none)) else (none)) else (none)) = some (r1, r2, r3, r4, r5, r6, r7, r8, r9, r10, r11, r12, r13) := by rw [if_neg (show ¬ (false = true) by decide)] at H; exact H
       clear H
       have H := H1
       clear H1
       by_cases c104 : 0 ≤ a4_5
       ·
        rw [if_pos c104] at H
        have c104b0 : decide (0 ≤ a4_5) = true := decide_eq_true c104
        clear c104
        by_cases c105 : a4_5 < (l0_1.length : Int)
        ·
         rw [if_pos c105] at H
         have c105b0 : decide (a4_5 < (l0_1.length : Int)) = true := decide_eq_true c105
         clear c105
         by_cases c106 : 0 ≤ a4_8
         ·
          rw [if_pos c106] at H
          have c106b0 : decide (0 ≤ a4_8) = true := decide_eq_true c106
          clear c106
          by_cases c107 : a4_8 < (((rd_T61 l0_1 a4_5).f1).length : Int)
          ·
           rw [if_pos c107] at H
           have c107b0 : decide (a4_8 < (((rd_T61 l0_1 a4_5).f1).length : Int)) = true := decide_eq_true c107
           clear c107
           replace H := Option.bind_eq_some_iff.mp H
           obtain ⟨⟨t200, t203⟩, A1080, H⟩ := H
           replace H : ((ledger_Enter.f l3 a4_4 a4_5 a4_6 a4_7 t200).bind fun bt204 => (some (bt204.1, 2, a2, a4_1, a4_3, a4_4, a4_5, a4_6, a4_7, a4_8, a1_0, t200, true))) = some (r1, r2, r3, r4, r5, r6, r7, r8, r9, r10, r11, r12, r13) := H
           have A108 := Am A1080
           clear A1080
           replace H := Option.bind_eq_some_iff.mp H
           obtain ⟨⟨t204, t207⟩, A1090, H⟩ := H
           replace H : (some (t204, 2, a2, a4_1, a4_3, a4_4, a4_5, a4_6, a4_7, a4_8, a1_0, t200, true)) = some (r1, r2, r3, r4, r5, r6, r7, r8, r9, r10, r11, r12, r13) := H
           have A109 := Am A1090
           clear A1090
           simp only [Option.some.injEq, Prod.mk.injEq] at H
           obtain ⟨rfl, rfl, rfl, rfl, rfl, rfl, rfl, rfl, rfl, rfl, rfl, rfl, rfl⟩ := H
           have hnb110 := NB188_186.out
           have hnc110 := NB186_188.out
           have hnb111 := NB188_187.out
           have hnc111 := NB187_188.out
           have hnb112 := NB188_189.out
           have hnc112 := NB189_188.out
           have hnb113 := NB188_191.out
           have hnc113 := NB191_188.out
           have hcz114_0 : wc.cell? ⟨gb188, 0, none⟩ = some (.int .i64 a4_0) := (blk_cell BK188.out 0).trans rfl
           have hcz114_1 : wc.cell? ⟨gb188, 1, none⟩ = some (.int .i64 a4_1) := (blk_cell BK188.out 1).trans rfl
           have hcz114_2 : wc.cell? ⟨gb188, 2, none⟩ = some (.int .i64 a4_2) := (blk_cell BK188.out 2).trans rfl
           have hcz114_3 : wc.cell? ⟨gb188, 3, none⟩ = some (.int .i64 a4_3) := (blk_cell BK188.out 3).trans rfl
           have hcz114_4 : wc.cell? ⟨gb188, 4, none⟩ = some (.int .i64 a4_4) := (blk_cell BK188.out 4).trans rfl
           have hcz114_5 : wc.cell? ⟨gb188, 5, none⟩ = some (.int .i64 a4_5) := (blk_cell BK188.out 5).trans rfl
           have hcz114_6 : wc.cell? ⟨gb188, 6, none⟩ = some (.int .i64 a4_6) := (blk_cell BK188.out 6).trans rfl
           have hcz114_7 : wc.cell? ⟨gb188, 7, none⟩ = some (.int .i64 a4_7) := (blk_cell BK188.out 7).trans rfl
           have hcz114_8 : wc.cell? ⟨gb188, 8, none⟩ = some (.int .i64 a4_8) := (blk_cell BK188.out 8).trans rfl
           have hcz114_9 : wc.cell? ⟨gb188, 9, none⟩ = some (.int .i64 a4_9) := (blk_cell BK188.out 9).trans rfl
           have hcz114_10 : wc.cell? ⟨gb188, 10, none⟩ = some (.slice A4_10 l4_10.length c4_10) := (blk_cell BK188.out 10).trans rfl
           have hfz114_0 := blk_frozen BK188.out 0
           have hfz114_1 := blk_frozen BK188.out 1
           have hfz114_2 := blk_frozen BK188.out 2
           have hfz114_3 := blk_frozen BK188.out 3
           have hfz114_4 := blk_frozen BK188.out 4
           have hfz114_5 := blk_frozen BK188.out 5
           have hfz114_6 := blk_frozen BK188.out 6
           have hfz114_7 := blk_frozen BK188.out 7
           have hfz114_8 := blk_frozen BK188.out 8
           have hfz114_9 := blk_frozen BK188.out 9
           have hfz114_10 := blk_frozen BK188.out 10
           try go_wp2_with (first | ((with_reducible refine gate_dst (N := 14) rfl ?_); refine box_event ?hg (N := 14) ?hd (cs := #[.int .i64 0, .int .i64 0, .int .i64 0, .int .i64 0]) (t := 37) ?hr ?_; (case hd => rfl); (case hg => rfl); (case hr => first | (go_simp; done) | (go_simp; rfl)); intro gb193 hg w115 hbox hb; have n0_ := Am (Kd.V_below (Kd.V_elderB (by (with_reducible repeat (first | apply Kd.V_alloc | apply Kd.V_drewN | apply Kd.V_drew)); exact HO_3.out) gb193 (Nat.le_of_eq hg.symm)) hb); have n1_ := Am (blk_below (g := gb186) (o := .cells #[.int .i64 a0_0, .slice A0_1 l0_1.length c0_1] 24 (0, 0)) (by (with_reducible repeat (first | refine blk_drewN ?_ _ | refine blk_drew ?_ | refine blk_alloc ?_ _)); exact BK186.out) hb); have n2_ := Am (blk_below (g := gb187) (o := .cells #[.int .i64 a1_0, .slice A1_1 l1_1.length c1_1] 27 (0, 0)) (by (with_reducible repeat (first | refine blk_drewN ?_ _ | refine blk_drew ?_ | refine blk_alloc ?_ _)); exact BK187.out) hb); have n3_ := Am (blk_below (g := gb188) (o := .cells #[.int .i64 a4_0, .int .i64 a4_1, .int .i64 a4_2, .int .i64 a4_3, .int .i64 a4_4, .int .i64 a4_5, .int .i64 a4_6, .int .i64 a4_7, .int .i64 a4_8, .int .i64 a4_9, .slice A4_10 l4_10.length c4_10] 31 (0, 0)) (by (with_reducible repeat (first | refine blk_drewN ?_ _ | refine blk_drew ?_ | refine blk_alloc ?_ _)); exact BK188.out) hb); have n4_ := Am (blk_below (g := gb189) (o := .cells #[.int .i64 0, .int .i64 0, .int .i64 0, .int .i64 0, .int .i64 0, .int .i64 0, .int .i64 0, .int .i64 0, .int .i64 0, .int .i64 0, .slice none 0 0] 31 (0, 0)) (by (with_reducible repeat (first | refine blk_drewN ?_ _ | refine blk_drew ?_ | refine blk_alloc ?_ _)); exact BK189.out) hb); have n5_ := Am (blk_below (g := gb191) (o := .cells #[.int .i64 3, .int .i64 a2, .int .i64 a4_1, .int .i64 a4_3, .int .i64 a4_4, .int .i64 a4_5, .int .i64 a4_6, .int .i64 a4_7, .int .i64 a4_8, .int .i64 a1_0, .slice none 0 0] 31 (0, 0)) (by (with_reducible repeat (first | refine blk_drewN ?_ _ | refine blk_drew ?_ | refine blk_alloc ?_ _)); exact BK191.out) hb); have n6_ := Am (below_step (by repeat (first | (with_reducible first | exact HB.out | apply below_alloc | apply pw_below_drewN | apply below_drew1 | refine below_set ?_ GE186.out | refine below_set ?_ GE187.out | refine below_set ?_ GE188.out | refine below_set ?_ GE189.out | refine below_set ?_ GE191.out) | exact HB.out)) hb); have n7_ := Am (hbox); have n8_ := Am ((by rw [hg]; exact (below_size (by repeat (first | (with_reducible first | exact HB.out | apply below_alloc | apply pw_below_drewN | apply below_drew1 | refine below_set ?_ GE186.out | refine below_set ?_ GE187.out | refine below_set ?_ GE188.out | refine below_set ?_ GE189.out | refine below_set ?_ GE191.out) | exact HB.out))) : w.heap.size ≤ gb193)); have n9_ := Am ((by rw [hg]; exact (below_size (by repeat (first | (with_reducible first | exact HB.out | apply below_alloc | apply pw_below_drewN | apply below_drew1 | refine below_set ?_ GE186.out | refine below_set ?_ GE187.out | refine below_set ?_ GE188.out | refine below_set ?_ GE189.out | refine below_set ?_ GE191.out) | exact HB.out))) : w.heap.size ≤ gb193)); have n10_ := Am ((by rw [hg]; exact Nat.ne_of_lt (blk_lt (g := gb186) (o := .cells #[.int .i64 a0_0, .slice A0_1 l0_1.length c0_1] 24 (0, 0)) (by (with_reducible repeat (first | refine blk_drewN ?_ _ | refine blk_drew ?_ | refine blk_alloc ?_ _)); exact BK186.out)) : gb186 ≠ gb193)); have n11_ := Am ((by rw [hg]; exact Nat.ne_of_gt (blk_lt (g := gb186) (o := .cells #[.int .i64 a0_0, .slice A0_1 l0_1.length c0_1] 24 (0, 0)) (by (with_reducible repeat (first | refine blk_drewN ?_ _ | refine blk_drew ?_ | refine blk_alloc ?_ _)); exact BK186.out)) : gb193 ≠ gb186)); have n12_ := Am ((by rw [hg]; exact Nat.ne_of_lt (blk_lt (g := gb187) (o := .cells #[.int .i64 a1_0, .slice A1_1 l1_1.length c1_1] 27 (0, 0)) (by (with_reducible repeat (first | refine blk_drewN ?_ _ | refine blk_drew ?_ | refine blk_alloc ?_ _)); exact BK187.out)) : gb187 ≠ gb193)); have n13_ := Am ((by rw [hg]; exact Nat.ne_of_gt (blk_lt (g := gb187) (o := .cells #[.int .i64 a1_0, .slice A1_1 l1_1.length c1_1] 27 (0, 0)) (by (with_reducible repeat (first | refine blk_drewN ?_ _ | refine blk_drew ?_ | refine blk_alloc ?_ _)); exact BK187.out)) : gb193 ≠ gb187)); have n14_ := Am ((by rw [hg]; exact Nat.ne_of_lt (blk_lt (g := gb188) (o := .cells #[.int .i64 a4_0, .int .i64 a4_1, .int .i64 a4_2, .int .i64 a4_3, .int .i64 a4_4, .int .i64 a4_5, .int .i64 a4_6, .int .i64 a4_7, .int .i64 a4_8, .int .i64 a4_9, .slice A4_10 l4_10.length c4_10] 31 (0, 0)) (by (with_reducible repeat (first | refine blk_drewN ?_ _ | refine blk_drew ?_ | refine blk_alloc ?_ _)); exact BK188.out)) : gb188 ≠ gb193)); have n15_ := Am ((by rw [hg]; exact Nat.ne_of_gt (blk_lt (g := gb188) (o := .cells #[.int .i64 a4_0, .int .i64 a4_1, .int .i64 a4_2, .int .i64 a4_3, .int .i64 a4_4, .int .i64 a4_5, .int .i64 a4_6, .int .i64 a4_7, .int .i64 a4_8, .int .i64 a4_9, .slice A4_10 l4_10.length c4_10] 31 (0, 0)) (by (with_reducible repeat (first | refine blk_drewN ?_ _ | refine blk_drew ?_ | refine blk_alloc ?_ _)); exact BK188.out)) : gb193 ≠ gb188)); have n16_ := Am ((by rw [hg]; exact Nat.ne_of_lt (blk_lt (g := gb189) (o := .cells #[.int .i64 0, .int .i64 0, .int .i64 0, .int .i64 0, .int .i64 0, .int .i64 0, .int .i64 0, .int .i64 0, .int .i64 0, .int .i64 0, .slice none 0 0] 31 (0, 0)) (by (with_reducible repeat (first | refine blk_drewN ?_ _ | refine blk_drew ?_ | refine blk_alloc ?_ _)); exact BK189.out)) : gb189 ≠ gb193)); have n17_ := Am ((by rw [hg]; exact Nat.ne_of_gt (blk_lt (g := gb189) (o := .cells #[.int .i64 0, .int .i64 0, .int .i64 0, .int .i64 0, .int .i64 0, .int .i64 0, .int .i64 0, .int .i64 0, .int .i64 0, .int .i64 0, .slice none 0 0] 31 (0, 0)) (by (with_reducible repeat (first | refine blk_drewN ?_ _ | refine blk_drew ?_ | refine blk_alloc ?_ _)); exact BK189.out)) : gb193 ≠ gb189)); have n18_ := Am ((by rw [hg]; exact Nat.ne_of_lt (blk_lt (g := gb191) (o := .cells #[.int .i64 3, .int .i64 a2, .int .i64 a4_1, .int .i64 a4_3, .int .i64 a4_4, .int .i64 a4_5, .int .i64 a4_6, .int .i64 a4_7, .int .i64 a4_8, .int .i64 a1_0, .slice none 0 0] 31 (0, 0)) (by (with_reducible repeat (first | refine blk_drewN ?_ _ | refine blk_drew ?_ | refine blk_alloc ?_ _)); exact BK191.out)) : gb191 ≠ gb193)); have n19_ := Am ((by rw [hg]; exact Nat.ne_of_gt (blk_lt (g := gb191) (o := .cells #[.int .i64 3, .int .i64 a2, .int .i64 a4_1, .int .i64 a4_3, .int .i64 a4_4, .int .i64 a4_5, .int .i64 a4_6, .int .i64 a4_7, .int .i64 a4_8, .int .i64 a1_0, .slice none 0 0] 31 (0, 0)) (by (with_reducible repeat (first | refine blk_drewN ?_ _ | refine blk_drew ?_ | refine blk_alloc ?_ _)); exact BK191.out)) : gb193 ≠ gb191)); clear HO_3; clear BK186; clear BK187; clear BK188; clear BK189; clear BK191; clear HB; have HO_3 := n0_; have BK186 := n1_; have BK187 := n2_; have BK188 := n3_; have BK189 := n4_; have BK191 := n5_; have HB := n6_; have BK193 := n7_; have GW193 := n8_; have GE193 := n9_; have NB186_193 := n10_; have NB193_186 := n11_; have NB187_193 := n12_; have NB193_187 := n13_; have NB188_193 := n14_; have NB193_188 := n15_; have NB189_193 := n16_; have NB193_189 := n17_; have NB191_193 := n18_; have NB193_191 := n19_; clear n0_ n1_ n2_ n3_ n4_ n5_ n6_ n7_ n8_ n9_ n10_ n11_ n12_ n13_ n14_ n15_ n16_ n17_ n18_ n19_; clear hb hbox hg; have hnb116 := NB193_186.out; have hnc116 := NB186_193.out; have hnb117 := NB193_187.out; have hnc117 := NB187_193.out; have hnb118 := NB193_188.out; have hnc118 := NB188_193.out; have hnb119 := NB193_189.out; have hnc119 := NB189_193.out; have hnb120 := NB193_191.out; have hnc120 := NB191_193.out; have hcz121_0 : w115.cell? ⟨gb193, 0, none⟩ = some (.int .i64 0) := (blk_cell BK193.out 0).trans rfl; have hcz121_1 : w115.cell? ⟨gb193, 1, none⟩ = some (.int .i64 0) := (blk_cell BK193.out 1).trans rfl; have hcz121_2 : w115.cell? ⟨gb193, 2, none⟩ = some (.int .i64 0) := (blk_cell BK193.out 2).trans rfl; have hcz121_3 : w115.cell? ⟨gb193, 3, none⟩ = some (.int .i64 0) := (blk_cell BK193.out 3).trans rfl; have hfz121_0 := blk_frozen BK193.out 0; have hfz121_1 := blk_frozen BK193.out 1; have hfz121_2 := blk_frozen BK193.out 2; have hfz121_3 := blk_frozen BK193.out 3) | ((with_reducible refine gate_callee (f := 18) rfl ?_); refine goesL_ (some 63) rfl rfl Try.func18 (by kernel_rfl) rfl #[.slice A3 l3.length c3, .agg #[.int .i64 a4_4, .int .i64 a4_5, .int .i64 a4_6, .int .i64 a4_7]] rfl (by (try simp only [List.map_toArray, List.map_cons, List.map_nil]); first | done | rfl | (simp only [List.length_drop, List.length_take]; rfl)) ?_; (with_reducible refine (ledger_Find.calls _ _ l3 a4_4 a4_5 a4_6 a4_7 t194 false _ ?side1 ?side2 A71.out).mono ?_); (case side1 => refine (Kd.V_reads' (e := 39) (base := w.heap.size) (ok := fun k_ => ((((P3_ k_ ∨ w.heap.size ≤ k_)) ∧ (k_ ≠ gb186 ∧ (k_ ≠ gb187 ∧ (k_ ≠ gb188 ∧ (k_ ≠ gb189 ∧ k_ ≠ gb191))))) ∧ k_ ≠ gb193)) (n := l3.length) (c := c3) ?_).2.2; exact (by (with_reducible repeat (first | apply Kd.V_alloc | apply Kd.V_drewN | apply Kd.V_drew)); exact (Kd.V_mono (Kd.V_far (p := ⟨gb193, 3, none⟩) (Kd.V_far (p := ⟨gb193, 2, none⟩) (Kd.V_far (p := ⟨gb193, 1, none⟩) (Kd.V_far (p := ⟨gb193, 0, none⟩) (Kd.V_mono HO_3.out (fun k_ hk => (⟨hk, hk.2⟩ : _ ∧ k_ ≠ gb193))) (fun _ hk => hk.2) (.int .i64 a4_4)) (fun _ hk => hk.2) (.int .i64 a4_5)) (fun _ hk => hk.2) (.int .i64 a4_6)) (fun _ hk => hk.2) (.int .i64 a4_7)) (fun _ h_ => h_.1)))); (case side2 => exact (Kd.V_reads' HO_3.out).2.1); rintro e w122 ⟨v195, rfl, ho0, hb⟩; refine ⟨_, rfl, ?_⟩; have n0_ := Am (Kd.V_elder' (by (with_reducible repeat (first | apply Kd.V_alloc | apply Kd.V_drewN | apply Kd.V_drew)); exact (Kd.V_mono (Kd.V_far (p := ⟨gb193, 3, none⟩) (Kd.V_far (p := ⟨gb193, 2, none⟩) (Kd.V_far (p := ⟨gb193, 1, none⟩) (Kd.V_far (p := ⟨gb193, 0, none⟩) (Kd.V_mono HO_3.out (fun k_ hk => (⟨hk, hk.2⟩ : _ ∧ k_ ≠ gb193))) (fun _ hk => hk.2) (.int .i64 a4_4)) (fun _ hk => hk.2) (.int .i64 a4_5)) (fun _ hk => hk.2) (.int .i64 a4_6)) (fun _ hk => hk.2) (.int .i64 a4_7)) (fun _ h_ => h_.1))) (Kd.R_base ho0) hb); have n1_ := Am (Kd.R_lower (Kd.R_newM (M := fun k_ => (w.heap.size ≤ k_)) ho0 (below_size (by repeat (first | (with_reducible first | exact HB.out | apply below_alloc | apply pw_below_drewN | apply below_drew1 | refine below_set ?_ GE186.out | refine below_set ?_ GE187.out | refine below_set ?_ GE188.out | refine below_set ?_ GE189.out | refine below_set ?_ GE191.out | refine below_set ?_ GE193.out) | exact HB.out))) (fun k_ h_ => h_)) (below_size (by repeat (first | (with_reducible first | exact HB.out | apply below_alloc | apply pw_below_drewN | apply below_drew1 | refine below_set ?_ GE186.out | refine below_set ?_ GE187.out | refine below_set ?_ GE188.out | refine below_set ?_ GE189.out | refine below_set ?_ GE191.out | refine below_set ?_ GE193.out) | exact HB.out)))); have n2_ := Am (blk_below (g := gb186) (o := .cells #[.int .i64 a0_0, .slice A0_1 l0_1.length c0_1] 24 (0, 0)) (by (with_reducible repeat (first | refine blk_drewN ?_ _ | refine blk_drew ?_ | refine blk_alloc ?_ _)); refine blk_far ?_ NB186_193.out _; (with_reducible repeat (first | refine blk_drewN ?_ _ | refine blk_drew ?_ | refine blk_alloc ?_ _)); refine blk_far ?_ NB186_193.out _; (with_reducible repeat (first | refine blk_drewN ?_ _ | refine blk_drew ?_ | refine blk_alloc ?_ _)); refine blk_far ?_ NB186_193.out _; (with_reducible repeat (first | refine blk_drewN ?_ _ | refine blk_drew ?_ | refine blk_alloc ?_ _)); refine blk_far ?_ NB186_193.out _; (with_reducible repeat (first | refine blk_drewN ?_ _ | refine blk_drew ?_ | refine blk_alloc ?_ _)); exact BK186.out) hb); have n3_ := Am (blk_below (g := gb187) (o := .cells #[.int .i64 a1_0, .slice A1_1 l1_1.length c1_1] 27 (0, 0)) (by (with_reducible repeat (first | refine blk_drewN ?_ _ | refine blk_drew ?_ | refine blk_alloc ?_ _)); refine blk_far ?_ NB187_193.out _; (with_reducible repeat (first | refine blk_drewN ?_ _ | refine blk_drew ?_ | refine blk_alloc ?_ _)); refine blk_far ?_ NB187_193.out _; (with_reducible repeat (first | refine blk_drewN ?_ _ | refine blk_drew ?_ | refine blk_alloc ?_ _)); refine blk_far ?_ NB187_193.out _; (with_reducible repeat (first | refine blk_drewN ?_ _ | refine blk_drew ?_ | refine blk_alloc ?_ _)); refine blk_far ?_ NB187_193.out _; (with_reducible repeat (first | refine blk_drewN ?_ _ | refine blk_drew ?_ | refine blk_alloc ?_ _)); exact BK187.out) hb); have n4_ := Am (blk_below (g := gb188) (o := .cells #[.int .i64 a4_0, .int .i64 a4_1, .int .i64 a4_2, .int .i64 a4_3, .int .i64 a4_4, .int .i64 a4_5, .int .i64 a4_6, .int .i64 a4_7, .int .i64 a4_8, .int .i64 a4_9, .slice A4_10 l4_10.length c4_10] 31 (0, 0)) (by (with_reducible repeat (first | refine blk_drewN ?_ _ | refine blk_drew ?_ | refine blk_alloc ?_ _)); refine blk_far ?_ NB188_193.out _; (with_reducible repeat (first | refine blk_drewN ?_ _ | refine blk_drew ?_ | refine blk_alloc ?_ _)); refine blk_far ?_ NB188_193.out _; (with_reducible repeat (first | refine blk_drewN ?_ _ | refine blk_drew ?_ | refine blk_alloc ?_ _)); refine blk_far ?_ NB188_193.out _; (with_reducible repeat (first | refine blk_drewN ?_ _ | refine blk_drew ?_ | refine blk_alloc ?_ _)); refine blk_far ?_ NB188_193.out _; (with_reducible repeat (first | refine blk_drewN ?_ _ | refine blk_drew ?_ | refine blk_alloc ?_ _)); exact BK188.out) hb); have n5_ := Am (blk_below (g := gb189) (o := .cells #[.int .i64 0, .int .i64 0, .int .i64 0, .int .i64 0, .int .i64 0, .int .i64 0, .int .i64 0, .int .i64 0, .int .i64 0, .int .i64 0, .slice none 0 0] 31 (0, 0)) (by (with_reducible repeat (first | refine blk_drewN ?_ _ | refine blk_drew ?_ | refine blk_alloc ?_ _)); refine blk_far ?_ NB189_193.out _; (with_reducible repeat (first | refine blk_drewN ?_ _ | refine blk_drew ?_ | refine blk_alloc ?_ _)); refine blk_far ?_ NB189_193.out _; (with_reducible repeat (first | refine blk_drewN ?_ _ | refine blk_drew ?_ | refine blk_alloc ?_ _)); refine blk_far ?_ NB189_193.out _; (with_reducible repeat (first | refine blk_drewN ?_ _ | refine blk_drew ?_ | refine blk_alloc ?_ _)); refine blk_far ?_ NB189_193.out _; (with_reducible repeat (first | refine blk_drewN ?_ _ | refine blk_drew ?_ | refine blk_alloc ?_ _)); exact BK189.out) hb); have n6_ := Am (blk_below (g := gb191) (o := .cells #[.int .i64 3, .int .i64 a2, .int .i64 a4_1, .int .i64 a4_3, .int .i64 a4_4, .int .i64 a4_5, .int .i64 a4_6, .int .i64 a4_7, .int .i64 a4_8, .int .i64 a1_0, .slice none 0 0] 31 (0, 0)) (by (with_reducible repeat (first | refine blk_drewN ?_ _ | refine blk_drew ?_ | refine blk_alloc ?_ _)); refine blk_far ?_ NB191_193.out _; (with_reducible repeat (first | refine blk_drewN ?_ _ | refine blk_drew ?_ | refine blk_alloc ?_ _)); refine blk_far ?_ NB191_193.out _; (with_reducible repeat (first | refine blk_drewN ?_ _ | refine blk_drew ?_ | refine blk_alloc ?_ _)); refine blk_far ?_ NB191_193.out _; (with_reducible repeat (first | refine blk_drewN ?_ _ | refine blk_drew ?_ | refine blk_alloc ?_ _)); refine blk_far ?_ NB191_193.out _; (with_reducible repeat (first | refine blk_drewN ?_ _ | refine blk_drew ?_ | refine blk_alloc ?_ _)); exact BK191.out) hb); have n7_ := Am (blk_below (g := gb193) (o := .cells #[.int .i64 a4_4, .int .i64 a4_5, .int .i64 a4_6, .int .i64 a4_7] 37 (0, 0)) (by (with_reducible repeat (first | refine blk_drewN ?_ _ | refine blk_drew ?_ | refine blk_alloc ?_ _)); refine blk_put (cs := #[.int .i64 a4_4, .int .i64 a4_5, .int .i64 a4_6, .int .i64 0]) ?_ 3 _ rfl; (with_reducible repeat (first | refine blk_drewN ?_ _ | refine blk_drew ?_ | refine blk_alloc ?_ _)); refine blk_put (cs := #[.int .i64 a4_4, .int .i64 a4_5, .int .i64 0, .int .i64 0]) ?_ 2 _ rfl; (with_reducible repeat (first | refine blk_drewN ?_ _ | refine blk_drew ?_ | refine blk_alloc ?_ _)); refine blk_put (cs := #[.int .i64 a4_4, .int .i64 0, .int .i64 0, .int .i64 0]) ?_ 1 _ rfl; (with_reducible repeat (first | refine blk_drewN ?_ _ | refine blk_drew ?_ | refine blk_alloc ?_ _)); refine blk_put (cs := #[.int .i64 0, .int .i64 0, .int .i64 0, .int .i64 0]) ?_ 0 _ rfl; (with_reducible repeat (first | refine blk_drewN ?_ _ | refine blk_drew ?_ | refine blk_alloc ?_ _)); exact BK193.out) hb); have n8_ := Am (below_step (by repeat (first | (with_reducible first | exact HB.out | apply below_alloc | apply pw_below_drewN | apply below_drew1 | refine below_set ?_ GE186.out | refine below_set ?_ GE187.out | refine below_set ?_ GE188.out | refine below_set ?_ GE189.out | refine below_set ?_ GE191.out | refine below_set ?_ GE193.out) | exact HB.out)) hb); clear HO_3; clear BK186; clear BK187; clear BK188; clear BK189; clear BK191; clear BK193; clear HB; have HO_3 := n0_; have HO196 := n1_; have BK186 := n2_; have BK187 := n3_; have BK188 := n4_; have BK189 := n5_; have BK191 := n6_; have BK193 := n7_; have HB := n8_; clear n0_ n1_ n2_ n3_ n4_ n5_ n6_ n7_ n8_; (try clear hb); (try clear hb2); (try clear hk); (try clear hi); (try clear ho0)))
           have n0_ := Am (Kd.V_drew HO_3.out)
           have n1_ := Am (Kd.R_drew HO196.out)
           have n2_ := Am (blk_drew BK186.out)
           have n3_ := Am (blk_drew BK187.out)
           have n4_ := Am (blk_drew BK188.out)
           have n5_ := Am (blk_drew BK189.out)
           have n6_ := Am (blk_drew BK191.out)
           have n7_ := Am (blk_drew BK193.out)
           have n8_ := Am (below_drew1 HB.out)
           clear HO_3
           clear HO196
           clear BK186
           clear BK187
           clear BK188
           clear BK189
           clear BK191
           clear BK193
           clear HB
           have HO_3 := n0_
           have HO196 := n1_
           have BK186 := n2_
           have BK187 := n3_
           have BK188 := n4_
           have BK189 := n5_
           have BK191 := n6_
           have BK193 := n7_
           have HB := n8_
           clear n0_ n1_ n2_ n3_ n4_ n5_ n6_ n7_ n8_
           have p198 : 0 ≤ (a4_5 : Int) := of_decide_eq_true (by first | (with_reducible assumption) | assumption)
           have q198 : a4_5 < (l0_1.length : Int) := of_decide_eq_true (by first | (with_reducible assumption) | assumption)
           obtain ⟨ad198, A198_0, c198_0, A198_1, c198_1, e198, hx198_0, hx198_1, hx198_2, hl198_0, hi198_0, hl198_1, hi198_1⟩ := at_T61 HR0_1.out a4_5 p198 q198
           have hw198_2 := hx198_2
           have hw198_1 := hx198_1
           have hw198_0 := hx198_0
           cases e198
           replace hx198_0 := (HB.out.cell (World.block_lt_of_cell? w _ hx198_0)).trans hx198_0
           replace hx198_1 := (HB.out.cell (World.block_lt_of_cell? w _ hx198_1)).trans hx198_1
           replace hx198_2 := (HB.out.cell (World.block_lt_of_cell? w _ hx198_2)).trans hx198_2
           have HR198_0 := Am hi198_0
           have HC198_0 := Am hl198_0
           clear hi198_0 hl198_0
           have HR198_1 := Am hi198_1
           have HC198_1 := Am hl198_1
           clear hi198_1 hl198_1
           replace p198 := eq_true p198
           replace q198 := eq_true q198
           have p199 : 0 ≤ (a4_8 : Int) := of_decide_eq_true (by first | (with_reducible assumption) | assumption)
           have q199 : a4_8 < (((rd_T61 l0_1 a4_5).f1).length : Int) := of_decide_eq_true (by first | (with_reducible assumption) | assumption)
           obtain ⟨ad199, A199_0, c199_0, A199_1, c199_1, e199, hx199_0, hx199_1, hl199_0, hi199_0, hl199_1, hi199_1⟩ := at_T63 HR198_1.out a4_8 p199 q199
           have hw199_1 := hx199_1
           have hw199_0 := hx199_0
           cases e199
           replace hx199_0 := (HB.out.cell (World.block_lt_of_cell? w _ hx199_0)).trans hx199_0
           replace hx199_1 := (HB.out.cell (World.block_lt_of_cell? w _ hx199_1)).trans hx199_1
           have HR199_0 := Am hi199_0
           have HC199_0 := Am hl199_0
           clear hi199_0 hl199_0
           have HR199_1 := Am hi199_1
           have HC199_1 := Am hl199_1
           clear hi199_1 hl199_1
           replace p199 := eq_true p199
           replace q199 := eq_true q199
           refine start_ (n := 18) (S := fun w' => w'.cell? ⟨gb186, 0, none⟩ = some (.int .i64 a0_0) ∧ w'.cell? ⟨gb186, 1, none⟩ = some (.slice (some ad198) l0_1.length c0_1) ∧ w'.cell? ⟨gb188, 0, none⟩ = some (.int .i64 a4_0) ∧ w'.cell? ⟨gb188, 1, none⟩ = some (.int .i64 a4_1) ∧ w'.cell? ⟨gb188, 2, none⟩ = some (.int .i64 a4_2) ∧ w'.cell? ⟨gb188, 3, none⟩ = some (.int .i64 a4_3) ∧ w'.cell? ⟨gb188, 4, none⟩ = some (.int .i64 a4_4) ∧ w'.cell? ⟨gb188, 5, none⟩ = some (.int .i64 a4_5) ∧ w'.cell? ⟨gb188, 6, none⟩ = some (.int .i64 a4_6) ∧ w'.cell? ⟨gb188, 7, none⟩ = some (.int .i64 a4_7) ∧ w'.cell? ⟨gb188, 8, none⟩ = some (.int .i64 a4_8) ∧ w'.cell? ⟨gb188, 9, none⟩ = some (.int .i64 a4_9) ∧ w'.cell? ⟨gb188, 10, none⟩ = some (.slice A4_10 l4_10.length c4_10) ∧ w'.cell? (ad198.add ((a4_5).toNat * 3)) = some (.slice A198_0 ((rd_T61 l0_1 a4_5).f0).length c198_0) ∧ w'.cell? ⟨(ad198.add ((a4_5).toNat * 3)).block, (ad198.add ((a4_5).toNat * 3)).off + 1, none⟩ = some (.slice (some ad199) ((rd_T61 l0_1 a4_5).f1).length c198_1) ∧ w'.cell? ⟨(ad198.add ((a4_5).toNat * 3)).block, (ad198.add ((a4_5).toNat * 3)).off + 2, none⟩ = some (.int .i64 ((rd_T61 l0_1 a4_5).f2)) ∧ w'.cell? (ad199.add ((a4_8).toNat * 2)) = some (.slice A199_0 ((rd_T63 ((rd_T61 l0_1 a4_5).f1) a4_8).f0).length c199_0) ∧ w'.cell? ⟨(ad199.add ((a4_8).toNat * 2)).block, (ad199.add ((a4_8).toNat * 2)).off + 1, none⟩ = some (.slice A199_1 ((rd_T63 ((rd_T61 l0_1 a4_5).f1) a4_8).f1).length c199_1)) (ds := []) node_Work.m16 (by kernel_rfl) rfl rfl ⟨(blk_cell BK186.out 0).trans rfl, (blk_cell BK186.out 1).trans rfl, (blk_cell BK188.out 0).trans rfl, (blk_cell BK188.out 1).trans rfl, (blk_cell BK188.out 2).trans rfl, (blk_cell BK188.out 3).trans rfl, (blk_cell BK188.out 4).trans rfl, (blk_cell BK188.out 5).trans rfl, (blk_cell BK188.out 6).trans rfl, (blk_cell BK188.out 7).trans rfl, (blk_cell BK188.out 8).trans rfl, (blk_cell BK188.out 9).trans rfl, (blk_cell BK188.out 10).trans rfl, ((HB.out.cell (World.block_lt_of_cell? w _ hw198_0)).trans hw198_0), ((HB.out.cell (World.block_lt_of_cell? w _ hw198_1)).trans hw198_1), ((HB.out.cell (World.block_lt_of_cell? w _ hw198_2)).trans hw198_2), ((HB.out.cell (World.block_lt_of_cell? w _ hw199_0)).trans hw199_0), ((HB.out.cell (World.block_lt_of_cell? w _ hw199_1)).trans hw199_1)⟩ (fun hHeld => ?_); refine with_tabW node_Work.tab10 node_Work.bits10 (fun HT_ HW_ => ?_)
           generalize w122.drew = w123 at HO_3 HO196 BK186 BK187 BK188 BK189 BK191 BK193 HB HR198_0 HR198_1 HR199_0 HR199_1 hx198_0 hx198_1 hx198_2 hx199_0 hx199_1 hHeld ⊢
           refine pure_ (i := 0) (N := some 69) (v := ?_) (a' := ?_) node_Work.m17 rfl rfl (any_of HT_.out (by kernel_rfl)) (fun _ _ _ h => h) (Or.inl ⟨by rfl, ?_⟩) ?_ ?_
           rotate_left
           ·
            intro w'
            go_simp
            with_reducible rfl
           rotate_left
           ·
            simp only [Act.put, List.setIfInBounds_toArray, List.set_cons_zero, List.set_cons_succ, i64_w, i32_w]
            rfl
           refine pure_ (i := 2) (N := some 71) (v := ?_) (a' := ?_) node_Work.m18 rfl rfl (any_of HT_.out (by kernel_rfl)) (fun _ _ _ h => h) (Or.inl ⟨by rfl, ?_⟩) ?_ ?_
           rotate_left
           ·
            intro w'
            go_simp
            with_reducible rfl
           rotate_left
           ·
            simp only [Act.put, List.setIfInBounds_toArray, List.set_cons_zero, List.set_cons_succ, i64_w, i32_w]
            rfl
           refine pure_ (i := 7) (N := some 76) (v := ?_) (a' := ?_) node_Work.m19 rfl rfl (any_of HT_.out (by kernel_rfl)) (fun _ _ _ h => h) (Or.inl ⟨by rfl, ?_⟩) ?_ ?_
           rotate_left
           ·
            intro w'
            go_simp
            with_reducible rfl
           rotate_left
           ·
            simp only [Act.put, List.setIfInBounds_toArray, List.set_cons_zero, List.set_cons_succ, i64_w, i32_w]
            rfl
           refine pure_ (i := 11) (N := some 80) (v := ?_) (a' := ?_) node_Work.m20 rfl rfl (any_of HT_.out (by kernel_rfl)) (fun _ _ _ h => h) (Or.inl ⟨by rfl, ?_⟩) ?_ ?_
           rotate_left
           ·
            intro w'
            go_simp
            with_reducible rfl
           rotate_left
           ·
            simp only [Act.put, List.setIfInBounds_toArray, List.set_cons_zero, List.set_cons_succ, i64_w, i32_w]
            rfl
           refine take_ (i := 1) (N := some 70) (v := ?_) (a' := ?_) node_Work.m21 rfl rfl (take_ofW HT_.out HW_.out (by kernel_rfl)) (fun _ _ _ h => h) (Or.inl ⟨by rfl, ?_⟩) hHeld ?_ ?_
           rotate_left
           ·
            rintro w' ⟨s0, s1, s2, s3, s4, s5, s6, s7, s8, s9, s10, s11, s12, s13, s14, s15, s16, s17⟩
            go_simp
            with_reducible rfl
           rotate_left
           ·
            simp only [Act.put, List.setIfInBounds_toArray, List.set_cons_zero, List.set_cons_succ, i64_w, i32_w]
            rfl
           refine take_ (i := 3) (N := some 72) (v := ?_) (a' := ?_) node_Work.m22 rfl rfl (take_ofW HT_.out HW_.out (by kernel_rfl)) (fun _ _ _ h => h) (Or.inl ⟨by rfl, ?_⟩) hHeld ?_ ?_
           rotate_left
           ·
            rintro w' ⟨s0, s1, s2, s3, s4, s5, s6, s7, s8, s9, s10, s11, s12, s13, s14, s15, s16, s17⟩
            go_simp
            with_reducible rfl
           rotate_left
           ·
            simp only [Act.put, List.setIfInBounds_toArray, List.set_cons_zero, List.set_cons_succ, i64_w, i32_w]
            rfl
           refine pure_ (i := 4) (N := some 73) (v := ?_) (a' := ?_) node_Work.m23 rfl rfl (any_of HT_.out (by kernel_rfl)) (fun _ _ _ h => h) (Or.inl ⟨by rfl, ?_⟩) ?_ ?_
           rotate_left
           ·
            intro w'
            go_simp
            with_reducible rfl
           rotate_left
           ·
            simp only [Act.put, List.setIfInBounds_toArray, List.set_cons_zero, List.set_cons_succ, i64_w, i32_w]
            rfl
           refine pure_ (i := 5) (N := some 74) (v := ?_) (a' := ?_) node_Work.m24 rfl rfl (any_of HT_.out (by kernel_rfl)) (fun _ _ _ h => h) (Or.inl ⟨by rfl, ?_⟩) ?_ ?_
           rotate_left
           ·
            intro w'
            go_simp
            with_reducible rfl
           rotate_left
           ·
            simp only [Act.put, List.setIfInBounds_toArray, List.set_cons_zero, List.set_cons_succ, i64_w, i32_w]
            rfl
           refine take_ (i := 6) (N := some 75) (v := ?_) (a' := ?_) node_Work.m25 rfl rfl (take_ofW HT_.out HW_.out (by kernel_rfl)) (fun _ _ _ h => h) (Or.inl ⟨by rfl, ?_⟩) hHeld ?_ ?_
           rotate_left
           ·
            rintro w' ⟨s0, s1, s2, s3, s4, s5, s6, s7, s8, s9, s10, s11, s12, s13, s14, s15, s16, s17⟩
            go_simp
            with_reducible rfl
           rotate_left
           ·
            simp only [Act.put, List.setIfInBounds_toArray, List.set_cons_zero, List.set_cons_succ, i64_w, i32_w]
            rfl
           refine take_ (i := 8) (N := some 77) (v := ?_) (a' := ?_) node_Work.m26 rfl rfl (take_ofW HT_.out HW_.out (by kernel_rfl)) (fun _ _ _ h => h) (Or.inl ⟨by rfl, ?_⟩) hHeld ?_ ?_
           rotate_left
           ·
            rintro w' ⟨s0, s1, s2, s3, s4, s5, s6, s7, s8, s9, s10, s11, s12, s13, s14, s15, s16, s17⟩
            go_simp
            with_reducible rfl
           rotate_left
           ·
            simp only [Act.put, List.setIfInBounds_toArray, List.set_cons_zero, List.set_cons_succ, i64_w, i32_w]
            rfl
           refine pure_ (i := 9) (N := some 78) (v := ?_) (a' := ?_) node_Work.m27 rfl rfl (any_of HT_.out (by kernel_rfl)) (fun _ _ _ h => h) (Or.inl ⟨by rfl, ?_⟩) ?_ ?_
           rotate_left
           ·
            intro w'
            go_simp
            with_reducible rfl
           rotate_left
           ·
            simp only [Act.put, List.setIfInBounds_toArray, List.set_cons_zero, List.set_cons_succ, i64_w, i32_w]
            rfl
           refine take_ (i := 10) (N := some 79) (v := ?_) (a' := ?_) node_Work.m28 rfl rfl (take_ofW HT_.out HW_.out (by kernel_rfl)) (fun _ _ _ h => h) (Or.inl ⟨by rfl, ?_⟩) hHeld ?_ ?_
           rotate_left
           ·
            rintro w' ⟨s0, s1, s2, s3, s4, s5, s6, s7, s8, s9, s10, s11, s12, s13, s14, s15, s16, s17⟩
            go_simp
            with_reducible rfl
           rotate_left
           ·
            simp only [Act.put, List.setIfInBounds_toArray, List.set_cons_zero, List.set_cons_succ, i64_w, i32_w]
            rfl
           refine take_ (i := 12) (N := some 81) (v := ?_) (a' := ?_) node_Work.m29 rfl rfl (take_ofW HT_.out HW_.out (by kernel_rfl)) (fun _ _ _ h => h) (Or.inl ⟨by rfl, ?_⟩) hHeld ?_ ?_
           rotate_left
           ·
            rintro w' ⟨s0, s1, s2, s3, s4, s5, s6, s7, s8, s9, s10, s11, s12, s13, s14, s15, s16, s17⟩
            go_simp
            with_reducible rfl
           rotate_left
           ·
            simp only [Act.put, List.setIfInBounds_toArray, List.set_cons_zero, List.set_cons_succ, i64_w, i32_w]
            rfl
           refine one_ (i := 13) (N := some 82) node_Work.m30 rfl rfl (one_of HT_.out (by kernel_rfl)) (by decide) (fun K hK => ?_)
           refine goes_ Try.func19 (by kernel_rfl) rfl #[.agg #[.slice A199_0 ((rd_T63 ((rd_T61 l0_1 a4_5).f1) a4_8).f0).length c199_0, .slice A199_1 ((rd_T63 ((rd_T61 l0_1 a4_5).f1) a4_8).f1).length c199_1], .slice A4_10 l4_10.length c4_10] (by rfl) rfl rfl (by (try simp only [List.map_toArray, List.map_cons, List.map_nil]); first | done | rfl | (simp only [List.length_drop, List.length_take]; rfl)) ?_
           with_reducible refine (expert_Run.calls kj7 _ _ ((rd_T63 ((rd_T61 l0_1 a4_5).f1) a4_8).f0) _ _ ((rd_T63 ((rd_T61 l0_1 a4_5).f1) a4_8).f1) _ _ l4_10 t200 t203 _ ?side1 ?side2 ?side3 ?side4 ?side5 ?side6 A108.out).mono ?_
           (case side1 => repeat (first | exact (Kd.C_below HR199_0.out HB.out) | (with_reducible refine Kd.C_alloc ?_ _) | (with_reducible refine Kd.C_drewN ?_ _) | (with_reducible refine Kd.C_drew ?_)))
           (case side2 => exact HC199_0.out)
           (case side3 => repeat (first | exact (Kd.C_below HR199_1.out HB.out) | (with_reducible refine Kd.C_alloc ?_ _) | (with_reducible refine Kd.C_drewN ?_ _) | (with_reducible refine Kd.C_drew ?_)))
           (case side4 => exact HC199_1.out)
           (case side5 => repeat (first | exact (Kd.C_below HR4_10.out HB.out) | (with_reducible refine Kd.C_alloc ?_ _) | (with_reducible refine Kd.C_drewN ?_ _) | (with_reducible refine Kd.C_drew ?_)))
           (case side6 => exact HC4_10.out)
           rintro e w124 ⟨v201, rfl, ho0, hb⟩
           refine ⟨_, rfl, ?_⟩
           have n0_ := Am (Kd.V_elder' (by (with_reducible repeat (first | apply Kd.V_alloc | apply Kd.V_drewN | apply Kd.V_drew)); exact HO_3.out) (Kd.R_base ho0) hb)
           have n1_ := Am (Kd.R_elder' (by (with_reducible repeat (first | apply Kd.R_alloc | apply Kd.R_drewN | apply Kd.R_drew)); exact HO196.out) (Kd.R_base ho0) hb)
           have n2_ := Am (Kd.R_lower (Kd.R_new' (Kd.R_newM (M := fun k_ => (w.heap.size ≤ k_)) ho0 (below_size (by repeat (first | (with_reducible first | exact HB.out | apply below_alloc | apply pw_below_drewN | apply below_drew1 | refine below_set ?_ GE186.out | refine below_set ?_ GE187.out | refine below_set ?_ GE188.out | refine below_set ?_ GE189.out | refine below_set ?_ GE191.out | refine below_set ?_ GE193.out) | exact HB.out))) (fun k_ h_ => h_)) (Kd.R_lt (by (with_reducible repeat (first | apply Kd.R_alloc | apply Kd.R_drewN | apply Kd.R_drew)); exact HO196.out))) (below_size (by repeat (first | (with_reducible first | exact HB.out | apply below_alloc | apply pw_below_drewN | apply below_drew1 | refine below_set ?_ GE186.out | refine below_set ?_ GE187.out | refine below_set ?_ GE188.out | refine below_set ?_ GE189.out | refine below_set ?_ GE191.out | refine below_set ?_ GE193.out) | exact HB.out))))
           have n3_ := Am (blk_below (g := gb186) (o := .cells #[.int .i64 a0_0, .slice (some ad198) l0_1.length c0_1] 24 (0, 0)) (by (with_reducible repeat (first | refine blk_drewN ?_ _ | refine blk_drew ?_ | refine blk_alloc ?_ _)); exact BK186.out) hb)
           have n4_ := Am (blk_below (g := gb187) (o := .cells #[.int .i64 a1_0, .slice A1_1 l1_1.length c1_1] 27 (0, 0)) (by (with_reducible repeat (first | refine blk_drewN ?_ _ | refine blk_drew ?_ | refine blk_alloc ?_ _)); exact BK187.out) hb)
           have n5_ := Am (blk_below (g := gb188) (o := .cells #[.int .i64 a4_0, .int .i64 a4_1, .int .i64 a4_2, .int .i64 a4_3, .int .i64 a4_4, .int .i64 a4_5, .int .i64 a4_6, .int .i64 a4_7, .int .i64 a4_8, .int .i64 a4_9, .slice A4_10 l4_10.length c4_10] 31 (0, 0)) (by (with_reducible repeat (first | refine blk_drewN ?_ _ | refine blk_drew ?_ | refine blk_alloc ?_ _)); exact BK188.out) hb)
           have n6_ := Am (blk_below (g := gb189) (o := .cells #[.int .i64 0, .int .i64 0, .int .i64 0, .int .i64 0, .int .i64 0, .int .i64 0, .int .i64 0, .int .i64 0, .int .i64 0, .int .i64 0, .slice none 0 0] 31 (0, 0)) (by (with_reducible repeat (first | refine blk_drewN ?_ _ | refine blk_drew ?_ | refine blk_alloc ?_ _)); exact BK189.out) hb)
           have n7_ := Am (blk_below (g := gb191) (o := .cells #[.int .i64 3, .int .i64 a2, .int .i64 a4_1, .int .i64 a4_3, .int .i64 a4_4, .int .i64 a4_5, .int .i64 a4_6, .int .i64 a4_7, .int .i64 a4_8, .int .i64 a1_0, .slice none 0 0] 31 (0, 0)) (by (with_reducible repeat (first | refine blk_drewN ?_ _ | refine blk_drew ?_ | refine blk_alloc ?_ _)); exact BK191.out) hb)
           have n8_ := Am (blk_below (g := gb193) (o := .cells #[.int .i64 a4_4, .int .i64 a4_5, .int .i64 a4_6, .int .i64 a4_7] 37 (0, 0)) (by (with_reducible repeat (first | refine blk_drewN ?_ _ | refine blk_drew ?_ | refine blk_alloc ?_ _)); exact BK193.out) hb)
           have n9_ := Am (below_step (by repeat (first | (with_reducible first | exact HB.out | apply below_alloc | apply pw_below_drewN | apply below_drew1 | refine below_set ?_ GE186.out | refine below_set ?_ GE187.out | refine below_set ?_ GE188.out | refine below_set ?_ GE189.out | refine below_set ?_ GE191.out | refine below_set ?_ GE193.out) | exact HB.out)) hb)
           clear HO_3
           clear HO196
           clear BK186
           clear BK187
           clear BK188
           clear BK189
           clear BK191
           clear BK193
           clear HB
           have HO_3 := n0_
           have HO196 := n1_
           have HO202 := n2_
           have BK186 := n3_
           have BK187 := n4_
           have BK188 := n5_
           have BK189 := n6_
           have BK191 := n7_
           have BK193 := n8_
           have HB := n9_
           clear n0_ n1_ n2_ n3_ n4_ n5_ n6_ n7_ n8_ n9_
           (try clear hb)
           (try clear hb2)
           (try clear hk)
           (try clear hi)
           (try clear ho0)
           refine hK.out _ _ ⟨(blk_cell BK186.out 0).trans rfl, (blk_cell BK186.out 1).trans rfl, (blk_cell BK188.out 0).trans rfl, (blk_cell BK188.out 1).trans rfl, (blk_cell BK188.out 2).trans rfl, (blk_cell BK188.out 3).trans rfl, (blk_cell BK188.out 4).trans rfl, (blk_cell BK188.out 5).trans rfl, (blk_cell BK188.out 6).trans rfl, (blk_cell BK188.out 7).trans rfl, (blk_cell BK188.out 8).trans rfl, (blk_cell BK188.out 9).trans rfl, (blk_cell BK188.out 10).trans rfl, ((HB.out.cell (World.block_lt_of_cell? w _ hw198_0)).trans hw198_0), ((HB.out.cell (World.block_lt_of_cell? w _ hw198_1)).trans hw198_1), ((HB.out.cell (World.block_lt_of_cell? w _ hw198_2)).trans hw198_2), ((HB.out.cell (World.block_lt_of_cell? w _ hw199_0)).trans hw199_0), ((HB.out.cell (World.block_lt_of_cell? w _ hw199_1)).trans hw199_1)⟩ (fun hHeld => ?_)
           clear hK K
           refine norm_ (a' := ?_) ?_ ?_
           rotate_left
           ·
            show Act.put _ (some 82) _ = _
            simp only [Act.put, List.setIfInBounds_toArray, List.set_cons_zero, List.set_cons_succ, i64_w, i32_w]
            rfl
           refine toM_ 14 18 (by rfl) ?_
           iterate 4
             first
             | refine pureM_ (v := undef) (a' := ?_) rfl rfl (any_of HT_.out (by kernel_rfl)) (fun _ _ _ h => h) (Or.inr ⟨by rfl, rfl⟩) ?_ ?_
               rotate_left
               · simp only [Act.put, List.setIfInBounds_toArray, List.set_cons_zero, List.set_cons_succ, i64_w, i32_w]
                 rfl
             | refine pureM_ (v := ?_) (a' := ?_) rfl rfl (any_of HT_.out (by kernel_rfl)) (fun _ _ _ h => h) (Or.inl ⟨by rfl, ?_⟩) ?_ ?_
               rotate_left
               · intro w'
                 go_simp
                 with_reducible rfl
               rotate_left
               · simp only [Act.put, List.setIfInBounds_toArray, List.set_cons_zero, List.set_cons_succ, i64_w, i32_w]
                 rfl
           refine done_ (done_of HT_.out (by kernel_rfl)) ?_
           have hcz125_0 : w124.cell? ⟨gb193, 0, none⟩ = some (.int .i64 a4_4) := (blk_cell BK193.out 0).trans rfl
           have hcz125_1 : w124.cell? ⟨gb193, 1, none⟩ = some (.int .i64 a4_5) := (blk_cell BK193.out 1).trans rfl
           have hcz125_2 : w124.cell? ⟨gb193, 2, none⟩ = some (.int .i64 a4_6) := (blk_cell BK193.out 2).trans rfl
           have hcz125_3 : w124.cell? ⟨gb193, 3, none⟩ = some (.int .i64 a4_7) := (blk_cell BK193.out 3).trans rfl
           have hfz125_0 := blk_frozen BK193.out 0
           have hfz125_1 := blk_frozen BK193.out 1
           have hfz125_2 := blk_frozen BK193.out 2
           have hfz125_3 := blk_frozen BK193.out 3
           obtain ⟨Ao126, co126, eo126⟩ := Kd.R_slice HO202.out
           subst eo126
           try go_wp2_with (first | ((with_reducible refine gate_callee (f := 20) rfl ?_); refine goesL_ (some 89) rfl rfl Try.func20 (by kernel_rfl) rfl #[.slice A3 l3.length c3, .agg #[.int .i64 a4_4, .int .i64 a4_5, .int .i64 a4_6, .int .i64 a4_7], .slice Ao126 t200.length co126] rfl (by (try simp only [List.map_toArray, List.map_cons, List.map_nil]); first | done | rfl | (simp only [List.length_drop, List.length_take]; rfl)) ?_; (with_reducible refine (ledger_Enter.calls (fun k_ => (((((P3_ k_ ∨ w.heap.size ≤ k_) ∧ (k_ ≠ gb186 ∧ (k_ ≠ gb187 ∧ (k_ ≠ gb188 ∧ (k_ ≠ gb189 ∧ k_ ≠ gb191))))) ∧ k_ ≠ gb193) ∧ some k_ ≠ (v195 : Value).ownBlock) ∧ some k_ ≠ (.slice Ao126 t200.length co126 : Value).ownBlock)) _ _ l3 a4_4 a4_5 a4_6 a4_7 _ _ t200 t204 t207 _ ?side1 ?side2 ?side3 A109.out).mono ?_); (case side1 => exact HO_3.out); (case side2 => repeat (first | exact (Kd.R_reads' HO202.out).2.2 | (with_reducible refine Kd.C_alloc ?_ _) | (with_reducible refine Kd.C_drewN ?_ _) | (with_reducible refine Kd.C_drew ?_))); (case side3 => exact (Kd.R_reads' HO202.out).2.1); rintro e w127 ⟨v205, rfl, ho0, hb⟩; refine ⟨_, rfl, ?_⟩; have n0_ := Am (Kd.V_below (by (with_reducible repeat (first | apply Kd.V_alloc | apply Kd.V_drewN | apply Kd.V_drew)); exact HO_3.out) hb); have n1_ := Am (Kd.R_below (by (with_reducible repeat (first | apply Kd.R_alloc | apply Kd.R_drewN | apply Kd.R_drew)); exact HO196.out) hb); have n2_ := Am (Kd.R_below (by (with_reducible repeat (first | apply Kd.R_alloc | apply Kd.R_drewN | apply Kd.R_drew)); exact HO202.out) hb); have n3_ := Am (Kd.V_lower (Kd.V_mono (ok' := fun k_ => (P3_ k_ ∨ w.heap.size ≤ k_) ∧ some k_ ≠ (v195 : Value).ownBlock ∧ some k_ ≠ (.slice Ao126 t200.length co126 : Value).ownBlock ∧ k_ ≠ gb186 ∧ k_ ≠ gb187 ∧ k_ ≠ gb188 ∧ k_ ≠ gb189 ∧ k_ ≠ gb191 ∧ k_ ≠ gb193) ho0 (fun k_ hk_ => ⟨Or.elim hk_ (fun hs_ => hs_.1.1.1.1) (fun hn_ => (.inr (Nat.le_trans (below_size (by repeat (first | (with_reducible first | exact HB.out | apply below_alloc | apply pw_below_drewN | apply below_drew1 | refine below_set ?_ GE186.out | refine below_set ?_ GE187.out | refine below_set ?_ GE188.out | refine below_set ?_ GE189.out | refine below_set ?_ GE191.out | refine below_set ?_ GE193.out) | exact HB.out))) hn_))), Or.elim hk_ (fun hs_ => hs_.1.2) (fun hn_ => (Kd.fresh' (Kd.R_lt (by (with_reducible repeat (first | apply Kd.R_alloc | apply Kd.R_drewN | apply Kd.R_drew)); exact HO196.out)) k_ hn_)), Or.elim hk_ (fun hs_ => hs_.2) (fun hn_ => (Kd.fresh' (Kd.R_lt (by (with_reducible repeat (first | apply Kd.R_alloc | apply Kd.R_drewN | apply Kd.R_drew)); exact HO202.out)) k_ hn_)), Or.elim hk_ (fun hs_ => hs_.1.1.1.2.1) (fun hn_ => (Kd.freshB (g := gb186) (o := .cells #[.int .i64 a0_0, .slice (some ad198) l0_1.length c0_1] 24 (0, 0)) (by (with_reducible repeat (first | refine blk_drewN ?_ _ | refine blk_drew ?_ | refine blk_alloc ?_ _)); exact BK186.out) k_ hn_)), Or.elim hk_ (fun hs_ => hs_.1.1.1.2.2.1) (fun hn_ => (Kd.freshB (g := gb187) (o := .cells #[.int .i64 a1_0, .slice A1_1 l1_1.length c1_1] 27 (0, 0)) (by (with_reducible repeat (first | refine blk_drewN ?_ _ | refine blk_drew ?_ | refine blk_alloc ?_ _)); exact BK187.out) k_ hn_)), Or.elim hk_ (fun hs_ => hs_.1.1.1.2.2.2.1) (fun hn_ => (Kd.freshB (g := gb188) (o := .cells #[.int .i64 a4_0, .int .i64 a4_1, .int .i64 a4_2, .int .i64 a4_3, .int .i64 a4_4, .int .i64 a4_5, .int .i64 a4_6, .int .i64 a4_7, .int .i64 a4_8, .int .i64 a4_9, .slice A4_10 l4_10.length c4_10] 31 (0, 0)) (by (with_reducible repeat (first | refine blk_drewN ?_ _ | refine blk_drew ?_ | refine blk_alloc ?_ _)); exact BK188.out) k_ hn_)), Or.elim hk_ (fun hs_ => hs_.1.1.1.2.2.2.2.1) (fun hn_ => (Kd.freshB (g := gb189) (o := .cells #[.int .i64 0, .int .i64 0, .int .i64 0, .int .i64 0, .int .i64 0, .int .i64 0, .int .i64 0, .int .i64 0, .int .i64 0, .int .i64 0, .slice none 0 0] 31 (0, 0)) (by (with_reducible repeat (first | refine blk_drewN ?_ _ | refine blk_drew ?_ | refine blk_alloc ?_ _)); exact BK189.out) k_ hn_)), Or.elim hk_ (fun hs_ => hs_.1.1.1.2.2.2.2.2) (fun hn_ => (Kd.freshB (g := gb191) (o := .cells #[.int .i64 3, .int .i64 a2, .int .i64 a4_1, .int .i64 a4_3, .int .i64 a4_4, .int .i64 a4_5, .int .i64 a4_6, .int .i64 a4_7, .int .i64 a4_8, .int .i64 a1_0, .slice none 0 0] 31 (0, 0)) (by (with_reducible repeat (first | refine blk_drewN ?_ _ | refine blk_drew ?_ | refine blk_alloc ?_ _)); exact BK191.out) k_ hn_)), Or.elim hk_ (fun hs_ => hs_.1.1.2) (fun hn_ => (Kd.freshB (g := gb193) (o := .cells #[.int .i64 a4_4, .int .i64 a4_5, .int .i64 a4_6, .int .i64 a4_7] 37 (0, 0)) (by (with_reducible repeat (first | refine blk_drewN ?_ _ | refine blk_drew ?_ | refine blk_alloc ?_ _)); exact BK193.out) k_ hn_))⟩)) (below_size (by repeat (first | (with_reducible first | exact HB.out | apply below_alloc | apply pw_below_drewN | apply below_drew1 | refine below_set ?_ GE186.out | refine below_set ?_ GE187.out | refine below_set ?_ GE188.out | refine below_set ?_ GE189.out | refine below_set ?_ GE191.out | refine below_set ?_ GE193.out) | exact HB.out)))); have n4_ := Am (blk_below (g := gb186) (o := .cells #[.int .i64 a0_0, .slice (some ad198) l0_1.length c0_1] 24 (0, 0)) (by (with_reducible repeat (first | refine blk_drewN ?_ _ | refine blk_drew ?_ | refine blk_alloc ?_ _)); exact BK186.out) hb); have n5_ := Am (blk_below (g := gb187) (o := .cells #[.int .i64 a1_0, .slice A1_1 l1_1.length c1_1] 27 (0, 0)) (by (with_reducible repeat (first | refine blk_drewN ?_ _ | refine blk_drew ?_ | refine blk_alloc ?_ _)); exact BK187.out) hb); have n6_ := Am (blk_below (g := gb188) (o := .cells #[.int .i64 a4_0, .int .i64 a4_1, .int .i64 a4_2, .int .i64 a4_3, .int .i64 a4_4, .int .i64 a4_5, .int .i64 a4_6, .int .i64 a4_7, .int .i64 a4_8, .int .i64 a4_9, .slice A4_10 l4_10.length c4_10] 31 (0, 0)) (by (with_reducible repeat (first | refine blk_drewN ?_ _ | refine blk_drew ?_ | refine blk_alloc ?_ _)); exact BK188.out) hb); have n7_ := Am (blk_below (g := gb189) (o := .cells #[.int .i64 0, .int .i64 0, .int .i64 0, .int .i64 0, .int .i64 0, .int .i64 0, .int .i64 0, .int .i64 0, .int .i64 0, .int .i64 0, .slice none 0 0] 31 (0, 0)) (by (with_reducible repeat (first | refine blk_drewN ?_ _ | refine blk_drew ?_ | refine blk_alloc ?_ _)); exact BK189.out) hb); have n8_ := Am (blk_below (g := gb191) (o := .cells #[.int .i64 3, .int .i64 a2, .int .i64 a4_1, .int .i64 a4_3, .int .i64 a4_4, .int .i64 a4_5, .int .i64 a4_6, .int .i64 a4_7, .int .i64 a4_8, .int .i64 a1_0, .slice none 0 0] 31 (0, 0)) (by (with_reducible repeat (first | refine blk_drewN ?_ _ | refine blk_drew ?_ | refine blk_alloc ?_ _)); exact BK191.out) hb); have n9_ := Am (blk_below (g := gb193) (o := .cells #[.int .i64 a4_4, .int .i64 a4_5, .int .i64 a4_6, .int .i64 a4_7] 37 (0, 0)) (by (with_reducible repeat (first | refine blk_drewN ?_ _ | refine blk_drew ?_ | refine blk_alloc ?_ _)); exact BK193.out) hb); have n10_ := Am (below_step (by repeat (first | (with_reducible first | exact HB.out | apply below_alloc | apply pw_below_drewN | apply below_drew1 | refine below_set ?_ GE186.out | refine below_set ?_ GE187.out | refine below_set ?_ GE188.out | refine below_set ?_ GE189.out | refine below_set ?_ GE191.out | refine below_set ?_ GE193.out) | exact HB.out)) hb); clear HO_3; clear HO196; clear HO202; clear BK186; clear BK187; clear BK188; clear BK189; clear BK191; clear BK193; clear HB; have HO_3 := n0_; have HO196 := n1_; have HO202 := n2_; have HO206 := n3_; have BK186 := n4_; have BK187 := n5_; have BK188 := n6_; have BK189 := n7_; have BK191 := n8_; have BK193 := n9_; have HB := n10_; clear n0_ n1_ n2_ n3_ n4_ n5_ n6_ n7_ n8_ n9_ n10_; (try clear hb); (try clear hb2); (try clear hk); (try clear hi); (try clear ho0); have hnb128 := NB191_186.out; have hnc128 := NB186_191.out; have hnb129 := NB191_187.out; have hnc129 := NB187_191.out; have hnb130 := NB191_189.out; have hnc130 := NB189_191.out; have hcz131_0 : w127.cell? ⟨gb191, 0, none⟩ = some (.int .i64 3) := (blk_cell BK191.out 0).trans rfl; have hcz131_1 : w127.cell? ⟨gb191, 1, none⟩ = some (.int .i64 a2) := (blk_cell BK191.out 1).trans rfl; have hcz131_2 : w127.cell? ⟨gb191, 2, none⟩ = some (.int .i64 a4_1) := (blk_cell BK191.out 2).trans rfl; have hcz131_3 : w127.cell? ⟨gb191, 3, none⟩ = some (.int .i64 a4_3) := (blk_cell BK191.out 3).trans rfl; have hcz131_4 : w127.cell? ⟨gb191, 4, none⟩ = some (.int .i64 a4_4) := (blk_cell BK191.out 4).trans rfl; have hcz131_5 : w127.cell? ⟨gb191, 5, none⟩ = some (.int .i64 a4_5) := (blk_cell BK191.out 5).trans rfl; have hcz131_6 : w127.cell? ⟨gb191, 6, none⟩ = some (.int .i64 a4_6) := (blk_cell BK191.out 6).trans rfl; have hcz131_7 : w127.cell? ⟨gb191, 7, none⟩ = some (.int .i64 a4_7) := (blk_cell BK191.out 7).trans rfl; have hcz131_8 : w127.cell? ⟨gb191, 8, none⟩ = some (.int .i64 a4_8) := (blk_cell BK191.out 8).trans rfl; have hcz131_9 : w127.cell? ⟨gb191, 9, none⟩ = some (.int .i64 a1_0) := (blk_cell BK191.out 9).trans rfl; have hcz131_10 : w127.cell? ⟨gb191, 10, none⟩ = some (.slice none 0 0) := (blk_cell BK191.out 10).trans rfl; have hfz131_0 := blk_frozen BK191.out 0; have hfz131_1 := blk_frozen BK191.out 1; have hfz131_2 := blk_frozen BK191.out 2; have hfz131_3 := blk_frozen BK191.out 3; have hfz131_4 := blk_frozen BK191.out 4; have hfz131_5 := blk_frozen BK191.out 5; have hfz131_6 := blk_frozen BK191.out 6; have hfz131_7 := blk_frozen BK191.out 7; have hfz131_8 := blk_frozen BK191.out 8; have hfz131_9 := blk_frozen BK191.out 9; have hfz131_10 := blk_frozen BK191.out 10))
           have n0_ : Aside0 (Kd.V k39 39 ((w127.setCell ⟨gb191, 0, none⟩ (.int .i64 2)).setCell ⟨gb191, 10, none⟩ (.slice Ao126 t200.length co126)) w.heap.size (fun k_ => (P3_ k_ ∨ w.heap.size ≤ k_) ∧ some k_ ≠ (v195 : Value).ownBlock ∧ some k_ ≠ (.slice Ao126 t200.length co126 : Value).ownBlock ∧ k_ ≠ gb186 ∧ k_ ≠ gb187 ∧ k_ ≠ gb188 ∧ k_ ≠ gb189 ∧ k_ ≠ gb191 ∧ k_ ≠ gb193) (.slice A3 l3.length c3) l3) := ⟨by (with_reducible repeat (first | apply Kd.V_alloc | apply Kd.V_drewN | apply Kd.V_drew)); exact Kd.V_mono (Kd.V_far (p := ⟨gb191, 10, none⟩) (Kd.V_far (p := ⟨gb191, 0, none⟩) (Kd.V_mono HO_3.out (fun k_ hk => (⟨hk, hk.1.1.1.2.2.2.2.2⟩ : _ ∧ k_ ≠ gb191))) (fun _ hk => hk.2) (.int .i64 2)) (fun _ hk => hk.2) (.slice Ao126 t200.length co126)) (fun _ hk => ⟨hk.1.1.1.1.1, ⟨hk.1.1.2, ⟨hk.1.2, ⟨hk.1.1.1.1.2.1, ⟨hk.1.1.1.1.2.2.1, ⟨hk.1.1.1.1.2.2.2.1, ⟨hk.1.1.1.1.2.2.2.2.1, ⟨hk.1.1.1.1.2.2.2.2.2, hk.1.1.1.2⟩⟩⟩⟩⟩⟩⟩⟩)⟩
           have n1_ : Aside0 (Kd.R (Kd.int .i64) 3 ((w127.setCell ⟨gb191, 0, none⟩ (.int .i64 2)).setCell ⟨gb191, 10, none⟩ (.slice Ao126 t200.length co126)) w.heap.size (fun k_ => (w.heap.size ≤ k_) ∧ some k_ ≠ (.slice Ao126 t200.length co126 : Value).ownBlock) v195 t194) := ⟨by (with_reducible repeat (first | apply Kd.R_alloc | apply Kd.R_drewN | apply Kd.R_drew)); exact Kd.R_mono (Kd.R_far (p := ⟨gb191, 10, none⟩) (Kd.R_far (p := ⟨gb191, 0, none⟩) (Kd.R_types HO196.out BK191.out (by decide)) (fun _ hk => hk.2) (.int .i64 2)) (fun _ hk => hk.2) (.slice Ao126 t200.length co126)) (fun _ hk => ⟨hk.1.1.1, hk.1.2⟩)⟩
           have n2_ : Aside0 (Kd.R (Kd.int .i64) 3 ((w127.setCell ⟨gb191, 0, none⟩ (.int .i64 2)).setCell ⟨gb191, 10, none⟩ (.slice Ao126 t200.length co126)) w.heap.size (fun k_ => (w.heap.size ≤ k_) ∧ some k_ ≠ (v195 : Value).ownBlock) (.slice Ao126 t200.length co126) t200) := ⟨by (with_reducible repeat (first | apply Kd.R_alloc | apply Kd.R_drewN | apply Kd.R_drew)); exact Kd.R_mono (Kd.R_far (p := ⟨gb191, 10, none⟩) (Kd.R_far (p := ⟨gb191, 0, none⟩) (Kd.R_types HO202.out BK191.out (by decide)) (fun _ hk => hk.2) (.int .i64 2)) (fun _ hk => hk.2) (.slice Ao126 t200.length co126)) (fun _ hk => ⟨hk.1.1.1, hk.1.2⟩)⟩
           have n3_ : Aside0 (Kd.V k39 39 ((w127.setCell ⟨gb191, 0, none⟩ (.int .i64 2)).setCell ⟨gb191, 10, none⟩ (.slice Ao126 t200.length co126)) w.heap.size (fun k_ => (P3_ k_ ∨ w.heap.size ≤ k_) ∧ some k_ ≠ (v195 : Value).ownBlock ∧ some k_ ≠ (.slice Ao126 t200.length co126 : Value).ownBlock ∧ k_ ≠ gb186 ∧ k_ ≠ gb187 ∧ k_ ≠ gb188 ∧ k_ ≠ gb189 ∧ k_ ≠ gb191 ∧ k_ ≠ gb193) v205 t204) := ⟨by (with_reducible repeat (first | apply Kd.V_alloc | apply Kd.V_drewN | apply Kd.V_drew)); exact Kd.V_mono (Kd.V_far (p := ⟨gb191, 10, none⟩) (Kd.V_far (p := ⟨gb191, 0, none⟩) (Kd.V_mono HO206.out (fun k_ hk => (⟨hk, hk.2.2.2.2.2.2.2.1⟩ : _ ∧ k_ ≠ gb191))) (fun _ hk => hk.2) (.int .i64 2)) (fun _ hk => hk.2) (.slice Ao126 t200.length co126)) (fun _ hk => ⟨hk.1.1, ⟨hk.1.2.1, ⟨hk.1.2.2.1, ⟨hk.1.2.2.2.1, ⟨hk.1.2.2.2.2.1, ⟨hk.1.2.2.2.2.2.1, ⟨hk.1.2.2.2.2.2.2.1, ⟨hk.1.2.2.2.2.2.2.2.1, hk.1.2.2.2.2.2.2.2.2⟩⟩⟩⟩⟩⟩⟩⟩)⟩
           have n4_ : Aside0 (((w127.setCell ⟨gb191, 0, none⟩ (.int .i64 2)).setCell ⟨gb191, 10, none⟩ (.slice Ao126 t200.length co126)).heap[gb186]? = some (.cells #[.int .i64 a0_0, .slice (some ad198) l0_1.length c0_1] 24 (0, 0))) := ⟨by (with_reducible repeat (first | refine blk_drewN ?_ _ | refine blk_drew ?_ | refine blk_alloc ?_ _)); refine blk_far ?_ NB186_191.out _; (with_reducible repeat (first | refine blk_drewN ?_ _ | refine blk_drew ?_ | refine blk_alloc ?_ _)); refine blk_far ?_ NB186_191.out _; (with_reducible repeat (first | refine blk_drewN ?_ _ | refine blk_drew ?_ | refine blk_alloc ?_ _)); exact BK186.out⟩
           have n5_ : Aside0 (((w127.setCell ⟨gb191, 0, none⟩ (.int .i64 2)).setCell ⟨gb191, 10, none⟩ (.slice Ao126 t200.length co126)).heap[gb187]? = some (.cells #[.int .i64 a1_0, .slice A1_1 l1_1.length c1_1] 27 (0, 0))) := ⟨by (with_reducible repeat (first | refine blk_drewN ?_ _ | refine blk_drew ?_ | refine blk_alloc ?_ _)); refine blk_far ?_ NB187_191.out _; (with_reducible repeat (first | refine blk_drewN ?_ _ | refine blk_drew ?_ | refine blk_alloc ?_ _)); refine blk_far ?_ NB187_191.out _; (with_reducible repeat (first | refine blk_drewN ?_ _ | refine blk_drew ?_ | refine blk_alloc ?_ _)); exact BK187.out⟩
           have n6_ : Aside0 (((w127.setCell ⟨gb191, 0, none⟩ (.int .i64 2)).setCell ⟨gb191, 10, none⟩ (.slice Ao126 t200.length co126)).heap[gb188]? = some (.cells #[.int .i64 a4_0, .int .i64 a4_1, .int .i64 a4_2, .int .i64 a4_3, .int .i64 a4_4, .int .i64 a4_5, .int .i64 a4_6, .int .i64 a4_7, .int .i64 a4_8, .int .i64 a4_9, .slice A4_10 l4_10.length c4_10] 31 (0, 0))) := ⟨by (with_reducible repeat (first | refine blk_drewN ?_ _ | refine blk_drew ?_ | refine blk_alloc ?_ _)); refine blk_far ?_ NB188_191.out _; (with_reducible repeat (first | refine blk_drewN ?_ _ | refine blk_drew ?_ | refine blk_alloc ?_ _)); refine blk_far ?_ NB188_191.out _; (with_reducible repeat (first | refine blk_drewN ?_ _ | refine blk_drew ?_ | refine blk_alloc ?_ _)); exact BK188.out⟩
           have n7_ : Aside0 (((w127.setCell ⟨gb191, 0, none⟩ (.int .i64 2)).setCell ⟨gb191, 10, none⟩ (.slice Ao126 t200.length co126)).heap[gb189]? = some (.cells #[.int .i64 0, .int .i64 0, .int .i64 0, .int .i64 0, .int .i64 0, .int .i64 0, .int .i64 0, .int .i64 0, .int .i64 0, .int .i64 0, .slice none 0 0] 31 (0, 0))) := ⟨by (with_reducible repeat (first | refine blk_drewN ?_ _ | refine blk_drew ?_ | refine blk_alloc ?_ _)); refine blk_far ?_ NB189_191.out _; (with_reducible repeat (first | refine blk_drewN ?_ _ | refine blk_drew ?_ | refine blk_alloc ?_ _)); refine blk_far ?_ NB189_191.out _; (with_reducible repeat (first | refine blk_drewN ?_ _ | refine blk_drew ?_ | refine blk_alloc ?_ _)); exact BK189.out⟩
           have n8_ : Aside0 (((w127.setCell ⟨gb191, 0, none⟩ (.int .i64 2)).setCell ⟨gb191, 10, none⟩ (.slice Ao126 t200.length co126)).heap[gb191]? = some (.cells #[.int .i64 2, .int .i64 a2, .int .i64 a4_1, .int .i64 a4_3, .int .i64 a4_4, .int .i64 a4_5, .int .i64 a4_6, .int .i64 a4_7, .int .i64 a4_8, .int .i64 a1_0, .slice Ao126 t200.length co126] 31 (0, 0))) := ⟨by (with_reducible repeat (first | refine blk_drewN ?_ _ | refine blk_drew ?_ | refine blk_alloc ?_ _)); refine blk_put (cs := #[.int .i64 2, .int .i64 a2, .int .i64 a4_1, .int .i64 a4_3, .int .i64 a4_4, .int .i64 a4_5, .int .i64 a4_6, .int .i64 a4_7, .int .i64 a4_8, .int .i64 a1_0, .slice none 0 0]) ?_ 10 _ rfl; (with_reducible repeat (first | refine blk_drewN ?_ _ | refine blk_drew ?_ | refine blk_alloc ?_ _)); refine blk_put (cs := #[.int .i64 3, .int .i64 a2, .int .i64 a4_1, .int .i64 a4_3, .int .i64 a4_4, .int .i64 a4_5, .int .i64 a4_6, .int .i64 a4_7, .int .i64 a4_8, .int .i64 a1_0, .slice none 0 0]) ?_ 0 _ rfl; (with_reducible repeat (first | refine blk_drewN ?_ _ | refine blk_drew ?_ | refine blk_alloc ?_ _)); exact BK191.out⟩
           have n9_ : Aside0 (((w127.setCell ⟨gb191, 0, none⟩ (.int .i64 2)).setCell ⟨gb191, 10, none⟩ (.slice Ao126 t200.length co126)).heap[gb193]? = some (.cells #[.int .i64 a4_4, .int .i64 a4_5, .int .i64 a4_6, .int .i64 a4_7] 37 (0, 0))) := ⟨by (with_reducible repeat (first | refine blk_drewN ?_ _ | refine blk_drew ?_ | refine blk_alloc ?_ _)); refine blk_far ?_ NB193_191.out _; (with_reducible repeat (first | refine blk_drewN ?_ _ | refine blk_drew ?_ | refine blk_alloc ?_ _)); refine blk_far ?_ NB193_191.out _; (with_reducible repeat (first | refine blk_drewN ?_ _ | refine blk_drew ?_ | refine blk_alloc ?_ _)); exact BK193.out⟩
           have n10_ : Aside0 (Below w.heap.size w ((w127.setCell ⟨gb191, 0, none⟩ (.int .i64 2)).setCell ⟨gb191, 10, none⟩ (.slice Ao126 t200.length co126))) := ⟨by repeat (first | (with_reducible first | exact HB.out | apply below_alloc | apply pw_below_drewN | apply below_drew1 | refine below_set ?_ GE186.out | refine below_set ?_ GE187.out | refine below_set ?_ GE188.out | refine below_set ?_ GE189.out | refine below_set ?_ GE191.out | refine below_set ?_ GE193.out) | exact HB.out)⟩
           (try clear HO_3)
           (try clear HO196)
           (try clear HO202)
           (try clear HO206)
           (try clear BK186)
           (try clear BK187)
           (try clear BK188)
           (try clear BK189)
           (try clear BK191)
           (try clear BK193)
           (try clear HB)
           generalize ((w127.setCell ⟨gb191, 0, none⟩ (.int .i64 2)).setCell ⟨gb191, 10, none⟩ (.slice Ao126 t200.length co126)) = w132 at n0_ n1_ n2_ n3_ n4_ n5_ n6_ n7_ n8_ n9_ n10_ ⊢
           have HO_3 := n0_
           have HO196 := n1_
           have HO202 := n2_
           have HO206 := n3_
           have BK186 := n4_
           have BK187 := n5_
           have BK188 := n6_
           have BK189 := n7_
           have BK191 := n8_
           have BK193 := n9_
           have HB := n10_
           clear n0_ n1_ n2_ n3_ n4_ n5_ n6_ n7_ n8_ n9_ n10_
           have n0_ := Am (Kd.V_drew HO_3.out)
           have n1_ := Am (Kd.R_drew HO196.out)
           have n2_ := Am (Kd.R_drew HO202.out)
           have n3_ := Am (Kd.V_drew HO206.out)
           have n4_ := Am (blk_drew BK186.out)
           have n5_ := Am (blk_drew BK187.out)
           have n6_ := Am (blk_drew BK188.out)
           have n7_ := Am (blk_drew BK189.out)
           have n8_ := Am (blk_drew BK191.out)
           have n9_ := Am (blk_drew BK193.out)
           have n10_ := Am (below_drew1 HB.out)
           clear HO_3
           clear HO196
           clear HO202
           clear HO206
           clear BK186
           clear BK187
           clear BK188
           clear BK189
           clear BK191
           clear BK193
           clear HB
           have HO_3 := n0_
           have HO196 := n1_
           have HO202 := n2_
           have HO206 := n3_
           have BK186 := n4_
           have BK187 := n5_
           have BK188 := n6_
           have BK189 := n7_
           have BK191 := n8_
           have BK193 := n9_
           have HB := n10_
           clear n0_ n1_ n2_ n3_ n4_ n5_ n6_ n7_ n8_ n9_ n10_
           refine start_ (n := 5) (S := fun w' => w'.cell? ⟨gb191, 0, none⟩ = some (.int .i64 2) ∧ w'.cell? ⟨gb191, 1, none⟩ = some (.int .i64 a2) ∧ w'.cell? ⟨gb191, 2, none⟩ = some (.int .i64 a4_1) ∧ w'.cell? ⟨gb191, 3, none⟩ = some (.int .i64 a4_3) ∧ w'.cell? ⟨gb191, 4, none⟩ = some (.int .i64 a4_4) ∧ w'.cell? ⟨gb191, 5, none⟩ = some (.int .i64 a4_5) ∧ w'.cell? ⟨gb191, 6, none⟩ = some (.int .i64 a4_6) ∧ w'.cell? ⟨gb191, 7, none⟩ = some (.int .i64 a4_7) ∧ w'.cell? ⟨gb191, 8, none⟩ = some (.int .i64 a4_8) ∧ w'.cell? ⟨gb191, 9, none⟩ = some (.int .i64 a1_0) ∧ w'.cell? ⟨gb191, 10, none⟩ = some (.slice Ao126 t200.length co126)) (ds := []) #[false, false, false, false, false] (by kernel_rfl) rfl rfl ⟨(blk_cell BK191.out 0).trans rfl, (blk_cell BK191.out 1).trans rfl, (blk_cell BK191.out 2).trans rfl, (blk_cell BK191.out 3).trans rfl, (blk_cell BK191.out 4).trans rfl, (blk_cell BK191.out 5).trans rfl, (blk_cell BK191.out 6).trans rfl, (blk_cell BK191.out 7).trans rfl, (blk_cell BK191.out 8).trans rfl, (blk_cell BK191.out 9).trans rfl, (blk_cell BK191.out 10).trans rfl⟩ (fun hHeld => ?_)
           generalize w132.drew = w133 at HO_3 HO196 HO202 HO206 BK186 BK187 BK188 BK189 BK191 BK193 HB hHeld ⊢
           refine pure_ (i := 0) (N := some 95) (v := ?_) (a' := ?_) #[true, false, false, false, false] rfl rfl (by kernel_rfl) (fun _ _ _ h => h) (Or.inl ⟨by rfl, ?_⟩) ?_ ?_
           rotate_left
           ·
            intro w'
            go_simp
            with_reducible rfl
           rotate_left
           ·
            simp only [Act.put, List.setIfInBounds_toArray, List.set_cons_zero, List.set_cons_succ, i64_w, i32_w]
            rfl
           refine pure_ (i := 2) (N := some 10) (v := ?_) (a' := ?_) #[true, false, true, false, false] rfl rfl (by kernel_rfl) (fun _ _ _ h => h) (Or.inl ⟨by rfl, ?_⟩) ?_ ?_
           rotate_left
           ·
            intro w'
            go_simp
            with_reducible rfl
           rotate_left
           ·
            simp only [Act.put, List.setIfInBounds_toArray, List.set_cons_zero, List.set_cons_succ, i64_w, i32_w]
            rfl
           refine take_ (i := 1) (N := some 96) (v := ?_) (a' := ?_) #[true, true, true, false, false] rfl rfl (by kernel_rfl) (fun _ _ _ h => h) (Or.inl ⟨by rfl, ?_⟩) hHeld ?_ ?_
           rotate_left
           ·
            rintro w' ⟨s0, s1, s2, s3, s4, s5, s6, s7, s8, s9, s10⟩
            go_simp
            with_reducible rfl
           rotate_left
           ·
            simp only [Act.put, List.setIfInBounds_toArray, List.set_cons_zero, List.set_cons_succ, i64_w, i32_w]
            rfl
           refine one_ (i := 3) (N := none) #[true, true, true, true, false] rfl rfl (by kernel_rfl) (by decide) (fun K hK => ?_)
           have hs134 : w133.cell? ⟨gb189, 0, none⟩ = some (.int .i64 0) := (blk_cell BK189.out 0).trans rfl
           have hfs134 := blk_frozen BK189.out 0
           have hns134_0 := NB186_189.out
           have hns134_1 := NB187_189.out
           have hns134_2 := NB188_189.out
           have hns134_4 := NB191_189.out
           have hns134_5 := NB193_189.out
           have hms134_0 := NB189_186.out
           have hms134_1 := NB189_187.out
           have hms134_2 := NB189_188.out
           have hms134_4 := NB189_191.out
           have hms134_5 := NB189_193.out
           have hs135 : w133.cell? ⟨gb189, 1, none⟩ = some (.int .i64 0) := (blk_cell BK189.out 1).trans rfl
           have hfs135 := blk_frozen BK189.out 1
           have hns135_0 := NB186_189.out
           have hns135_1 := NB187_189.out
           have hns135_2 := NB188_189.out
           have hns135_4 := NB191_189.out
           have hns135_5 := NB193_189.out
           have hms135_0 := NB189_186.out
           have hms135_1 := NB189_187.out
           have hms135_2 := NB189_188.out
           have hms135_4 := NB189_191.out
           have hms135_5 := NB189_193.out
           have hs136 : w133.cell? ⟨gb189, 2, none⟩ = some (.int .i64 0) := (blk_cell BK189.out 2).trans rfl
           have hfs136 := blk_frozen BK189.out 2
           have hns136_0 := NB186_189.out
           have hns136_1 := NB187_189.out
           have hns136_2 := NB188_189.out
           have hns136_4 := NB191_189.out
           have hns136_5 := NB193_189.out
           have hms136_0 := NB189_186.out
           have hms136_1 := NB189_187.out
           have hms136_2 := NB189_188.out
           have hms136_4 := NB189_191.out
           have hms136_5 := NB189_193.out
           have hs137 : w133.cell? ⟨gb189, 3, none⟩ = some (.int .i64 0) := (blk_cell BK189.out 3).trans rfl
           have hfs137 := blk_frozen BK189.out 3
           have hns137_0 := NB186_189.out
           have hns137_1 := NB187_189.out
           have hns137_2 := NB188_189.out
           have hns137_4 := NB191_189.out
           have hns137_5 := NB193_189.out
           have hms137_0 := NB189_186.out
           have hms137_1 := NB189_187.out
           have hms137_2 := NB189_188.out
           have hms137_4 := NB189_191.out
           have hms137_5 := NB189_193.out
           have hs138 : w133.cell? ⟨gb189, 4, none⟩ = some (.int .i64 0) := (blk_cell BK189.out 4).trans rfl
           have hfs138 := blk_frozen BK189.out 4
           have hns138_0 := NB186_189.out
           have hns138_1 := NB187_189.out
           have hns138_2 := NB188_189.out
           have hns138_4 := NB191_189.out
           have hns138_5 := NB193_189.out
           have hms138_0 := NB189_186.out
           have hms138_1 := NB189_187.out
           have hms138_2 := NB189_188.out
           have hms138_4 := NB189_191.out
           have hms138_5 := NB189_193.out
           have hs139 : w133.cell? ⟨gb189, 5, none⟩ = some (.int .i64 0) := (blk_cell BK189.out 5).trans rfl
           have hfs139 := blk_frozen BK189.out 5
           have hns139_0 := NB186_189.out
           have hns139_1 := NB187_189.out
           have hns139_2 := NB188_189.out
           have hns139_4 := NB191_189.out
           have hns139_5 := NB193_189.out
           have hms139_0 := NB189_186.out
           have hms139_1 := NB189_187.out
           have hms139_2 := NB189_188.out
           have hms139_4 := NB189_191.out
           have hms139_5 := NB189_193.out
           have hs140 : w133.cell? ⟨gb189, 6, none⟩ = some (.int .i64 0) := (blk_cell BK189.out 6).trans rfl
           have hfs140 := blk_frozen BK189.out 6
           have hns140_0 := NB186_189.out
           have hns140_1 := NB187_189.out
           have hns140_2 := NB188_189.out
           have hns140_4 := NB191_189.out
           have hns140_5 := NB193_189.out
           have hms140_0 := NB189_186.out
           have hms140_1 := NB189_187.out
           have hms140_2 := NB189_188.out
           have hms140_4 := NB189_191.out
           have hms140_5 := NB189_193.out
           have hs141 : w133.cell? ⟨gb189, 7, none⟩ = some (.int .i64 0) := (blk_cell BK189.out 7).trans rfl
           have hfs141 := blk_frozen BK189.out 7
           have hns141_0 := NB186_189.out
           have hns141_1 := NB187_189.out
           have hns141_2 := NB188_189.out
           have hns141_4 := NB191_189.out
           have hns141_5 := NB193_189.out
           have hms141_0 := NB189_186.out
           have hms141_1 := NB189_187.out
           have hms141_2 := NB189_188.out
           have hms141_4 := NB189_191.out
           have hms141_5 := NB189_193.out
           have hs142 : w133.cell? ⟨gb189, 8, none⟩ = some (.int .i64 0) := (blk_cell BK189.out 8).trans rfl
           have hfs142 := blk_frozen BK189.out 8
           have hns142_0 := NB186_189.out
           have hns142_1 := NB187_189.out
           have hns142_2 := NB188_189.out
           have hns142_4 := NB191_189.out
           have hns142_5 := NB193_189.out
           have hms142_0 := NB189_186.out
           have hms142_1 := NB189_187.out
           have hms142_2 := NB189_188.out
           have hms142_4 := NB189_191.out
           have hms142_5 := NB189_193.out
           have hs143 : w133.cell? ⟨gb189, 9, none⟩ = some (.int .i64 0) := (blk_cell BK189.out 9).trans rfl
           have hfs143 := blk_frozen BK189.out 9
           have hns143_0 := NB186_189.out
           have hns143_1 := NB187_189.out
           have hns143_2 := NB188_189.out
           have hns143_4 := NB191_189.out
           have hns143_5 := NB193_189.out
           have hms143_0 := NB189_186.out
           have hms143_1 := NB189_187.out
           have hms143_2 := NB189_188.out
           have hms143_4 := NB189_191.out
           have hms143_5 := NB189_193.out
           have hs144 : w133.cell? ⟨gb189, 10, none⟩ = some (.slice none 0 0) := (blk_cell BK189.out 10).trans rfl
           have hfs144 := blk_frozen BK189.out 10
           have hns144_0 := NB186_189.out
           have hns144_1 := NB187_189.out
           have hns144_2 := NB188_189.out
           have hns144_4 := NB191_189.out
           have hns144_5 := NB193_189.out
           have hms144_0 := NB189_186.out
           have hms144_1 := NB189_187.out
           have hms144_2 := NB189_188.out
           have hms144_4 := NB189_191.out
           have hms144_5 := NB189_193.out
           refine skip_ (w1 := ?_) (by rfl) rfl ?_ ?_
           rotate_left
           ·
            go_simp
            rfl
           refine hK.out _ _ ⟨((cell_far (p := ⟨gb189, _, none⟩) NB191_189.out _).trans (((cell_far (p := ⟨gb189, _, none⟩) NB191_189.out _).trans (((cell_far (p := ⟨gb189, _, none⟩) NB191_189.out _).trans (((cell_far (p := ⟨gb189, _, none⟩) NB191_189.out _).trans (((cell_far (p := ⟨gb189, _, none⟩) NB191_189.out _).trans (((cell_far (p := ⟨gb189, _, none⟩) NB191_189.out _).trans (((cell_far (p := ⟨gb189, _, none⟩) NB191_189.out _).trans (((cell_far (p := ⟨gb189, _, none⟩) NB191_189.out _).trans (((cell_far (p := ⟨gb189, _, none⟩) NB191_189.out _).trans (((cell_far (p := ⟨gb189, _, none⟩) NB191_189.out _).trans (((cell_far (p := ⟨gb189, _, none⟩) NB191_189.out _).trans (hHeld.1)))))))))))))))))))))), ((cell_far (p := ⟨gb189, _, none⟩) NB191_189.out _).trans (((cell_far (p := ⟨gb189, _, none⟩) NB191_189.out _).trans (((cell_far (p := ⟨gb189, _, none⟩) NB191_189.out _).trans (((cell_far (p := ⟨gb189, _, none⟩) NB191_189.out _).trans (((cell_far (p := ⟨gb189, _, none⟩) NB191_189.out _).trans (((cell_far (p := ⟨gb189, _, none⟩) NB191_189.out _).trans (((cell_far (p := ⟨gb189, _, none⟩) NB191_189.out _).trans (((cell_far (p := ⟨gb189, _, none⟩) NB191_189.out _).trans (((cell_far (p := ⟨gb189, _, none⟩) NB191_189.out _).trans (((cell_far (p := ⟨gb189, _, none⟩) NB191_189.out _).trans (((cell_far (p := ⟨gb189, _, none⟩) NB191_189.out _).trans (hHeld.2.1)))))))))))))))))))))), ((cell_far (p := ⟨gb189, _, none⟩) NB191_189.out _).trans (((cell_far (p := ⟨gb189, _, none⟩) NB191_189.out _).trans (((cell_far (p := ⟨gb189, _, none⟩) NB191_189.out _).trans (((cell_far (p := ⟨gb189, _, none⟩) NB191_189.out _).trans (((cell_far (p := ⟨gb189, _, none⟩) NB191_189.out _).trans (((cell_far (p := ⟨gb189, _, none⟩) NB191_189.out _).trans (((cell_far (p := ⟨gb189, _, none⟩) NB191_189.out _).trans (((cell_far (p := ⟨gb189, _, none⟩) NB191_189.out _).trans (((cell_far (p := ⟨gb189, _, none⟩) NB191_189.out _).trans (((cell_far (p := ⟨gb189, _, none⟩) NB191_189.out _).trans (((cell_far (p := ⟨gb189, _, none⟩) NB191_189.out _).trans (hHeld.2.2.1)))))))))))))))))))))), ((cell_far (p := ⟨gb189, _, none⟩) NB191_189.out _).trans (((cell_far (p := ⟨gb189, _, none⟩) NB191_189.out _).trans (((cell_far (p := ⟨gb189, _, none⟩) NB191_189.out _).trans (((cell_far (p := ⟨gb189, _, none⟩) NB191_189.out _).trans (((cell_far (p := ⟨gb189, _, none⟩) NB191_189.out _).trans (((cell_far (p := ⟨gb189, _, none⟩) NB191_189.out _).trans (((cell_far (p := ⟨gb189, _, none⟩) NB191_189.out _).trans (((cell_far (p := ⟨gb189, _, none⟩) NB191_189.out _).trans (((cell_far (p := ⟨gb189, _, none⟩) NB191_189.out _).trans (((cell_far (p := ⟨gb189, _, none⟩) NB191_189.out _).trans (((cell_far (p := ⟨gb189, _, none⟩) NB191_189.out _).trans (hHeld.2.2.2.1)))))))))))))))))))))), ((cell_far (p := ⟨gb189, _, none⟩) NB191_189.out _).trans (((cell_far (p := ⟨gb189, _, none⟩) NB191_189.out _).trans (((cell_far (p := ⟨gb189, _, none⟩) NB191_189.out _).trans (((cell_far (p := ⟨gb189, _, none⟩) NB191_189.out _).trans (((cell_far (p := ⟨gb189, _, none⟩) NB191_189.out _).trans (((cell_far (p := ⟨gb189, _, none⟩) NB191_189.out _).trans (((cell_far (p := ⟨gb189, _, none⟩) NB191_189.out _).trans (((cell_far (p := ⟨gb189, _, none⟩) NB191_189.out _).trans (((cell_far (p := ⟨gb189, _, none⟩) NB191_189.out _).trans (((cell_far (p := ⟨gb189, _, none⟩) NB191_189.out _).trans (((cell_far (p := ⟨gb189, _, none⟩) NB191_189.out _).trans (hHeld.2.2.2.2.1)))))))))))))))))))))), ((cell_far (p := ⟨gb189, _, none⟩) NB191_189.out _).trans (((cell_far (p := ⟨gb189, _, none⟩) NB191_189.out _).trans (((cell_far (p := ⟨gb189, _, none⟩) NB191_189.out _).trans (((cell_far (p := ⟨gb189, _, none⟩) NB191_189.out _).trans (((cell_far (p := ⟨gb189, _, none⟩) NB191_189.out _).trans (((cell_far (p := ⟨gb189, _, none⟩) NB191_189.out _).trans (((cell_far (p := ⟨gb189, _, none⟩) NB191_189.out _).trans (((cell_far (p := ⟨gb189, _, none⟩) NB191_189.out _).trans (((cell_far (p := ⟨gb189, _, none⟩) NB191_189.out _).trans (((cell_far (p := ⟨gb189, _, none⟩) NB191_189.out _).trans (((cell_far (p := ⟨gb189, _, none⟩) NB191_189.out _).trans (hHeld.2.2.2.2.2.1)))))))))))))))))))))), ((cell_far (p := ⟨gb189, _, none⟩) NB191_189.out _).trans (((cell_far (p := ⟨gb189, _, none⟩) NB191_189.out _).trans (((cell_far (p := ⟨gb189, _, none⟩) NB191_189.out _).trans (((cell_far (p := ⟨gb189, _, none⟩) NB191_189.out _).trans (((cell_far (p := ⟨gb189, _, none⟩) NB191_189.out _).trans (((cell_far (p := ⟨gb189, _, none⟩) NB191_189.out _).trans (((cell_far (p := ⟨gb189, _, none⟩) NB191_189.out _).trans (((cell_far (p := ⟨gb189, _, none⟩) NB191_189.out _).trans (((cell_far (p := ⟨gb189, _, none⟩) NB191_189.out _).trans (((cell_far (p := ⟨gb189, _, none⟩) NB191_189.out _).trans (((cell_far (p := ⟨gb189, _, none⟩) NB191_189.out _).trans (hHeld.2.2.2.2.2.2.1)))))))))))))))))))))), ((cell_far (p := ⟨gb189, _, none⟩) NB191_189.out _).trans (((cell_far (p := ⟨gb189, _, none⟩) NB191_189.out _).trans (((cell_far (p := ⟨gb189, _, none⟩) NB191_189.out _).trans (((cell_far (p := ⟨gb189, _, none⟩) NB191_189.out _).trans (((cell_far (p := ⟨gb189, _, none⟩) NB191_189.out _).trans (((cell_far (p := ⟨gb189, _, none⟩) NB191_189.out _).trans (((cell_far (p := ⟨gb189, _, none⟩) NB191_189.out _).trans (((cell_far (p := ⟨gb189, _, none⟩) NB191_189.out _).trans (((cell_far (p := ⟨gb189, _, none⟩) NB191_189.out _).trans (((cell_far (p := ⟨gb189, _, none⟩) NB191_189.out _).trans (((cell_far (p := ⟨gb189, _, none⟩) NB191_189.out _).trans (hHeld.2.2.2.2.2.2.2.1)))))))))))))))))))))), ((cell_far (p := ⟨gb189, _, none⟩) NB191_189.out _).trans (((cell_far (p := ⟨gb189, _, none⟩) NB191_189.out _).trans (((cell_far (p := ⟨gb189, _, none⟩) NB191_189.out _).trans (((cell_far (p := ⟨gb189, _, none⟩) NB191_189.out _).trans (((cell_far (p := ⟨gb189, _, none⟩) NB191_189.out _).trans (((cell_far (p := ⟨gb189, _, none⟩) NB191_189.out _).trans (((cell_far (p := ⟨gb189, _, none⟩) NB191_189.out _).trans (((cell_far (p := ⟨gb189, _, none⟩) NB191_189.out _).trans (((cell_far (p := ⟨gb189, _, none⟩) NB191_189.out _).trans (((cell_far (p := ⟨gb189, _, none⟩) NB191_189.out _).trans (((cell_far (p := ⟨gb189, _, none⟩) NB191_189.out _).trans (hHeld.2.2.2.2.2.2.2.2.1)))))))))))))))))))))), ((cell_far (p := ⟨gb189, _, none⟩) NB191_189.out _).trans (((cell_far (p := ⟨gb189, _, none⟩) NB191_189.out _).trans (((cell_far (p := ⟨gb189, _, none⟩) NB191_189.out _).trans (((cell_far (p := ⟨gb189, _, none⟩) NB191_189.out _).trans (((cell_far (p := ⟨gb189, _, none⟩) NB191_189.out _).trans (((cell_far (p := ⟨gb189, _, none⟩) NB191_189.out _).trans (((cell_far (p := ⟨gb189, _, none⟩) NB191_189.out _).trans (((cell_far (p := ⟨gb189, _, none⟩) NB191_189.out _).trans (((cell_far (p := ⟨gb189, _, none⟩) NB191_189.out _).trans (((cell_far (p := ⟨gb189, _, none⟩) NB191_189.out _).trans (((cell_far (p := ⟨gb189, _, none⟩) NB191_189.out _).trans (hHeld.2.2.2.2.2.2.2.2.2.1)))))))))))))))))))))), ((cell_far (p := ⟨gb189, _, none⟩) NB191_189.out _).trans (((cell_far (p := ⟨gb189, _, none⟩) NB191_189.out _).trans (((cell_far (p := ⟨gb189, _, none⟩) NB191_189.out _).trans (((cell_far (p := ⟨gb189, _, none⟩) NB191_189.out _).trans (((cell_far (p := ⟨gb189, _, none⟩) NB191_189.out _).trans (((cell_far (p := ⟨gb189, _, none⟩) NB191_189.out _).trans (((cell_far (p := ⟨gb189, _, none⟩) NB191_189.out _).trans (((cell_far (p := ⟨gb189, _, none⟩) NB191_189.out _).trans (((cell_far (p := ⟨gb189, _, none⟩) NB191_189.out _).trans (((cell_far (p := ⟨gb189, _, none⟩) NB191_189.out _).trans (((cell_far (p := ⟨gb189, _, none⟩) NB191_189.out _).trans (hHeld.2.2.2.2.2.2.2.2.2.2))))))))))))))))))))))⟩ (fun hHeld => ?_)
           clear hK K
           refine pure_ (i := 4) (N := some 12) (v := ?_) (a' := ?_) #[true, true, true, true, true] rfl rfl (by kernel_rfl) (fun _ _ _ h => h) (Or.inl ⟨by rfl, ?_⟩) ?_ ?_
           rotate_left
           ·
            intro w'
            go_simp
            with_reducible rfl
           rotate_left
           ·
            simp only [Act.put, List.setIfInBounds_toArray, List.set_cons_zero, List.set_cons_succ, i64_w, i32_w]
            rfl
           refine done_ (by kernel_rfl) ?_
           try go_wp2
           refine bodyPost_ret (results_list (rs := [.tmp 10, .cell 11 31, .tmp 12]) rfl (by simp) (.tmp (.cell gb189 31 #[.int .i64 2, .int .i64 a2, .int .i64 a4_1, .int .i64 a4_3, .int .i64 a4_4, .int .i64 a4_5, .int .i64 a4_6, .int .i64 a4_7, .int .i64 a4_8, .int .i64 a1_0, .slice Ao126 t200.length co126] (0, 0) _ rfl (by (with_reducible repeat (first | refine blk_drewN ?_ _ | refine blk_drew ?_ | refine blk_alloc ?_ _)); refine blk_put (cs := #[.int .i64 2, .int .i64 a2, .int .i64 a4_1, .int .i64 a4_3, .int .i64 a4_4, .int .i64 a4_5, .int .i64 a4_6, .int .i64 a4_7, .int .i64 a4_8, .int .i64 a1_0, .slice none 0 0]) ?_ 10 _ rfl; (with_reducible repeat (first | refine blk_drewN ?_ _ | refine blk_drew ?_ | refine blk_alloc ?_ _)); refine blk_put (cs := #[.int .i64 2, .int .i64 a2, .int .i64 a4_1, .int .i64 a4_3, .int .i64 a4_4, .int .i64 a4_5, .int .i64 a4_6, .int .i64 a4_7, .int .i64 a4_8, .int .i64 0, .slice none 0 0]) ?_ 9 _ rfl; (with_reducible repeat (first | refine blk_drewN ?_ _ | refine blk_drew ?_ | refine blk_alloc ?_ _)); refine blk_put (cs := #[.int .i64 2, .int .i64 a2, .int .i64 a4_1, .int .i64 a4_3, .int .i64 a4_4, .int .i64 a4_5, .int .i64 a4_6, .int .i64 a4_7, .int .i64 0, .int .i64 0, .slice none 0 0]) ?_ 8 _ rfl; (with_reducible repeat (first | refine blk_drewN ?_ _ | refine blk_drew ?_ | refine blk_alloc ?_ _)); refine blk_put (cs := #[.int .i64 2, .int .i64 a2, .int .i64 a4_1, .int .i64 a4_3, .int .i64 a4_4, .int .i64 a4_5, .int .i64 a4_6, .int .i64 0, .int .i64 0, .int .i64 0, .slice none 0 0]) ?_ 7 _ rfl; (with_reducible repeat (first | refine blk_drewN ?_ _ | refine blk_drew ?_ | refine blk_alloc ?_ _)); refine blk_put (cs := #[.int .i64 2, .int .i64 a2, .int .i64 a4_1, .int .i64 a4_3, .int .i64 a4_4, .int .i64 a4_5, .int .i64 0, .int .i64 0, .int .i64 0, .int .i64 0, .slice none 0 0]) ?_ 6 _ rfl; (with_reducible repeat (first | refine blk_drewN ?_ _ | refine blk_drew ?_ | refine blk_alloc ?_ _)); refine blk_put (cs := #[.int .i64 2, .int .i64 a2, .int .i64 a4_1, .int .i64 a4_3, .int .i64 a4_4, .int .i64 0, .int .i64 0, .int .i64 0, .int .i64 0, .int .i64 0, .slice none 0 0]) ?_ 5 _ rfl; (with_reducible repeat (first | refine blk_drewN ?_ _ | refine blk_drew ?_ | refine blk_alloc ?_ _)); refine blk_put (cs := #[.int .i64 2, .int .i64 a2, .int .i64 a4_1, .int .i64 a4_3, .int .i64 0, .int .i64 0, .int .i64 0, .int .i64 0, .int .i64 0, .int .i64 0, .slice none 0 0]) ?_ 4 _ rfl; (with_reducible repeat (first | refine blk_drewN ?_ _ | refine blk_drew ?_ | refine blk_alloc ?_ _)); refine blk_put (cs := #[.int .i64 2, .int .i64 a2, .int .i64 a4_1, .int .i64 0, .int .i64 0, .int .i64 0, .int .i64 0, .int .i64 0, .int .i64 0, .int .i64 0, .slice none 0 0]) ?_ 3 _ rfl; (with_reducible repeat (first | refine blk_drewN ?_ _ | refine blk_drew ?_ | refine blk_alloc ?_ _)); refine blk_put (cs := #[.int .i64 2, .int .i64 a2, .int .i64 0, .int .i64 0, .int .i64 0, .int .i64 0, .int .i64 0, .int .i64 0, .int .i64 0, .int .i64 0, .slice none 0 0]) ?_ 2 _ rfl; (with_reducible repeat (first | refine blk_drewN ?_ _ | refine blk_drew ?_ | refine blk_alloc ?_ _)); refine blk_put (cs := #[.int .i64 2, .int .i64 0, .int .i64 0, .int .i64 0, .int .i64 0, .int .i64 0, .int .i64 0, .int .i64 0, .int .i64 0, .int .i64 0, .slice none 0 0]) ?_ 1 _ rfl; (with_reducible repeat (first | refine blk_drewN ?_ _ | refine blk_drew ?_ | refine blk_alloc ?_ _)); refine blk_put (cs := #[.int .i64 0, .int .i64 0, .int .i64 0, .int .i64 0, .int .i64 0, .int .i64 0, .int .i64 0, .int .i64 0, .int .i64 0, .int .i64 0, .slice none 0 0]) ?_ 0 _ rfl; (with_reducible repeat (first | refine blk_drewN ?_ _ | refine blk_drew ?_ | refine blk_alloc ?_ _)); exact BK189.out) Try.underlying31 rfl (by kernel_rfl) (.tmp .nil)))) rfl ?_
           exact ⟨_, _, by first | rfl | (simp [errW_none, errW_some] <;> rfl) | (simp [*, errW_none, errW_some] <;> rfl), by (with_reducible repeat (first | apply Kd.V_alloc | apply Kd.V_drewN | apply Kd.V_drew)); exact Kd.V_mono (Kd.V_far (p := ⟨gb189, 10, none⟩) (Kd.V_far (p := ⟨gb189, 9, none⟩) (Kd.V_far (p := ⟨gb189, 8, none⟩) (Kd.V_far (p := ⟨gb189, 7, none⟩) (Kd.V_far (p := ⟨gb189, 6, none⟩) (Kd.V_far (p := ⟨gb189, 5, none⟩) (Kd.V_far (p := ⟨gb189, 4, none⟩) (Kd.V_far (p := ⟨gb189, 3, none⟩) (Kd.V_far (p := ⟨gb189, 2, none⟩) (Kd.V_far (p := ⟨gb189, 1, none⟩) (Kd.V_far (p := ⟨gb189, 0, none⟩) (Kd.V_mono HO206.out (fun k_ hk => (⟨hk, hk.2.2.2.2.2.2.1⟩ : _ ∧ k_ ≠ gb189))) (fun _ hk => hk.2) (.int .i64 2)) (fun _ hk => hk.2) (.int .i64 a2)) (fun _ hk => hk.2) (.int .i64 a4_1)) (fun _ hk => hk.2) (.int .i64 a4_3)) (fun _ hk => hk.2) (.int .i64 a4_4)) (fun _ hk => hk.2) (.int .i64 a4_5)) (fun _ hk => hk.2) (.int .i64 a4_6)) (fun _ hk => hk.2) (.int .i64 a4_7)) (fun _ hk => hk.2) (.int .i64 a4_8)) (fun _ hk => hk.2) (.int .i64 a1_0)) (fun _ hk => hk.2) (.slice Ao126 t200.length co126)) (fun _ hk => ⟨hk.1.1, hk.1.2.2.1⟩), by (with_reducible repeat (first | apply Kd.R_alloc | apply Kd.R_drewN | apply Kd.R_drew)); exact Kd.R_mono (Kd.R_far (p := ⟨gb189, 10, none⟩) (Kd.R_far (p := ⟨gb189, 9, none⟩) (Kd.R_far (p := ⟨gb189, 8, none⟩) (Kd.R_far (p := ⟨gb189, 7, none⟩) (Kd.R_far (p := ⟨gb189, 6, none⟩) (Kd.R_far (p := ⟨gb189, 5, none⟩) (Kd.R_far (p := ⟨gb189, 4, none⟩) (Kd.R_far (p := ⟨gb189, 3, none⟩) (Kd.R_far (p := ⟨gb189, 2, none⟩) (Kd.R_far (p := ⟨gb189, 1, none⟩) (Kd.R_far (p := ⟨gb189, 0, none⟩) (Kd.R_types HO202.out BK189.out (by decide)) (fun _ hk => hk.2) (.int .i64 2)) (fun _ hk => hk.2) (.int .i64 a2)) (fun _ hk => hk.2) (.int .i64 a4_1)) (fun _ hk => hk.2) (.int .i64 a4_3)) (fun _ hk => hk.2) (.int .i64 a4_4)) (fun _ hk => hk.2) (.int .i64 a4_5)) (fun _ hk => hk.2) (.int .i64 a4_6)) (fun _ hk => hk.2) (.int .i64 a4_7)) (fun _ hk => hk.2) (.int .i64 a4_8)) (fun _ hk => hk.2) (.int .i64 a1_0)) (fun _ hk => hk.2) (.slice Ao126 t200.length co126)) (fun _ hk => hk.1.1), by repeat (first | (with_reducible first | exact HB.out | apply below_alloc | apply pw_below_drewN | apply below_drew1 | refine below_set ?_ GE186.out | refine below_set ?_ GE187.out | refine below_set ?_ GE188.out | refine below_set ?_ GE189.out | refine below_set ?_ GE191.out | refine below_set ?_ GE193.out) | exact HB.out)⟩
          ·
           rw [if_neg c107] at H
           exact absurd H (by simp)
         ·
          rw [if_neg c106] at H
          exact absurd H (by simp)
        ·
         rw [if_neg c105] at H
         exact absurd H (by simp)
       ·
        rw [if_neg c104] at H
        exact absurd H (by simp)
  ·
   replace c7 := Bool.eq_false_iff.mpr c7
   subst c7
   have H1 : (some (l3, 0, 0, 0, 0, 0, 0, 0, 0, 0, 0, ([] : List Int), false)) = some (r1, r2, r3, r4, r5, r6, r7, r8, r9, r10, r11, r12, r13) := by rw [if_neg (show ¬ (false = true) by decide)] at H; exact H
   clear H
   have H := H1
   clear H1
   simp only [Option.some.injEq, Prod.mk.injEq] at H
   obtain ⟨rfl, rfl, rfl, rfl, rfl, rfl, rfl, rfl, rfl, rfl, rfl, rfl, rfl⟩ := H
   go_enter Try.func10, Try.ntmps10
   go_wp2_with (first | ((with_reducible refine gate_dst (N := 5) rfl ?_); refine box_event ?hg (N := 5) ?hd (cs := #[.int .i64 a0_0, .slice A0_1 l0_1.length c0_1]) (t := 24) ?hr ?_; (case hd => rfl); (case hg => rfl); (case hr => first | (go_simp; done) | (go_simp; rfl)); intro gb186 hg w145 hbox hb; have n0_ := Am (Kd.V_below (Kd.V_elderB (by (with_reducible repeat (first | apply Kd.V_alloc | apply Kd.V_drewN | apply Kd.V_drew)); exact HO3.out) gb186 (Nat.le_of_eq hg.symm)) hb); have n1_ := Am (below_step (by repeat (first | (with_reducible first | exact HB.out | apply below_alloc | apply pw_below_drewN | apply below_drew1) | exact HB.out)) hb); have n2_ := Am (hbox); have n3_ := Am ((by rw [hg]; exact (below_size (by repeat (first | (with_reducible first | exact HB.out | apply below_alloc | apply pw_below_drewN | apply below_drew1) | exact HB.out))) : w.heap.size ≤ gb186)); have n4_ := Am ((by rw [hg]; exact (below_size (by repeat (first | (with_reducible first | exact HB.out | apply below_alloc | apply pw_below_drewN | apply below_drew1) | exact HB.out))) : w.heap.size ≤ gb186)); clear HO3; clear HB; have HO3 := n0_; have HB := n1_; have BK186 := n2_; have GW186 := n3_; have GE186 := n4_; clear n0_ n1_ n2_ n3_ n4_; clear hb hbox hg) | ((with_reducible refine gate_dst (N := 6) rfl ?_); refine box_event ?hg (N := 6) ?hd (cs := #[.int .i64 a1_0, .slice A1_1 l1_1.length c1_1]) (t := 27) ?hr ?_; (case hd => rfl); (case hg => rfl); (case hr => first | (go_simp; done) | (go_simp; rfl)); intro gb187 hg w146 hbox hb; have n0_ := Am (Kd.V_below (Kd.V_elderB (by (with_reducible repeat (first | apply Kd.V_alloc | apply Kd.V_drewN | apply Kd.V_drew)); exact HO3.out) gb187 (Nat.le_of_eq hg.symm)) hb); have n1_ := Am (blk_below (g := gb186) (o := .cells #[.int .i64 a0_0, .slice A0_1 l0_1.length c0_1] 24 (0, 0)) (by (with_reducible repeat (first | refine blk_drewN ?_ _ | refine blk_drew ?_ | refine blk_alloc ?_ _)); exact BK186.out) hb); have n2_ := Am (below_step (by repeat (first | (with_reducible first | exact HB.out | apply below_alloc | apply pw_below_drewN | apply below_drew1 | refine below_set ?_ GE186.out) | exact HB.out)) hb); have n3_ := Am (hbox); have n4_ := Am ((by rw [hg]; exact (below_size (by repeat (first | (with_reducible first | exact HB.out | apply below_alloc | apply pw_below_drewN | apply below_drew1 | refine below_set ?_ GE186.out) | exact HB.out))) : w.heap.size ≤ gb187)); have n5_ := Am ((by rw [hg]; exact (below_size (by repeat (first | (with_reducible first | exact HB.out | apply below_alloc | apply pw_below_drewN | apply below_drew1 | refine below_set ?_ GE186.out) | exact HB.out))) : w.heap.size ≤ gb187)); have n6_ := Am ((by rw [hg]; exact Nat.ne_of_lt (blk_lt (g := gb186) (o := .cells #[.int .i64 a0_0, .slice A0_1 l0_1.length c0_1] 24 (0, 0)) (by (with_reducible repeat (first | refine blk_drewN ?_ _ | refine blk_drew ?_ | refine blk_alloc ?_ _)); exact BK186.out)) : gb186 ≠ gb187)); have n7_ := Am ((by rw [hg]; exact Nat.ne_of_gt (blk_lt (g := gb186) (o := .cells #[.int .i64 a0_0, .slice A0_1 l0_1.length c0_1] 24 (0, 0)) (by (with_reducible repeat (first | refine blk_drewN ?_ _ | refine blk_drew ?_ | refine blk_alloc ?_ _)); exact BK186.out)) : gb187 ≠ gb186)); clear HO3; clear BK186; clear HB; have HO3 := n0_; have BK186 := n1_; have HB := n2_; have BK187 := n3_; have GW187 := n4_; have GE187 := n5_; have NB186_187 := n6_; have NB187_186 := n7_; clear n0_ n1_ n2_ n3_ n4_ n5_ n6_ n7_; clear hb hbox hg) | ((with_reducible refine gate_dst (N := 9) rfl ?_); refine box_event ?hg (N := 9) ?hd (cs := #[.int .i64 a4_0, .int .i64 a4_1, .int .i64 a4_2, .int .i64 a4_3, .int .i64 a4_4, .int .i64 a4_5, .int .i64 a4_6, .int .i64 a4_7, .int .i64 a4_8, .int .i64 a4_9, .slice A4_10 l4_10.length c4_10]) (t := 31) ?hr ?_; (case hd => rfl); (case hg => rfl); (case hr => first | (go_simp; done) | (go_simp; rfl)); intro gb188 hg w147 hbox hb; have n0_ := Am (Kd.V_below (Kd.V_elderB (by (with_reducible repeat (first | apply Kd.V_alloc | apply Kd.V_drewN | apply Kd.V_drew)); exact HO3.out) gb188 (Nat.le_of_eq hg.symm)) hb); have n1_ := Am (blk_below (g := gb186) (o := .cells #[.int .i64 a0_0, .slice A0_1 l0_1.length c0_1] 24 (0, 0)) (by (with_reducible repeat (first | refine blk_drewN ?_ _ | refine blk_drew ?_ | refine blk_alloc ?_ _)); exact BK186.out) hb); have n2_ := Am (blk_below (g := gb187) (o := .cells #[.int .i64 a1_0, .slice A1_1 l1_1.length c1_1] 27 (0, 0)) (by (with_reducible repeat (first | refine blk_drewN ?_ _ | refine blk_drew ?_ | refine blk_alloc ?_ _)); exact BK187.out) hb); have n3_ := Am (below_step (by repeat (first | (with_reducible first | exact HB.out | apply below_alloc | apply pw_below_drewN | apply below_drew1 | refine below_set ?_ GE186.out | refine below_set ?_ GE187.out) | exact HB.out)) hb); have n4_ := Am (hbox); have n5_ := Am ((by rw [hg]; exact (below_size (by repeat (first | (with_reducible first | exact HB.out | apply below_alloc | apply pw_below_drewN | apply below_drew1 | refine below_set ?_ GE186.out | refine below_set ?_ GE187.out) | exact HB.out))) : w.heap.size ≤ gb188)); have n6_ := Am ((by rw [hg]; exact (below_size (by repeat (first | (with_reducible first | exact HB.out | apply below_alloc | apply pw_below_drewN | apply below_drew1 | refine below_set ?_ GE186.out | refine below_set ?_ GE187.out) | exact HB.out))) : w.heap.size ≤ gb188)); have n7_ := Am ((by rw [hg]; exact Nat.ne_of_lt (blk_lt (g := gb186) (o := .cells #[.int .i64 a0_0, .slice A0_1 l0_1.length c0_1] 24 (0, 0)) (by (with_reducible repeat (first | refine blk_drewN ?_ _ | refine blk_drew ?_ | refine blk_alloc ?_ _)); exact BK186.out)) : gb186 ≠ gb188)); have n8_ := Am ((by rw [hg]; exact Nat.ne_of_gt (blk_lt (g := gb186) (o := .cells #[.int .i64 a0_0, .slice A0_1 l0_1.length c0_1] 24 (0, 0)) (by (with_reducible repeat (first | refine blk_drewN ?_ _ | refine blk_drew ?_ | refine blk_alloc ?_ _)); exact BK186.out)) : gb188 ≠ gb186)); have n9_ := Am ((by rw [hg]; exact Nat.ne_of_lt (blk_lt (g := gb187) (o := .cells #[.int .i64 a1_0, .slice A1_1 l1_1.length c1_1] 27 (0, 0)) (by (with_reducible repeat (first | refine blk_drewN ?_ _ | refine blk_drew ?_ | refine blk_alloc ?_ _)); exact BK187.out)) : gb187 ≠ gb188)); have n10_ := Am ((by rw [hg]; exact Nat.ne_of_gt (blk_lt (g := gb187) (o := .cells #[.int .i64 a1_0, .slice A1_1 l1_1.length c1_1] 27 (0, 0)) (by (with_reducible repeat (first | refine blk_drewN ?_ _ | refine blk_drew ?_ | refine blk_alloc ?_ _)); exact BK187.out)) : gb188 ≠ gb187)); clear HO3; clear BK186; clear BK187; clear HB; have HO3 := n0_; have BK186 := n1_; have BK187 := n2_; have HB := n3_; have BK188 := n4_; have GW188 := n5_; have GE188 := n6_; have NB186_188 := n7_; have NB188_186 := n8_; have NB187_188 := n9_; have NB188_187 := n10_; clear n0_ n1_ n2_ n3_ n4_ n5_ n6_ n7_ n8_ n9_ n10_; clear hb hbox hg) | ((with_reducible refine gate_dst (N := 11) rfl ?_); refine box_event ?hg (N := 11) ?hd (cs := #[.int .i64 0, .int .i64 0, .int .i64 0, .int .i64 0, .int .i64 0, .int .i64 0, .int .i64 0, .int .i64 0, .int .i64 0, .int .i64 0, .slice none 0 0]) (t := 31) ?hr ?_; (case hd => rfl); (case hg => rfl); (case hr => first | (go_simp; done) | (go_simp; rfl)); intro gb189 hg w148 hbox hb; have n0_ := Am (Kd.V_below (Kd.V_elderB (by (with_reducible repeat (first | apply Kd.V_alloc | apply Kd.V_drewN | apply Kd.V_drew)); exact HO3.out) gb189 (Nat.le_of_eq hg.symm)) hb); have n1_ := Am (blk_below (g := gb186) (o := .cells #[.int .i64 a0_0, .slice A0_1 l0_1.length c0_1] 24 (0, 0)) (by (with_reducible repeat (first | refine blk_drewN ?_ _ | refine blk_drew ?_ | refine blk_alloc ?_ _)); exact BK186.out) hb); have n2_ := Am (blk_below (g := gb187) (o := .cells #[.int .i64 a1_0, .slice A1_1 l1_1.length c1_1] 27 (0, 0)) (by (with_reducible repeat (first | refine blk_drewN ?_ _ | refine blk_drew ?_ | refine blk_alloc ?_ _)); exact BK187.out) hb); have n3_ := Am (blk_below (g := gb188) (o := .cells #[.int .i64 a4_0, .int .i64 a4_1, .int .i64 a4_2, .int .i64 a4_3, .int .i64 a4_4, .int .i64 a4_5, .int .i64 a4_6, .int .i64 a4_7, .int .i64 a4_8, .int .i64 a4_9, .slice A4_10 l4_10.length c4_10] 31 (0, 0)) (by (with_reducible repeat (first | refine blk_drewN ?_ _ | refine blk_drew ?_ | refine blk_alloc ?_ _)); exact BK188.out) hb); have n4_ := Am (below_step (by repeat (first | (with_reducible first | exact HB.out | apply below_alloc | apply pw_below_drewN | apply below_drew1 | refine below_set ?_ GE186.out | refine below_set ?_ GE187.out | refine below_set ?_ GE188.out) | exact HB.out)) hb); have n5_ := Am (hbox); have n6_ := Am ((by rw [hg]; exact (below_size (by repeat (first | (with_reducible first | exact HB.out | apply below_alloc | apply pw_below_drewN | apply below_drew1 | refine below_set ?_ GE186.out | refine below_set ?_ GE187.out | refine below_set ?_ GE188.out) | exact HB.out))) : w.heap.size ≤ gb189)); have n7_ := Am ((by rw [hg]; exact (below_size (by repeat (first | (with_reducible first | exact HB.out | apply below_alloc | apply pw_below_drewN | apply below_drew1 | refine below_set ?_ GE186.out | refine below_set ?_ GE187.out | refine below_set ?_ GE188.out) | exact HB.out))) : w.heap.size ≤ gb189)); have n8_ := Am ((by rw [hg]; exact Nat.ne_of_lt (blk_lt (g := gb186) (o := .cells #[.int .i64 a0_0, .slice A0_1 l0_1.length c0_1] 24 (0, 0)) (by (with_reducible repeat (first | refine blk_drewN ?_ _ | refine blk_drew ?_ | refine blk_alloc ?_ _)); exact BK186.out)) : gb186 ≠ gb189)); have n9_ := Am ((by rw [hg]; exact Nat.ne_of_gt (blk_lt (g := gb186) (o := .cells #[.int .i64 a0_0, .slice A0_1 l0_1.length c0_1] 24 (0, 0)) (by (with_reducible repeat (first | refine blk_drewN ?_ _ | refine blk_drew ?_ | refine blk_alloc ?_ _)); exact BK186.out)) : gb189 ≠ gb186)); have n10_ := Am ((by rw [hg]; exact Nat.ne_of_lt (blk_lt (g := gb187) (o := .cells #[.int .i64 a1_0, .slice A1_1 l1_1.length c1_1] 27 (0, 0)) (by (with_reducible repeat (first | refine blk_drewN ?_ _ | refine blk_drew ?_ | refine blk_alloc ?_ _)); exact BK187.out)) : gb187 ≠ gb189)); have n11_ := Am ((by rw [hg]; exact Nat.ne_of_gt (blk_lt (g := gb187) (o := .cells #[.int .i64 a1_0, .slice A1_1 l1_1.length c1_1] 27 (0, 0)) (by (with_reducible repeat (first | refine blk_drewN ?_ _ | refine blk_drew ?_ | refine blk_alloc ?_ _)); exact BK187.out)) : gb189 ≠ gb187)); have n12_ := Am ((by rw [hg]; exact Nat.ne_of_lt (blk_lt (g := gb188) (o := .cells #[.int .i64 a4_0, .int .i64 a4_1, .int .i64 a4_2, .int .i64 a4_3, .int .i64 a4_4, .int .i64 a4_5, .int .i64 a4_6, .int .i64 a4_7, .int .i64 a4_8, .int .i64 a4_9, .slice A4_10 l4_10.length c4_10] 31 (0, 0)) (by (with_reducible repeat (first | refine blk_drewN ?_ _ | refine blk_drew ?_ | refine blk_alloc ?_ _)); exact BK188.out)) : gb188 ≠ gb189)); have n13_ := Am ((by rw [hg]; exact Nat.ne_of_gt (blk_lt (g := gb188) (o := .cells #[.int .i64 a4_0, .int .i64 a4_1, .int .i64 a4_2, .int .i64 a4_3, .int .i64 a4_4, .int .i64 a4_5, .int .i64 a4_6, .int .i64 a4_7, .int .i64 a4_8, .int .i64 a4_9, .slice A4_10 l4_10.length c4_10] 31 (0, 0)) (by (with_reducible repeat (first | refine blk_drewN ?_ _ | refine blk_drew ?_ | refine blk_alloc ?_ _)); exact BK188.out)) : gb189 ≠ gb188)); clear HO3; clear BK186; clear BK187; clear BK188; clear HB; have HO3 := n0_; have BK186 := n1_; have BK187 := n2_; have BK188 := n3_; have HB := n4_; have BK189 := n5_; have GW189 := n6_; have GE189 := n7_; have NB186_189 := n8_; have NB189_186 := n9_; have NB187_189 := n10_; have NB189_187 := n11_; have NB188_189 := n12_; have NB189_188 := n13_; clear n0_ n1_ n2_ n3_ n4_ n5_ n6_ n7_ n8_ n9_ n10_ n11_ n12_ n13_; clear hb hbox hg; have hnb149 := NB186_187.out; have hnc149 := NB187_186.out; have hnb150 := NB186_188.out; have hnc150 := NB188_186.out; have hnb151 := NB186_189.out; have hnc151 := NB189_186.out; have hcz152_0 : w148.cell? ⟨gb186, 0, none⟩ = some (.int .i64 a0_0) := (blk_cell BK186.out 0).trans rfl; have hcz152_1 : w148.cell? ⟨gb186, 1, none⟩ = some (.slice A0_1 l0_1.length c0_1) := (blk_cell BK186.out 1).trans rfl; have hfz152_0 := blk_frozen BK186.out 0; have hfz152_1 := blk_frozen BK186.out 1; have hnb153 := NB187_188.out; have hnc153 := NB188_187.out; have hnb154 := NB187_189.out; have hnc154 := NB189_187.out; have hcz155_0 : w148.cell? ⟨gb187, 0, none⟩ = some (.int .i64 a1_0) := (blk_cell BK187.out 0).trans rfl; have hcz155_1 : w148.cell? ⟨gb187, 1, none⟩ = some (.slice A1_1 l1_1.length c1_1) := (blk_cell BK187.out 1).trans rfl; have hfz155_0 := blk_frozen BK187.out 0; have hfz155_1 := blk_frozen BK187.out 1; have hnb156 := NB188_189.out; have hnc156 := NB189_188.out; have hcz157_0 : w148.cell? ⟨gb188, 0, none⟩ = some (.int .i64 a4_0) := (blk_cell BK188.out 0).trans rfl; have hcz157_1 : w148.cell? ⟨gb188, 1, none⟩ = some (.int .i64 a4_1) := (blk_cell BK188.out 1).trans rfl; have hcz157_2 : w148.cell? ⟨gb188, 2, none⟩ = some (.int .i64 a4_2) := (blk_cell BK188.out 2).trans rfl; have hcz157_3 : w148.cell? ⟨gb188, 3, none⟩ = some (.int .i64 a4_3) := (blk_cell BK188.out 3).trans rfl; have hcz157_4 : w148.cell? ⟨gb188, 4, none⟩ = some (.int .i64 a4_4) := (blk_cell BK188.out 4).trans rfl; have hcz157_5 : w148.cell? ⟨gb188, 5, none⟩ = some (.int .i64 a4_5) := (blk_cell BK188.out 5).trans rfl; have hcz157_6 : w148.cell? ⟨gb188, 6, none⟩ = some (.int .i64 a4_6) := (blk_cell BK188.out 6).trans rfl; have hcz157_7 : w148.cell? ⟨gb188, 7, none⟩ = some (.int .i64 a4_7) := (blk_cell BK188.out 7).trans rfl; have hcz157_8 : w148.cell? ⟨gb188, 8, none⟩ = some (.int .i64 a4_8) := (blk_cell BK188.out 8).trans rfl; have hcz157_9 : w148.cell? ⟨gb188, 9, none⟩ = some (.int .i64 a4_9) := (blk_cell BK188.out 9).trans rfl; have hcz157_10 : w148.cell? ⟨gb188, 10, none⟩ = some (.slice A4_10 l4_10.length c4_10) := (blk_cell BK188.out 10).trans rfl; have hfz157_0 := blk_frozen BK188.out 0; have hfz157_1 := blk_frozen BK188.out 1; have hfz157_2 := blk_frozen BK188.out 2; have hfz157_3 := blk_frozen BK188.out 3; have hfz157_4 := blk_frozen BK188.out 4; have hfz157_5 := blk_frozen BK188.out 5; have hfz157_6 := blk_frozen BK188.out 6; have hfz157_7 := blk_frozen BK188.out 7; have hfz157_8 := blk_frozen BK188.out 8; have hfz157_9 := blk_frozen BK188.out 9; have hfz157_10 := blk_frozen BK188.out 10) | ((with_reducible refine gate_callee (f := 16) rfl ?_); refine goesL_ (some 21) rfl rfl Try.func16 (by kernel_rfl) rfl #[.agg #[.int .i64 a0_0, .slice A0_1 l0_1.length c0_1], .agg #[.int .i64 a1_0, .slice A1_1 l1_1.length c1_1], .int .i64 a2, .agg #[.int .i64 a4_0, .int .i64 a4_1, .int .i64 a4_2, .int .i64 a4_3, .int .i64 a4_4, .int .i64 a4_5, .int .i64 a4_6, .int .i64 a4_7, .int .i64 a4_8, .int .i64 a4_9, .slice A4_10 l4_10.length c4_10]] rfl (by (try simp only [List.map_toArray, List.map_cons, List.map_nil]); first | done | rfl | (simp only [List.length_drop, List.length_take]; rfl)) ?_; (with_reducible refine (node_fits.calls k a0_0 _ _ l0_1 a1_0 _ _ l1_1 a2 a4_0 a4_1 a4_2 a4_3 a4_4 a4_5 a4_6 a4_7 a4_8 a4_9 _ _ l4_10 false _ ?side1 ?side2 ?side3 ?side4 ?side5 ?side6 A6.out).mono ?_); (case side1 => repeat (first | exact (Kd.C_below HR0_1.out HB.out) | (with_reducible refine Kd.C_alloc ?_ _) | (with_reducible refine Kd.C_drewN ?_ _) | (with_reducible refine Kd.C_drew ?_))); (case side2 => exact HC0_1.out); (case side3 => repeat (first | exact (Kd.C_below HR1_1.out HB.out) | (with_reducible refine Kd.C_alloc ?_ _) | (with_reducible refine Kd.C_drewN ?_ _) | (with_reducible refine Kd.C_drew ?_))); (case side4 => exact HC1_1.out); (case side5 => repeat (first | exact (Kd.C_below HR4_10.out HB.out) | (with_reducible refine Kd.C_alloc ?_ _) | (with_reducible refine Kd.C_drewN ?_ _) | (with_reducible refine Kd.C_drew ?_))); (case side6 => exact HC4_10.out); rintro e w158 ⟨rfl, hb⟩; refine ⟨_, rfl, ?_⟩; have n0_ := Am (Kd.V_below (by (with_reducible repeat (first | apply Kd.V_alloc | apply Kd.V_drewN | apply Kd.V_drew)); exact HO3.out) hb); have n1_ := Am (blk_below (g := gb186) (o := .cells #[.int .i64 a0_0, .slice A0_1 l0_1.length c0_1] 24 (0, 0)) (by (with_reducible repeat (first | refine blk_drewN ?_ _ | refine blk_drew ?_ | refine blk_alloc ?_ _)); exact BK186.out) hb); have n2_ := Am (blk_below (g := gb187) (o := .cells #[.int .i64 a1_0, .slice A1_1 l1_1.length c1_1] 27 (0, 0)) (by (with_reducible repeat (first | refine blk_drewN ?_ _ | refine blk_drew ?_ | refine blk_alloc ?_ _)); exact BK187.out) hb); have n3_ := Am (blk_below (g := gb188) (o := .cells #[.int .i64 a4_0, .int .i64 a4_1, .int .i64 a4_2, .int .i64 a4_3, .int .i64 a4_4, .int .i64 a4_5, .int .i64 a4_6, .int .i64 a4_7, .int .i64 a4_8, .int .i64 a4_9, .slice A4_10 l4_10.length c4_10] 31 (0, 0)) (by (with_reducible repeat (first | refine blk_drewN ?_ _ | refine blk_drew ?_ | refine blk_alloc ?_ _)); exact BK188.out) hb); have n4_ := Am (blk_below (g := gb189) (o := .cells #[.int .i64 0, .int .i64 0, .int .i64 0, .int .i64 0, .int .i64 0, .int .i64 0, .int .i64 0, .int .i64 0, .int .i64 0, .int .i64 0, .slice none 0 0] 31 (0, 0)) (by (with_reducible repeat (first | refine blk_drewN ?_ _ | refine blk_drew ?_ | refine blk_alloc ?_ _)); exact BK189.out) hb); have n5_ := Am (below_step (by repeat (first | (with_reducible first | exact HB.out | apply below_alloc | apply pw_below_drewN | apply below_drew1 | refine below_set ?_ GE186.out | refine below_set ?_ GE187.out | refine below_set ?_ GE188.out | refine below_set ?_ GE189.out) | exact HB.out)) hb); clear HO3; clear BK186; clear BK187; clear BK188; clear BK189; clear HB; have HO3 := n0_; have BK186 := n1_; have BK187 := n2_; have BK188 := n3_; have BK189 := n4_; have HB := n5_; clear n0_ n1_ n2_ n3_ n4_ n5_; (try clear hb); (try clear hb2); (try clear hk); (try clear hi); have hcz159_0 : w158.cell? ⟨gb189, 0, none⟩ = some (.int .i64 0) := (blk_cell BK189.out 0).trans rfl; have hcz159_1 : w158.cell? ⟨gb189, 1, none⟩ = some (.int .i64 0) := (blk_cell BK189.out 1).trans rfl; have hcz159_2 : w158.cell? ⟨gb189, 2, none⟩ = some (.int .i64 0) := (blk_cell BK189.out 2).trans rfl; have hcz159_3 : w158.cell? ⟨gb189, 3, none⟩ = some (.int .i64 0) := (blk_cell BK189.out 3).trans rfl; have hcz159_4 : w158.cell? ⟨gb189, 4, none⟩ = some (.int .i64 0) := (blk_cell BK189.out 4).trans rfl; have hcz159_5 : w158.cell? ⟨gb189, 5, none⟩ = some (.int .i64 0) := (blk_cell BK189.out 5).trans rfl; have hcz159_6 : w158.cell? ⟨gb189, 6, none⟩ = some (.int .i64 0) := (blk_cell BK189.out 6).trans rfl; have hcz159_7 : w158.cell? ⟨gb189, 7, none⟩ = some (.int .i64 0) := (blk_cell BK189.out 7).trans rfl; have hcz159_8 : w158.cell? ⟨gb189, 8, none⟩ = some (.int .i64 0) := (blk_cell BK189.out 8).trans rfl; have hcz159_9 : w158.cell? ⟨gb189, 9, none⟩ = some (.int .i64 0) := (blk_cell BK189.out 9).trans rfl; have hcz159_10 : w158.cell? ⟨gb189, 10, none⟩ = some (.slice none 0 0) := (blk_cell BK189.out 10).trans rfl; have hfz159_0 := blk_frozen BK189.out 0; have hfz159_1 := blk_frozen BK189.out 1; have hfz159_2 := blk_frozen BK189.out 2; have hfz159_3 := blk_frozen BK189.out 3; have hfz159_4 := blk_frozen BK189.out 4; have hfz159_5 := blk_frozen BK189.out 5; have hfz159_6 := blk_frozen BK189.out 6; have hfz159_7 := blk_frozen BK189.out 7; have hfz159_8 := blk_frozen BK189.out 8; have hfz159_9 := blk_frozen BK189.out 9; have hfz159_10 := blk_frozen BK189.out 10))
   refine bodyPost_ret (results_list (rs := [.tmp 10, .cell 11 31, .tmp 12]) rfl (by simp) (.tmp (.cell gb189 31 #[.int .i64 0, .int .i64 0, .int .i64 0, .int .i64 0, .int .i64 0, .int .i64 0, .int .i64 0, .int .i64 0, .int .i64 0, .int .i64 0, .slice none 0 0] (0, 0) _ rfl (by (with_reducible repeat (first | refine blk_drewN ?_ _ | refine blk_drew ?_ | refine blk_alloc ?_ _)); refine blk_put (cs := #[.int .i64 0, .int .i64 0, .int .i64 0, .int .i64 0, .int .i64 0, .int .i64 0, .int .i64 0, .int .i64 0, .int .i64 0, .int .i64 0, .slice none 0 0]) ?_ 10 _ rfl; (with_reducible repeat (first | refine blk_drewN ?_ _ | refine blk_drew ?_ | refine blk_alloc ?_ _)); refine blk_put (cs := #[.int .i64 0, .int .i64 0, .int .i64 0, .int .i64 0, .int .i64 0, .int .i64 0, .int .i64 0, .int .i64 0, .int .i64 0, .int .i64 0, .slice none 0 0]) ?_ 9 _ rfl; (with_reducible repeat (first | refine blk_drewN ?_ _ | refine blk_drew ?_ | refine blk_alloc ?_ _)); refine blk_put (cs := #[.int .i64 0, .int .i64 0, .int .i64 0, .int .i64 0, .int .i64 0, .int .i64 0, .int .i64 0, .int .i64 0, .int .i64 0, .int .i64 0, .slice none 0 0]) ?_ 8 _ rfl; (with_reducible repeat (first | refine blk_drewN ?_ _ | refine blk_drew ?_ | refine blk_alloc ?_ _)); refine blk_put (cs := #[.int .i64 0, .int .i64 0, .int .i64 0, .int .i64 0, .int .i64 0, .int .i64 0, .int .i64 0, .int .i64 0, .int .i64 0, .int .i64 0, .slice none 0 0]) ?_ 7 _ rfl; (with_reducible repeat (first | refine blk_drewN ?_ _ | refine blk_drew ?_ | refine blk_alloc ?_ _)); refine blk_put (cs := #[.int .i64 0, .int .i64 0, .int .i64 0, .int .i64 0, .int .i64 0, .int .i64 0, .int .i64 0, .int .i64 0, .int .i64 0, .int .i64 0, .slice none 0 0]) ?_ 6 _ rfl; (with_reducible repeat (first | refine blk_drewN ?_ _ | refine blk_drew ?_ | refine blk_alloc ?_ _)); refine blk_put (cs := #[.int .i64 0, .int .i64 0, .int .i64 0, .int .i64 0, .int .i64 0, .int .i64 0, .int .i64 0, .int .i64 0, .int .i64 0, .int .i64 0, .slice none 0 0]) ?_ 5 _ rfl; (with_reducible repeat (first | refine blk_drewN ?_ _ | refine blk_drew ?_ | refine blk_alloc ?_ _)); refine blk_put (cs := #[.int .i64 0, .int .i64 0, .int .i64 0, .int .i64 0, .int .i64 0, .int .i64 0, .int .i64 0, .int .i64 0, .int .i64 0, .int .i64 0, .slice none 0 0]) ?_ 4 _ rfl; (with_reducible repeat (first | refine blk_drewN ?_ _ | refine blk_drew ?_ | refine blk_alloc ?_ _)); refine blk_put (cs := #[.int .i64 0, .int .i64 0, .int .i64 0, .int .i64 0, .int .i64 0, .int .i64 0, .int .i64 0, .int .i64 0, .int .i64 0, .int .i64 0, .slice none 0 0]) ?_ 3 _ rfl; (with_reducible repeat (first | refine blk_drewN ?_ _ | refine blk_drew ?_ | refine blk_alloc ?_ _)); refine blk_put (cs := #[.int .i64 0, .int .i64 0, .int .i64 0, .int .i64 0, .int .i64 0, .int .i64 0, .int .i64 0, .int .i64 0, .int .i64 0, .int .i64 0, .slice none 0 0]) ?_ 2 _ rfl; (with_reducible repeat (first | refine blk_drewN ?_ _ | refine blk_drew ?_ | refine blk_alloc ?_ _)); refine blk_put (cs := #[.int .i64 0, .int .i64 0, .int .i64 0, .int .i64 0, .int .i64 0, .int .i64 0, .int .i64 0, .int .i64 0, .int .i64 0, .int .i64 0, .slice none 0 0]) ?_ 1 _ rfl; (with_reducible repeat (first | refine blk_drewN ?_ _ | refine blk_drew ?_ | refine blk_alloc ?_ _)); refine blk_put (cs := #[.int .i64 0, .int .i64 0, .int .i64 0, .int .i64 0, .int .i64 0, .int .i64 0, .int .i64 0, .int .i64 0, .int .i64 0, .int .i64 0, .slice none 0 0]) ?_ 0 _ rfl; (with_reducible repeat (first | refine blk_drewN ?_ _ | refine blk_drew ?_ | refine blk_alloc ?_ _)); exact BK189.out) Try.underlying31 rfl (by kernel_rfl) (.tmp .nil)))) rfl ?_
   exact ⟨_, _, by first | rfl | (simp [errW_none, errW_some] <;> rfl) | (simp [*, errW_none, errW_some] <;> rfl), by (with_reducible repeat (first | apply Kd.V_alloc | apply Kd.V_drewN | apply Kd.V_drew)); exact Kd.V_mono (Kd.V_far (p := ⟨gb189, 10, none⟩) (Kd.V_far (p := ⟨gb189, 9, none⟩) (Kd.V_far (p := ⟨gb189, 8, none⟩) (Kd.V_far (p := ⟨gb189, 7, none⟩) (Kd.V_far (p := ⟨gb189, 6, none⟩) (Kd.V_far (p := ⟨gb189, 5, none⟩) (Kd.V_far (p := ⟨gb189, 4, none⟩) (Kd.V_far (p := ⟨gb189, 3, none⟩) (Kd.V_far (p := ⟨gb189, 2, none⟩) (Kd.V_far (p := ⟨gb189, 1, none⟩) (Kd.V_far (p := ⟨gb189, 0, none⟩) (Kd.V_mono HO3.out (fun k_ hk => (⟨hk, hk.2⟩ : _ ∧ k_ ≠ gb189))) (fun _ hk => hk.2) (.int .i64 0)) (fun _ hk => hk.2) (.int .i64 0)) (fun _ hk => hk.2) (.int .i64 0)) (fun _ hk => hk.2) (.int .i64 0)) (fun _ hk => hk.2) (.int .i64 0)) (fun _ hk => hk.2) (.int .i64 0)) (fun _ hk => hk.2) (.int .i64 0)) (fun _ hk => hk.2) (.int .i64 0)) (fun _ hk => hk.2) (.int .i64 0)) (fun _ hk => hk.2) (.int .i64 0)) (fun _ hk => hk.2) (.slice none 0 0)) (fun _ hk => ⟨hk.1.1.1.1.1, (by simp [Value.ownBlock])⟩), by first | exact Kd.R_nil _ _ _ _ _ | exact Kd.N_nil _ _ _ _ _ | exact Kd.V_nil _ _ _ _ _ | exact Kd.Q_nil _ _ _ _ _ | exact Kd.S_nil _ _ _ _ _, by repeat (first | (with_reducible first | exact HB.out | apply below_alloc | apply pw_below_drewN | apply below_drew1 | refine below_set ?_ GE186.out | refine below_set ?_ GE187.out | refine below_set ?_ GE188.out | refine below_set ?_ GE189.out) | exact HB.out)⟩

end Go.Proofs.Ytabklpdjjoaocaa.Qz
