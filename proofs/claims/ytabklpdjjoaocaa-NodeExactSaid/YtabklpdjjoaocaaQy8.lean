/- Own text, by hand: the walk of node.Work (its functions are the print's). -/
import Derived.Test.YtabklpdjjoaocaaQy0
import Derived.Test.YtabklpdjjoaocaaQy5
import Derived.Test.YtabklpdjjoaocaaQy6
import Derived.Test.YtabklpdjjoaocaaQy7
namespace Go.Proofs.Ytabklpdjjoaocaa.Qy
open Go.RowKit Go.Proofs.YtabklpdjjoaocaaW.PrintWords Go.Proofs.YtabklpdjjoaocaaW.PrintLast Go.Proofs.YtabklpdjjoaocaaW.PrintMore
attribute [local go_sem] max2_int min2_int max_two min_two max_three min_three max_four min_four   -- for this text's walks alone
set_option linter.unusedVariables false
set_option linter.unusedSimpArgs false

/-! ### node_Work: function 10 -/
def node_Work.j0 : Nat → List (S39) → Bool → Int → List (S61) → Int → Int → Int → Int → Int → Int → Int → Int → Int → Int → List Int → Int → Int → Int → Int → Int → Int → Int → Int → Int → Int → Option ((List (S39)) × Int × Int × Int × Int × Int × Int × Int × Int × Int × Int × List Int × Bool)
 | 0, _, _, _, _, _, _, _, _, _, _, _, _, _, _, _, _, _, _, _, _, _, _, _, _, _ => none
 | k + 1, x3, x48, x187000, x187001, x189000, x189001, x189002, x189003, x189004, x189005, x189006, x189007, x189008, x189009, x189010, x192000, x192001, x192002, x192003, x192004, x192005, x192006, x192007, x192008, x192009 => if x48 = true then (some (x3, x192000, x192001, x192002, x192003, x192004, x192005, x192006, x192007, x192008, x192009, ([] : List Int), true)) else ((ledger_Find.f x3 x189004 x189005 x189006 x189007).bind fun bt194 => (if bt194.2 = true then (some (x3, 2, x192001, x192002, x192003, x192004, x192005, x192006, x192007, x192008, x192009, bt194.1, true)) else (if 0 ≤ x189005 then (if x189005 < (x187001.length : Int) then (if 0 ≤ x189008 then (if x189008 < (((rd_T61 x187001 x189005).f1).length : Int) then ((expert_Run.f k ((rd_T63 ((rd_T61 x187001 x189005).f1) x189008).f0) ((rd_T63 ((rd_T61 x187001 x189005).f1) x189008).f1) x189010).bind fun bt200 => ((ledger_Enter.f x3 x189004 x189005 x189006 x189007 bt200.1).bind fun bt204 => (some (bt204.1, 2, x192001, x192002, x192003, x192004, x192005, x192006, x192007, x192008, x192009, bt200.1, true)))) else (none)) else (none)) else (none)) else (none))))
def node_Work.f (k : Nat) (a0_0 : Int) (l0_1 : List (S61)) (a1_0 : Int) (l1_1 : List (List Int)) (a2 : Int) (l3 : List (S39)) (a4_0 : Int) (a4_1 : Int) (a4_2 : Int) (a4_3 : Int) (a4_4 : Int) (a4_5 : Int) (a4_6 : Int) (a4_7 : Int) (a4_8 : Int) (a4_9 : Int) (l4_10 : List Int) : Option ((List (S39)) × Int × Int × Int × Int × Int × Int × Int × Int × Int × Int × List Int × Bool) := (node_fits.f k a0_0 l0_1 a1_0 l1_1 a2 a4_0 a4_1 a4_2 a4_3 a4_4 a4_5 a4_6 a4_7 a4_8 a4_9 l4_10).bind fun t190 => (if t190 = true then (if a4_9 = a1_0 then ((place_Holds.f k a1_0 l1_1 a4_8 a2).bind fun t192 => (node_Work.j0 k l3 (!t192) a0_0 l0_1 a4_0 a4_1 a4_2 a4_3 a4_4 a4_5 a4_6 a4_7 a4_8 a4_9 l4_10 3 a2 a4_1 a4_3 a4_4 a4_5 a4_6 a4_7 a4_8 a1_0)) else (node_Work.j0 k l3 true a0_0 l0_1 a4_0 a4_1 a4_2 a4_3 a4_4 a4_5 a4_6 a4_7 a4_8 a4_9 l4_10 3 a2 a4_1 a4_3 a4_4 a4_5 a4_6 a4_7 a4_8 a1_0)) else (some (l3, 0, 0, 0, 0, 0, 0, 0, 0, 0, 0, ([] : List Int), false)))
theorem node_Work.mono_l : ∀ k, (∀ y0 y1 y2 y3 y4 y5 y6 y7 y8 y9 y10 y11 y12 y13 y14 y15 y16 y17 y18 y19 y20 y21 y22 y23 y24, LeO (node_Work.j0 k y0 y1 y2 y3 y4 y5 y6 y7 y8 y9 y10 y11 y12 y13 y14 y15 y16 y17 y18 y19 y20 y21 y22 y23 y24) (node_Work.j0 (k + 1) y0 y1 y2 y3 y4 y5 y6 y7 y8 y9 y10 y11 y12 y13 y14 y15 y16 y17 y18 y19 y20 y21 y22 y23 y24))
 | 0 => fun _ _ _ _ _ _ _ _ _ _ _ _ _ _ _ _ _ _ _ _ _ _ _ _ _ r h => by simp [node_Work.j0] at h
 | k + 1 => by
  have ih0 := node_Work.mono_l k
  ·
   intro y0 y1 y2 y3 y4 y5 y6 y7 y8 y9 y10 y11 y12 y13 y14 y15 y16 y17 y18 y19 y20 y21 y22 y23 y24
   unfold node_Work.j0
   repeat' first
   | (with_reducible exact ih0 _ _ _ _ _ _ _ _ _ _ _ _ _ _ _ _ _ _ _ _ _ _ _ _ _)
   | (with_reducible exact expert_Run.mono _ _ _ _)
   | (with_reducible exact node_fits.mono _ _ _ _ _ _ _ _ _ _ _ _ _ _ _ _ _)
   | (with_reducible exact place_Holds.mono _ _ _ _ _)
   | (with_reducible exact LeO.refl _)
   | (with_reducible exact LeO.none _)
   | (with_reducible refine LeO.ite ?_ ?_)
   | (with_reducible refine LeO.bind ?_ (fun _ => ?_))
   | exact ih0 _ _ _ _ _ _ _ _ _ _ _ _ _ _ _ _ _ _ _ _ _ _ _ _ _
   | exact expert_Run.mono _ _ _ _
   | exact node_fits.mono _ _ _ _ _ _ _ _ _ _ _ _ _ _ _ _ _
   | exact place_Holds.mono _ _ _ _ _
   | exact LeO.none _
   | refine LeO.ite ?_ ?_
   | refine LeO.bind ?_ (fun _ => ?_)
theorem node_Work.mono : ∀ a0 a1 a2 a3 a4 a5 a6 a7 a8 a9 a10 a11 a12 a13 a14 a15 a16 k, LeO (node_Work.f k a0 a1 a2 a3 a4 a5 a6 a7 a8 a9 a10 a11 a12 a13 a14 a15 a16) (node_Work.f (k + 1) a0 a1 a2 a3 a4 a5 a6 a7 a8 a9 a10 a11 a12 a13 a14 a15 a16) := by
 intro a0 a1 a2 a3 a4 a5 a6 a7 a8 a9 a10 a11 a12 a13 a14 a15 a16 k
 have ih0 := node_Work.mono_l k
 unfold node_Work.f
 repeat' first
  | (with_reducible exact ih0 _ _ _ _ _ _ _ _ _ _ _ _ _ _ _ _ _ _ _ _ _ _ _ _ _)
  | (with_reducible exact expert_Run.mono _ _ _ _)
  | (with_reducible exact node_fits.mono _ _ _ _ _ _ _ _ _ _ _ _ _ _ _ _ _)
  | (with_reducible exact place_Holds.mono _ _ _ _ _)
  | (with_reducible exact LeO.refl _)
  | (with_reducible exact LeO.none _)
  | (with_reducible refine LeO.ite ?_ ?_)
  | (with_reducible refine LeO.bind ?_ (fun _ => ?_))
  | exact ih0 _ _ _ _ _ _ _ _ _ _ _ _ _ _ _ _ _ _ _ _ _ _ _ _ _
  | exact expert_Run.mono _ _ _ _
  | exact node_fits.mono _ _ _ _ _ _ _ _ _ _ _ _ _ _ _ _ _
  | exact place_Holds.mono _ _ _ _ _
  | exact LeO.none _
  | refine LeO.ite ?_ ?_
  | refine LeO.bind ?_ (fun _ => ?_)
/-- The blocks of the call: the three parameters, the result. -/
structure N4 (w W : World) (m p a r : Array Value) : Prop where
 hb : Below w.heap.size w W
 m : W.heap[w.heap.size]? = some (.cells m 24 (0, 0))
 p : W.heap[w.heap.size + 1]? = some (.cells p 27 (0, 0))
 a : W.heap[w.heap.size + 1 + 1]? = some (.cells a 31 (0, 0))
 r : W.heap[w.heap.size + 1 + 1 + 1]? = some (.cells r 31 (0, 0))
theorem N4.below {w W W' : World} {m p a r : Array Value} (h : N4 w W m p a r) (hb : Below W.heap.size W W') : N4 w W' m p a r := ⟨below_step h.hb hb, blk_below h.m hb, blk_below h.p hb, blk_below h.a hb, blk_below h.r hb⟩
theorem heap_size_alloc8 (w : World) (o : Obj) : (w.alloc o).heap.size = w.heap.size + 1 := by
 show (w.heap.push o).size = _
 exact Array.size_push ..
theorem N4.start (w : World) (m p a r : Array Value) : N4 w ((((w.alloc (.cells m 24)).alloc (.cells p 27)).alloc (.cells a 31)).alloc (.cells r 31)) m p a r := by
 refine ⟨below_alloc (below_alloc (below_alloc (below_alloc (Below.refl _ _) _) _) _) _, ?_, ?_, ?_, ?_⟩
 ·
  exact blk_alloc (blk_alloc (blk_alloc (heap_alloc_new _ _) _) _) _
 ·
  refine blk_alloc (blk_alloc ?_ _) _
  have h := heap_alloc_new (w.alloc (.cells m 24)) (.cells p 27)
  rw [heap_size_alloc8] at h
  exact h
 ·
  refine blk_alloc ?_ _
  have h := heap_alloc_new ((w.alloc (.cells m 24)).alloc (.cells p 27)) (.cells a 31)
  rw [heap_size_alloc8, heap_size_alloc8] at h
  exact h
 ·
  have h := heap_alloc_new (((w.alloc (.cells m 24)).alloc (.cells p 27)).alloc (.cells a 31)) (.cells r 31)
  rw [heap_size_alloc8, heap_size_alloc8, heap_size_alloc8] at h
  exact h
theorem N4.cast {w W : World} {m p a r r' : Array Value} (h : N4 w W m p a r) (e : r = r') : N4 w W m p a r' := e ▸ h
theorem N4.putr {w W : World} {m p a r : Array Value} (h : N4 w W m p a r) (i : Nat) (u : Value) : N4 w (W.setCell ⟨w.heap.size + 1 + 1 + 1, i, none⟩ u) m p a (r.setIfInBounds i u) :=
 have far : ∀ k, k ≠ w.heap.size + 1 + 1 + 1 → (W.setCell ⟨w.heap.size + 1 + 1 + 1, i, none⟩ u).heap[k]? = W.heap[k]? := fun k hk => Below.heap_setCell W _ u k hk
 ⟨h.hb.setCell (p := ⟨w.heap.size + 1 + 1 + 1, i, none⟩) (by show w.heap.size ≤ w.heap.size + 1 + 1 + 1; omega) u, (far _ (by omega)).trans h.m, (far _ (by omega)).trans h.p, (far _ (by omega)).trans h.a, blk_put h.r i u rfl⟩
theorem N4.far {w W : World} {m p a r : Array Value} (h : N4 w W m p a r) {q : Addr} (hq : w.heap.size + 1 + 1 + 1 < q.block) (u : Value) : N4 w (W.setCell q u) m p a r :=
 have far : ∀ k, k ≤ w.heap.size + 1 + 1 + 1 → (W.setCell q u).heap[k]? = W.heap[k]? := fun k hk => Below.heap_setCell W _ u k (by omega)
 ⟨h.hb.setCell (p := q) (by omega) u, (far _ (by omega)).trans h.m, (far _ (by omega)).trans h.p, (far _ (by omega)).trans h.a, (far _ (by omega)).trans h.r⟩
theorem N4.putall {w W : World} {m p a : Array Value} (h : N4 w W m p a #[.int .i64 0, .int .i64 0, .int .i64 0, .int .i64 0, .int .i64 0, .int .i64 0, .int .i64 0, .int .i64 0, .int .i64 0, .int .i64 0, .slice none 0 0]) (u0 u1 u2 u3 u4 u5 u6 u7 u8 u9 u10 : Value) : N4 w (((((((((((W.setCell ⟨w.heap.size + 1 + 1 + 1, 0, none⟩ u0).setCell ⟨w.heap.size + 1 + 1 + 1, 1, none⟩ u1).setCell ⟨w.heap.size + 1 + 1 + 1, 2, none⟩ u2).setCell ⟨w.heap.size + 1 + 1 + 1, 3, none⟩ u3).setCell ⟨w.heap.size + 1 + 1 + 1, 4, none⟩ u4).setCell ⟨w.heap.size + 1 + 1 + 1, 5, none⟩ u5).setCell ⟨w.heap.size + 1 + 1 + 1, 6, none⟩ u6).setCell ⟨w.heap.size + 1 + 1 + 1, 7, none⟩ u7).setCell ⟨w.heap.size + 1 + 1 + 1, 8, none⟩ u8).setCell ⟨w.heap.size + 1 + 1 + 1, 9, none⟩ u9).setCell ⟨w.heap.size + 1 + 1 + 1, 10, none⟩ u10) m p a #[u0, u1, u2, u3, u4, u5, u6, u7, u8, u9, u10] := by
 have h1 := (h.putr 0 u0).cast (r' := #[u0, .int .i64 0, .int .i64 0, .int .i64 0, .int .i64 0, .int .i64 0, .int .i64 0, .int .i64 0, .int .i64 0, .int .i64 0, .slice none 0 0]) rfl
 have h2 := (h1.putr 1 u1).cast (r' := #[u0, u1, .int .i64 0, .int .i64 0, .int .i64 0, .int .i64 0, .int .i64 0, .int .i64 0, .int .i64 0, .int .i64 0, .slice none 0 0]) rfl
 have h3 := (h2.putr 2 u2).cast (r' := #[u0, u1, u2, .int .i64 0, .int .i64 0, .int .i64 0, .int .i64 0, .int .i64 0, .int .i64 0, .int .i64 0, .slice none 0 0]) rfl
 have h4 := (h3.putr 3 u3).cast (r' := #[u0, u1, u2, u3, .int .i64 0, .int .i64 0, .int .i64 0, .int .i64 0, .int .i64 0, .int .i64 0, .slice none 0 0]) rfl
 have h5 := (h4.putr 4 u4).cast (r' := #[u0, u1, u2, u3, u4, .int .i64 0, .int .i64 0, .int .i64 0, .int .i64 0, .int .i64 0, .slice none 0 0]) rfl
 have h6 := (h5.putr 5 u5).cast (r' := #[u0, u1, u2, u3, u4, u5, .int .i64 0, .int .i64 0, .int .i64 0, .int .i64 0, .slice none 0 0]) rfl
 have h7 := (h6.putr 6 u6).cast (r' := #[u0, u1, u2, u3, u4, u5, u6, .int .i64 0, .int .i64 0, .int .i64 0, .slice none 0 0]) rfl
 have h8 := (h7.putr 7 u7).cast (r' := #[u0, u1, u2, u3, u4, u5, u6, u7, .int .i64 0, .int .i64 0, .slice none 0 0]) rfl
 have h9 := (h8.putr 8 u8).cast (r' := #[u0, u1, u2, u3, u4, u5, u6, u7, u8, .int .i64 0, .slice none 0 0]) rfl
 have h10 := (h9.putr 9 u9).cast (r' := #[u0, u1, u2, u3, u4, u5, u6, u7, u8, u9, .slice none 0 0]) rfl
 have h11 := (h10.putr 10 u10).cast (r' := #[u0, u1, u2, u3, u4, u5, u6, u7, u8, u9, u10]) rfl
 exact h11
theorem R_far8 {α : Type} {d : Kd α} {e : TypeId} {W : World} {base : Nat} {ok : Nat → Prop} {v : Value} {xs : List α} (h : Kd.R d e W base ok v xs) {g : Nat} (hok : ∀ k, ok k → k ≠ g) (u0 u1 u2 u3 u4 u5 u6 u7 u8 u9 u10 : Value) : Kd.R d e (((((((((((W.setCell ⟨g, 0, none⟩ u0).setCell ⟨g, 1, none⟩ u1).setCell ⟨g, 2, none⟩ u2).setCell ⟨g, 3, none⟩ u3).setCell ⟨g, 4, none⟩ u4).setCell ⟨g, 5, none⟩ u5).setCell ⟨g, 6, none⟩ u6).setCell ⟨g, 7, none⟩ u7).setCell ⟨g, 8, none⟩ u8).setCell ⟨g, 9, none⟩ u9).setCell ⟨g, 10, none⟩ u10) base ok v xs := (Kd.R_far (Kd.R_far (Kd.R_far (Kd.R_far (Kd.R_far (Kd.R_far (Kd.R_far (Kd.R_far (Kd.R_far (Kd.R_far (Kd.R_far h (p := ⟨g, 0, none⟩) hok u0) (p := ⟨g, 1, none⟩) hok u1) (p := ⟨g, 2, none⟩) hok u2) (p := ⟨g, 3, none⟩) hok u3) (p := ⟨g, 4, none⟩) hok u4) (p := ⟨g, 5, none⟩) hok u5) (p := ⟨g, 6, none⟩) hok u6) (p := ⟨g, 7, none⟩) hok u7) (p := ⟨g, 8, none⟩) hok u8) (p := ⟨g, 9, none⟩) hok u9) (p := ⟨g, 10, none⟩) hok u10)
theorem V_far8 {α : Type} {d : Kd α} {e : Nat} {W : World} {base : Nat} {ok : Nat → Prop} {v : Value} {xs : List α} (h : Kd.V d e W base ok v xs) {g : Nat} (hok : ∀ k, ok k → k ≠ g) (u0 u1 u2 u3 u4 u5 u6 u7 u8 u9 u10 : Value) : Kd.V d e (((((((((((W.setCell ⟨g, 0, none⟩ u0).setCell ⟨g, 1, none⟩ u1).setCell ⟨g, 2, none⟩ u2).setCell ⟨g, 3, none⟩ u3).setCell ⟨g, 4, none⟩ u4).setCell ⟨g, 5, none⟩ u5).setCell ⟨g, 6, none⟩ u6).setCell ⟨g, 7, none⟩ u7).setCell ⟨g, 8, none⟩ u8).setCell ⟨g, 9, none⟩ u9).setCell ⟨g, 10, none⟩ u10) base ok v xs := (Kd.V_far (Kd.V_far (Kd.V_far (Kd.V_far (Kd.V_far (Kd.V_far (Kd.V_far (Kd.V_far (Kd.V_far (Kd.V_far (Kd.V_far h (p := ⟨g, 0, none⟩) hok u0) (p := ⟨g, 1, none⟩) hok u1) (p := ⟨g, 2, none⟩) hok u2) (p := ⟨g, 3, none⟩) hok u3) (p := ⟨g, 4, none⟩) hok u4) (p := ⟨g, 5, none⟩) hok u5) (p := ⟨g, 6, none⟩) hok u6) (p := ⟨g, 7, none⟩) hok u7) (p := ⟨g, 8, none⟩) hok u8) (p := ⟨g, 9, none⟩) hok u9) (p := ⟨g, 10, none⟩) hok u10)
theorem O_far8 {W : World} {q : Nat} {o : Obj} (h : W.heap[q]? = some o) {g : Nat} (hne : q ≠ g) (u0 u1 u2 u3 u4 u5 u6 u7 u8 u9 u10 : Value) : (((((((((((W.setCell ⟨g, 0, none⟩ u0).setCell ⟨g, 1, none⟩ u1).setCell ⟨g, 2, none⟩ u2).setCell ⟨g, 3, none⟩ u3).setCell ⟨g, 4, none⟩ u4).setCell ⟨g, 5, none⟩ u5).setCell ⟨g, 6, none⟩ u6).setCell ⟨g, 7, none⟩ u7).setCell ⟨g, 8, none⟩ u8).setCell ⟨g, 9, none⟩ u9).setCell ⟨g, 10, none⟩ u10).heap[q]? = some o := ((Below.heap_setCell _ ⟨g, 10, none⟩ u10 q hne).trans ((Below.heap_setCell _ ⟨g, 9, none⟩ u9 q hne).trans ((Below.heap_setCell _ ⟨g, 8, none⟩ u8 q hne).trans ((Below.heap_setCell _ ⟨g, 7, none⟩ u7 q hne).trans ((Below.heap_setCell _ ⟨g, 6, none⟩ u6 q hne).trans ((Below.heap_setCell _ ⟨g, 5, none⟩ u5 q hne).trans ((Below.heap_setCell _ ⟨g, 4, none⟩ u4 q hne).trans ((Below.heap_setCell _ ⟨g, 3, none⟩ u3 q hne).trans ((Below.heap_setCell _ ⟨g, 2, none⟩ u2 q hne).trans ((Below.heap_setCell _ ⟨g, 1, none⟩ u1 q hne).trans ((Below.heap_setCell _ ⟨g, 0, none⟩ u0 q hne).trans h)))))))))))
theorem cells11 {W : World} {g : Nat} {t : TypeId} {u0 u1 u2 u3 u4 u5 u6 u7 u8 u9 u10 : Value} (h : W.heap[g]? = some (.cells #[u0, u1, u2, u3, u4, u5, u6, u7, u8, u9, u10] t (0, 0))) : W.cell? ⟨g, 0, none⟩ = some u0 ∧ W.cell? ⟨g, 1, none⟩ = some u1 ∧ W.cell? ⟨g, 2, none⟩ = some u2 ∧ W.cell? ⟨g, 3, none⟩ = some u3 ∧ W.cell? ⟨g, 4, none⟩ = some u4 ∧ W.cell? ⟨g, 5, none⟩ = some u5 ∧ W.cell? ⟨g, 6, none⟩ = some u6 ∧ W.cell? ⟨g, 7, none⟩ = some u7 ∧ W.cell? ⟨g, 8, none⟩ = some u8 ∧ W.cell? ⟨g, 9, none⟩ = some u9 ∧ W.cell? ⟨g, 10, none⟩ = some u10 :=
 ⟨(blk_cell h 0).trans rfl, (blk_cell h 1).trans rfl, (blk_cell h 2).trans rfl, (blk_cell h 3).trans rfl, (blk_cell h 4).trans rfl, (blk_cell h 5).trans rfl, (blk_cell h 6).trans rfl, (blk_cell h 7).trans rfl, (blk_cell h 8).trans rfl, (blk_cell h 9).trans rfl, (blk_cell h 10).trans rfl⟩
theorem froz11 {W : World} {g : Nat} {t : TypeId} {cs : Array Value} (h : W.heap[g]? = some (.cells cs t (0, 0))) : W.frozen? ⟨g, 0, none⟩ = false ∧ W.frozen? ⟨g, 1, none⟩ = false ∧ W.frozen? ⟨g, 2, none⟩ = false ∧ W.frozen? ⟨g, 3, none⟩ = false ∧ W.frozen? ⟨g, 4, none⟩ = false ∧ W.frozen? ⟨g, 5, none⟩ = false ∧ W.frozen? ⟨g, 6, none⟩ = false ∧ W.frozen? ⟨g, 7, none⟩ = false ∧ W.frozen? ⟨g, 8, none⟩ = false ∧ W.frozen? ⟨g, 9, none⟩ = false ∧ W.frozen? ⟨g, 10, none⟩ = false :=
 ⟨blk_frozen h 0, blk_frozen h 1, blk_frozen h 2, blk_frozen h 3, blk_frozen h 4, blk_frozen h 5, blk_frozen h 6, blk_frozen h 7, blk_frozen h 8, blk_frozen h 9, blk_frozen h 10⟩
set_option maxHeartbeats 8000000 in
set_option maxRecDepth 100000 in
theorem node_Work.calls (k : Nat) (n : Int) (A0 : Option Addr) (c0 : Nat) (ls : List S61) (e : Int) (A1 : Option Addr) (c1 : Nat) (hs : List (List Int)) (me : Int) (P3 : Nat → Prop) (A3 : Option Addr) (c3 : Nat) (l : List S39) (a0 : Int) (a1 : Int) (a2 : Int) (a3 : Int) (a4 : Int) (a5 : Int) (a6 : Int) (a7 : Int) (a8 : Int) (a9 : Int) (A4 : Option Addr) (c4 : Nat) (v : List Int) (r1 : List S39) (r2 : Int) (r3 : Int) (r4 : Int) (r5 : Int) (r6 : Int) (r7 : Int) (r8 : Int) (r9 : Int) (r10 : Int) (r11 : Int) (r12 : List Int) (r13 : Bool) (w : World) (hr0_1 : Kd.C k61 w A0 ls.length ls) (hc0_1 : ls.length ≤ c0) (hr1_1 : Kd.C (Kd.slice 3 (Kd.int .i64)) w A1 hs.length hs) (hc1_1 : hs.length ≤ c1) (hs3 : Kd.V k39 39 w w.heap.size (fun k_ => P3 k_) (.slice A3 l.length c3) l) (hr4_10 : Kd.C (Kd.int .i64) w A4 v.length v) (hc4_10 : v.length ≤ c4) (h : node_Work.f k n ls e hs me l a0 a1 a2 a3 a4 a5 a6 a7 a8 a9 v = some (r1, r2, r3, r4, r5, r6, r7, r8, r9, r10, r11, r12, r13)) :
 Calls Try.prog 10 #[.agg #[.int .i64 n, .slice A0 ls.length c0], .agg #[.int .i64 e, .slice A1 hs.length c1], .int .i64 me, .slice A3 l.length c3, .agg #[.int .i64 a0, .int .i64 a1, .int .i64 a2, .int .i64 a3, .int .i64 a4, .int .i64 a5, .int .i64 a6, .int .i64 a7, .int .i64 a8, .int .i64 a9, .slice A4 v.length c4]] w fun e w' => ∃ v0_ v11_ : Value, e = .returned (.tuple #[v0_, .agg #[.int .i64 r2, .int .i64 r3, .int .i64 r4, .int .i64 r5, .int .i64 r6, .int .i64 r7, .int .i64 r8, .int .i64 r9, .int .i64 r10, .int .i64 r11, v11_], .bool r13]) ∧ Kd.V k39 39 w' w.heap.size (fun k_ => (P3 k_ ∨ w.heap.size ≤ k_) ∧ some k_ ≠ (v11_ : Value).ownBlock) v0_ r1 ∧ Kd.R (Kd.int .i64) 3 w' w.heap.size (fun k_ => (w.heap.size ≤ k_)) v11_ r12 ∧ Below w.heap.size w w' := by
 have hu24 := Try.underlying24; have hu27 := Try.underlying27; have hu31 := Try.underlying31; have hu37 := Try.underlying37; have hu63 := Try.underlying63; have HR0 := Aside0.mk hr0_1; have HC0 := Aside0.mk hc0_1; have HR1 := Aside0.mk hr1_1; have HC1 := Aside0.mk hc1_1; have HR4 := Aside0.mk hr4_10; have HC4 := Aside0.mk hc4_10
 have HV := Aside0.mk (Kd.V_bound hs3)
 clear hr0_1 hc0_1 hr1_1 hc1_1 hs3 hr4_10 hc4_10
 unfold node_Work.f at h
 obtain ⟨t1, hF, h⟩ := Option.bind_eq_some_iff.mp h
 have HF1 := Aside0.mk hF; clear hF
 have HL0 := Aside0.mk (N4.start w #[.int .i64 n, .slice A0 ls.length c0] #[.int .i64 e, .slice A1 hs.length c1] #[.int .i64 a0, .int .i64 a1, .int .i64 a2, .int .i64 a3, .int .i64 a4, .int .i64 a5, .int .i64 a6, .int .i64 a7, .int .i64 a8, .int .i64 a9, .slice A4 v.length c4] #[.int .i64 0, .int .i64 0, .int .i64 0, .int .i64 0, .int .i64 0, .int .i64 0, .int .i64 0, .int .i64 0, .int .i64 0, .int .i64 0, .slice none 0 0])
 cases t1
 case false =>
  rw [if_neg (show ¬ (false = true) by decide)] at h
  simp only [Option.some.injEq, Prod.mk.injEq] at h
  obtain ⟨rfl, rfl, rfl, rfl, rfl, rfl, rfl, rfl, rfl, rfl, rfl, rfl, rfl⟩ := h
  go_enter Try.func10, Try.ntmps10
  go_upto_region 1 with (fail)
  generalize ((((w.alloc (.cells #[.int .i64 n, .slice A0 ls.length c0] 24)).alloc (.cells #[.int .i64 e, .slice A1 hs.length c1] 27)).alloc (.cells #[.int .i64 a0, .int .i64 a1, .int .i64 a2, .int .i64 a3, .int .i64 a4, .int .i64 a5, .int .i64 a6, .int .i64 a7, .int .i64 a8, .int .i64 a9, .slice A4 v.length c4] 31)).alloc (.cells #[.int .i64 0, .int .i64 0, .int .i64 0, .int .i64 0, .int .i64 0, .int .i64 0, .int .i64 0, .int .i64 0, .int .i64 0, .int .i64 0, .slice none 0 0] 31)) = w0 at HL0 ⊢
  have hm0 : w0.cell? ⟨w.heap.size, 0, none⟩ = some (.int .i64 n) := (blk_cell HL0.out.m 0).trans rfl
  have hm1 : w0.cell? ⟨w.heap.size, 1, none⟩ = some (.slice A0 ls.length c0) := (blk_cell HL0.out.m 1).trans rfl
  have hp0 : w0.cell? ⟨w.heap.size + 1, 0, none⟩ = some (.int .i64 e) := (blk_cell HL0.out.p 0).trans rfl
  have hp1 : w0.cell? ⟨w.heap.size + 1, 1, none⟩ = some (.slice A1 hs.length c1) := (blk_cell HL0.out.p 1).trans rfl
  obtain ⟨ha0, ha1, ha2, ha3, ha4, ha5, ha6, ha7, ha8, ha9, ha10⟩ := cells11 HL0.out.a
  go_upto_region 2 with ((go_at_call 16; refine (node_fits.calls k n A0 c0 ls e A1 c1 hs me a0 a1 a2 a3 a4 a5 a6 a7 a8 a9 A4 c4 v false w0 (Kd.C_below HR0.out HL0.out.hb) HC0.out (Kd.C_below HR1.out HL0.out.hb) HC1.out (Kd.C_below HR4.out HL0.out.hb) HC4.out HF1.out).mono ?_; rintro e_ w1 ⟨rfl, hb⟩; have HL1 := Aside0.mk (HL0.out.below hb); clear hb hm0 hm1 hp0 hp1 ha0 ha1 ha2 ha3 ha4 ha5 ha6 ha7 ha8 ha9 ha10))
  obtain ⟨hr0, hr1, hr2, hr3, hr4, hr5, hr6, hr7, hr8, hr9, hr10⟩ := cells11 HL1.out.r
  obtain ⟨hf0, hf1, hf2, hf3, hf4, hf5, hf6, hf7, hf8, hf9, hf10⟩ := froz11 HL1.out.r
  go_wp2
  have HF := Aside0.mk (HL1.out.putall (.int .i64 0) (.int .i64 0) (.int .i64 0) (.int .i64 0) (.int .i64 0) (.int .i64 0) (.int .i64 0) (.int .i64 0) (.int .i64 0) (.int .i64 0) (.slice none 0 0))
  generalize (((((((((((w1.setCell ⟨w.heap.size + 1 + 1 + 1, 0, none⟩ (.int .i64 0)).setCell ⟨w.heap.size + 1 + 1 + 1, 1, none⟩ (.int .i64 0)).setCell ⟨w.heap.size + 1 + 1 + 1, 2, none⟩ (.int .i64 0)).setCell ⟨w.heap.size + 1 + 1 + 1, 3, none⟩ (.int .i64 0)).setCell ⟨w.heap.size + 1 + 1 + 1, 4, none⟩ (.int .i64 0)).setCell ⟨w.heap.size + 1 + 1 + 1, 5, none⟩ (.int .i64 0)).setCell ⟨w.heap.size + 1 + 1 + 1, 6, none⟩ (.int .i64 0)).setCell ⟨w.heap.size + 1 + 1 + 1, 7, none⟩ (.int .i64 0)).setCell ⟨w.heap.size + 1 + 1 + 1, 8, none⟩ (.int .i64 0)).setCell ⟨w.heap.size + 1 + 1 + 1, 9, none⟩ (.int .i64 0)).setCell ⟨w.heap.size + 1 + 1 + 1, 10, none⟩ (.slice none 0 0)) = wf at HF ⊢
  refine bodyPost_ret (results_list (rs := [.tmp 10, .cell 11 31, .tmp 12]) rfl (by simp) (.tmp (.cell _ 31 #[.int .i64 0, .int .i64 0, .int .i64 0, .int .i64 0, .int .i64 0, .int .i64 0, .int .i64 0, .int .i64 0, .int .i64 0, .int .i64 0, .slice none 0 0] (0, 0) _ rfl HF.out.r Try.underlying31 rfl (by kernel_rfl) (.tmp .nil)))) rfl ?_
  exact ⟨.slice A3 l.length c3, .slice none 0 0, rfl, Kd.V_mono (Kd.V_below HV.out HF.out.hb) (fun k hk => ⟨.inl hk.1, nofun⟩), Kd.R_nil _ _ _ _ _, HF.out.hb⟩
 case true =>
  rw [if_pos rfl] at h
  go_enter Try.func10, Try.ntmps10
  go_upto_region 1 with (fail)
  generalize ((((w.alloc (.cells #[.int .i64 n, .slice A0 ls.length c0] 24)).alloc (.cells #[.int .i64 e, .slice A1 hs.length c1] 27)).alloc (.cells #[.int .i64 a0, .int .i64 a1, .int .i64 a2, .int .i64 a3, .int .i64 a4, .int .i64 a5, .int .i64 a6, .int .i64 a7, .int .i64 a8, .int .i64 a9, .slice A4 v.length c4] 31)).alloc (.cells #[.int .i64 0, .int .i64 0, .int .i64 0, .int .i64 0, .int .i64 0, .int .i64 0, .int .i64 0, .int .i64 0, .int .i64 0, .int .i64 0, .slice none 0 0] 31)) = w0 at HL0 ⊢
  have hm0 : w0.cell? ⟨w.heap.size, 0, none⟩ = some (.int .i64 n) := (blk_cell HL0.out.m 0).trans rfl
  have hm1 : w0.cell? ⟨w.heap.size, 1, none⟩ = some (.slice A0 ls.length c0) := (blk_cell HL0.out.m 1).trans rfl
  have hp0 : w0.cell? ⟨w.heap.size + 1, 0, none⟩ = some (.int .i64 e) := (blk_cell HL0.out.p 0).trans rfl
  have hp1 : w0.cell? ⟨w.heap.size + 1, 1, none⟩ = some (.slice A1 hs.length c1) := (blk_cell HL0.out.p 1).trans rfl
  obtain ⟨ha0, ha1, ha2, ha3, ha4, ha5, ha6, ha7, ha8, ha9, ha10⟩ := cells11 HL0.out.a
  go_upto_region 3 with ((go_at_call 16; refine (node_fits.calls k n A0 c0 ls e A1 c1 hs me a0 a1 a2 a3 a4 a5 a6 a7 a8 a9 A4 c4 v true w0 (Kd.C_below HR0.out HL0.out.hb) HC0.out (Kd.C_below HR1.out HL0.out.hb) HC1.out (Kd.C_below HR4.out HL0.out.hb) HC4.out HF1.out).mono ?_; rintro e_ w1 ⟨rfl, hb⟩; have HL1 := Aside0.mk (HL0.out.below hb); clear hb hm0 hm1 hp0 hp1 ha0 ha1 ha2 ha3 ha4 ha5 ha6 ha7 ha8 ha9 ha10))
  obtain ⟨ha0, ha1, ha2, ha3, ha4, ha5, ha6, ha7, ha8, ha9, ha10⟩ := cells11 HL1.out.a
  go_upto_region 4 with (fail)
  clear ha0 ha1 ha2 ha3 ha4 ha5 ha6 ha7 ha8 ha9 ha10
  have HL2 := Aside0.mk (HL1.out.below (below_alloc (Below.refl w1.heap.size w1) (.cells #[.int .i64 a0, .int .i64 a1, .int .i64 a2, .int .i64 a3, .int .i64 a4, .int .i64 a5, .int .i64 a6, .int .i64 a7, .int .i64 a8, .int .i64 a9, .slice A4 v.length c4] 31)))
  have HO2 : Aside0 ((w1.alloc (.cells #[.int .i64 a0, .int .i64 a1, .int .i64 a2, .int .i64 a3, .int .i64 a4, .int .i64 a5, .int .i64 a6, .int .i64 a7, .int .i64 a8, .int .i64 a9, .slice A4 v.length c4] 31)).heap[w1.heap.size]? = some (.cells #[.int .i64 a0, .int .i64 a1, .int .i64 a2, .int .i64 a3, .int .i64 a4, .int .i64 a5, .int .i64 a6, .int .i64 a7, .int .i64 a8, .int .i64 a9, .slice A4 v.length c4] 31 (0, 0))) := ⟨heap_alloc_new _ _⟩
  have HGO : Aside0 (w.heap.size + 1 + 1 + 1 < w1.heap.size) := ⟨blk_lt HL1.out.r⟩
  generalize w1.alloc (.cells #[.int .i64 a0, .int .i64 a1, .int .i64 a2, .int .i64 a3, .int .i64 a4, .int .i64 a5, .int .i64 a6, .int .i64 a7, .int .i64 a8, .int .i64 a9, .slice A4 v.length c4] 31) = w2 at HL2 HO2 ⊢
  have HD := Aside0.mk (below_drew (Below.refl w2.heap.size w2))
  have HL3 := Aside0.mk (HL2.out.below HD.out)
  have HO3 := Aside0.mk (blk_below HO2.out HD.out)
  refine start_ (n := 15) (S := fun W => W.cell? ⟨w.heap.size + 1 + 1, 1, none⟩ = some (.int .i64 a1) ∧ W.cell? ⟨w.heap.size + 1, 0, none⟩ = some (.int .i64 e)) (ds := []) #[false, false, false, false, false, false, false, false, false, false, false, false, false, false, false] (by kernel_rfl) rfl rfl ⟨(blk_cell HL3.out.a 1).trans rfl, (blk_cell HL3.out.p 0).trans rfl⟩ (fun hHeld => ?_)
  clear HD HL2 HO2
  generalize w2.drew = w3 at HL3 HO3 hHeld ⊢
  refine pure_ (i := 0) (N := some 26) (v := ?_) (a' := ?_) #[true, false, false, false, false, false, false, false, false, false, false, false, false, false, false] rfl rfl (any_of rfl (by kernel_rfl)) (fun _ _ _ h => h) (Or.inl ⟨by rfl, ?_⟩) ?_ ?_
  rotate_left
  ·
   intro w'; go_simp; with_reducible rfl
  rotate_left
  ·
   simp only [Act.put, List.setIfInBounds_toArray, List.set_cons_zero, List.set_cons_succ, i64_w, i32_w]
   rfl
  refine pure_ (i := 1) (N := some 27) (v := ?_) (a' := ?_) #[true, true, false, false, false, false, false, false, false, false, false, false, false, false, false] rfl rfl (any_of rfl (by kernel_rfl)) (fun _ _ _ h => h) (Or.inl ⟨by rfl, ?_⟩) ?_ ?_
  rotate_left
  ·
   intro w'; go_simp; with_reducible rfl
  rotate_left
  ·
   simp only [Act.put, List.setIfInBounds_toArray, List.set_cons_zero, List.set_cons_succ, i64_w, i32_w]
   rfl
  refine take_ (i := 2) (N := some 28) (v := ?_) (a' := ?_) #[true, true, true, false, false, false, false, false, false, false, false, false, false, false, false] rfl rfl (take_of rfl (by kernel_rfl)) (fun _ _ _ h => h) (Or.inl ⟨by rfl, ?_⟩) hHeld ?_ ?_
  rotate_left
  ·
   rintro w' ⟨s0, s1⟩; go_simp; with_reducible rfl
  rotate_left
  ·
   simp only [Act.put, List.setIfInBounds_toArray, List.set_cons_zero, List.set_cons_succ, i64_w, i32_w]
   rfl
  refine pure_ (i := 3) (N := some 29) (v := ?_) (a' := ?_) #[true, true, true, true, false, false, false, false, false, false, false, false, false, false, false] rfl rfl (any_of rfl (by kernel_rfl)) (fun _ _ _ h => h) (Or.inl ⟨by rfl, ?_⟩) ?_ ?_
  rotate_left
  ·
   intro w'; go_simp; with_reducible rfl
  rotate_left
  ·
   simp only [Act.put, List.setIfInBounds_toArray, List.set_cons_zero, List.set_cons_succ, i64_w, i32_w]
   rfl
  refine take_ (i := 4) (N := some 30) (v := ?_) (a' := ?_) #[true, true, true, true, true, false, false, false, false, false, false, false, false, false, false] rfl rfl (take_of rfl (by kernel_rfl)) (fun _ _ _ h => h) (Or.inl ⟨by rfl, ?_⟩) hHeld ?_ ?_
  rotate_left
  ·
   rintro w' ⟨s0, s1⟩; go_simp; with_reducible rfl
  rotate_left
  ·
   simp only [Act.put, List.setIfInBounds_toArray, List.set_cons_zero, List.set_cons_succ, i64_w, i32_w]
   rfl
  refine pure_ (i := 5) (N := some 31) (v := ?_) (a' := ?_) #[true, true, true, true, true, true, false, false, false, false, false, false, false, false, false] rfl rfl (any_of rfl (by kernel_rfl)) (fun _ _ _ h => h) (Or.inl ⟨by rfl, ?_⟩) ?_ ?_
  rotate_left
  ·
   intro w'; go_simp; with_reducible rfl
  rotate_left
  ·
   simp only [Act.put, List.setIfInBounds_toArray, List.set_cons_zero, List.set_cons_succ, i64_w, i32_w]
   rfl
  refine one_ (i := 6) (N := none) #[true, true, true, true, true, true, true, false, false, false, false, false, false, false, false] rfl rfl (one_of rfl (by kernel_rfl)) (by decide) (fun K hK => ?_)
  have ho : w3.cell? ⟨w1.heap.size, 0, none⟩ = some (.int .i64 a0) := (blk_cell HO3.out 0).trans rfl
  have hf := blk_frozen HO3.out 0
  refine skip_ (w1 := ?_) (by rfl) rfl ?_ ?_
  rotate_left
  ·
   go_simp; rfl
  clear ho hf
  have HL4 := Aside0.mk (HL3.out.far (q := ⟨w1.heap.size, 0, none⟩) HGO.out (.int .i64 3))
  have HO4 : Aside0 ((w3.setCell ⟨w1.heap.size, 0, none⟩ (.int .i64 3)).heap[w1.heap.size]? = some (.cells #[.int .i64 3, .int .i64 a1, .int .i64 a2, .int .i64 a3, .int .i64 a4, .int .i64 a5, .int .i64 a6, .int .i64 a7, .int .i64 a8, .int .i64 a9, .slice A4 v.length c4] 31 (0, 0))) := ⟨blk_put HO3.out 0 _ rfl⟩
  clear HL3 HO3 hHeld
  generalize w3.setCell ⟨w1.heap.size, 0, none⟩ (.int .i64 3) = w4 at HL4 HO4 ⊢
  refine hK.out _ _ ⟨(blk_cell HL4.out.a 1).trans rfl, (blk_cell HL4.out.p 0).trans rfl⟩ (fun hHeld => ?_)
  clear hK K
  refine pure_ (i := 7) (N := some 32) (v := ?_) (a' := ?_) #[true, true, true, true, true, true, true, true, false, false, false, false, false, false, false] rfl rfl (any_of rfl (by kernel_rfl)) (fun _ _ _ h => h) (Or.inl ⟨by rfl, ?_⟩) ?_ ?_
  rotate_left
  ·
   intro w'; go_simp; with_reducible rfl
  rotate_left
  ·
   simp only [Act.put, List.setIfInBounds_toArray, List.set_cons_zero, List.set_cons_succ, i64_w, i32_w]
   rfl
  refine one_ (i := 8) (N := none) #[true, true, true, true, true, true, true, true, true, false, false, false, false, false, false] rfl rfl (one_of rfl (by kernel_rfl)) (by decide) (fun K hK => ?_)
  have ho : w4.cell? ⟨w1.heap.size, 1, none⟩ = some (.int .i64 a1) := (blk_cell HO4.out 1).trans rfl
  have hf := blk_frozen HO4.out 1
  refine skip_ (w1 := ?_) (by rfl) rfl ?_ ?_
  rotate_left
  ·
   go_simp; rfl
  clear ho hf
  have HL5 := Aside0.mk (HL4.out.far (q := ⟨w1.heap.size, 1, none⟩) HGO.out (.int .i64 me))
  have HO5 : Aside0 ((w4.setCell ⟨w1.heap.size, 1, none⟩ (.int .i64 me)).heap[w1.heap.size]? = some (.cells #[.int .i64 3, .int .i64 me, .int .i64 a2, .int .i64 a3, .int .i64 a4, .int .i64 a5, .int .i64 a6, .int .i64 a7, .int .i64 a8, .int .i64 a9, .slice A4 v.length c4] 31 (0, 0))) := ⟨blk_put HO4.out 1 _ rfl⟩
  clear HL4 HO4 hHeld
  generalize w4.setCell ⟨w1.heap.size, 1, none⟩ (.int .i64 me) = w5 at HL5 HO5 ⊢
  refine hK.out _ _ ⟨(blk_cell HL5.out.a 1).trans rfl, (blk_cell HL5.out.p 0).trans rfl⟩ (fun hHeld => ?_)
  clear hK K
  refine pure_ (i := 9) (N := some 33) (v := ?_) (a' := ?_) #[true, true, true, true, true, true, true, true, true, true, false, false, false, false, false] rfl rfl (any_of rfl (by kernel_rfl)) (fun _ _ _ h => h) (Or.inl ⟨by rfl, ?_⟩) ?_ ?_
  rotate_left
  ·
   intro w'; go_simp; with_reducible rfl
  rotate_left
  ·
   simp only [Act.put, List.setIfInBounds_toArray, List.set_cons_zero, List.set_cons_succ, i64_w, i32_w]
   rfl
  refine one_ (i := 10) (N := none) #[true, true, true, true, true, true, true, true, true, true, true, false, false, false, false] rfl rfl (one_of rfl (by kernel_rfl)) (by decide) (fun K hK => ?_)
  have ho : w5.cell? ⟨w1.heap.size, 2, none⟩ = some (.int .i64 a2) := (blk_cell HO5.out 2).trans rfl
  have hf := blk_frozen HO5.out 2
  refine skip_ (w1 := ?_) (by rfl) rfl ?_ ?_
  rotate_left
  ·
   go_simp; rfl
  clear ho hf
  have HL6 := Aside0.mk (HL5.out.far (q := ⟨w1.heap.size, 2, none⟩) HGO.out (.int .i64 a1))
  have HO6 : Aside0 ((w5.setCell ⟨w1.heap.size, 2, none⟩ (.int .i64 a1)).heap[w1.heap.size]? = some (.cells #[.int .i64 3, .int .i64 me, .int .i64 a1, .int .i64 a3, .int .i64 a4, .int .i64 a5, .int .i64 a6, .int .i64 a7, .int .i64 a8, .int .i64 a9, .slice A4 v.length c4] 31 (0, 0))) := ⟨blk_put HO5.out 2 _ rfl⟩
  clear HL5 HO5 hHeld
  generalize w5.setCell ⟨w1.heap.size, 2, none⟩ (.int .i64 a1) = w6 at HL6 HO6 ⊢
  refine hK.out _ _ ⟨(blk_cell HL6.out.a 1).trans rfl, (blk_cell HL6.out.p 0).trans rfl⟩ (fun hHeld => ?_)
  clear hK K
  refine pure_ (i := 11) (N := some 34) (v := ?_) (a' := ?_) #[true, true, true, true, true, true, true, true, true, true, true, true, false, false, false] rfl rfl (any_of rfl (by kernel_rfl)) (fun _ _ _ h => h) (Or.inl ⟨by rfl, ?_⟩) ?_ ?_
  rotate_left
  ·
   intro w'; go_simp; with_reducible rfl
  rotate_left
  ·
   simp only [Act.put, List.setIfInBounds_toArray, List.set_cons_zero, List.set_cons_succ, i64_w, i32_w]
   rfl
  refine one_ (i := 12) (N := none) #[true, true, true, true, true, true, true, true, true, true, true, true, true, false, false] rfl rfl (one_of rfl (by kernel_rfl)) (by decide) (fun K hK => ?_)
  have ho : w6.cell? ⟨w1.heap.size, 9, none⟩ = some (.int .i64 a9) := (blk_cell HO6.out 9).trans rfl
  have hf := blk_frozen HO6.out 9
  refine skip_ (w1 := ?_) (by rfl) rfl ?_ ?_
  rotate_left
  ·
   go_simp; rfl
  clear ho hf
  have HL7 := Aside0.mk (HL6.out.far (q := ⟨w1.heap.size, 9, none⟩) HGO.out (.int .i64 e))
  have HO7 : Aside0 ((w6.setCell ⟨w1.heap.size, 9, none⟩ (.int .i64 e)).heap[w1.heap.size]? = some (.cells #[.int .i64 3, .int .i64 me, .int .i64 a1, .int .i64 a3, .int .i64 a4, .int .i64 a5, .int .i64 a6, .int .i64 a7, .int .i64 a8, .int .i64 e, .slice A4 v.length c4] 31 (0, 0))) := ⟨blk_put HO6.out 9 _ rfl⟩
  clear HL6 HO6 hHeld
  generalize w6.setCell ⟨w1.heap.size, 9, none⟩ (.int .i64 e) = w7 at HL7 HO7 ⊢
  refine hK.out _ _ ⟨(blk_cell HL7.out.a 1).trans rfl, (blk_cell HL7.out.p 0).trans rfl⟩ (fun hHeld => ?_)
  clear hK K
  refine pure_ (i := 13) (N := some 35) (v := ?_) (a' := ?_) #[true, true, true, true, true, true, true, true, true, true, true, true, true, true, false] rfl rfl (any_of rfl (by kernel_rfl)) (fun _ _ _ h => h) (Or.inl ⟨by rfl, ?_⟩) ?_ ?_
  rotate_left
  ·
   intro w'; go_simp; with_reducible rfl
  rotate_left
  ·
   simp only [Act.put, List.setIfInBounds_toArray, List.set_cons_zero, List.set_cons_succ, i64_w, i32_w]
   rfl
  refine one_ (i := 14) (N := none) #[true, true, true, true, true, true, true, true, true, true, true, true, true, true, true] rfl rfl (one_of rfl (by kernel_rfl)) (by decide) (fun K hK => ?_)
  have ho : w7.cell? ⟨w1.heap.size, 10, none⟩ = some (.slice A4 v.length c4) := (blk_cell HO7.out 10).trans rfl
  have hf := blk_frozen HO7.out 10
  refine skip_ (w1 := ?_) (by rfl) rfl ?_ ?_
  rotate_left
  ·
   go_simp; rfl
  clear ho hf
  have HL8 := Aside0.mk (HL7.out.far (q := ⟨w1.heap.size, 10, none⟩) HGO.out (.slice none 0 0))
  have HO8 : Aside0 ((w7.setCell ⟨w1.heap.size, 10, none⟩ (.slice none 0 0)).heap[w1.heap.size]? = some (.cells #[.int .i64 3, .int .i64 me, .int .i64 a1, .int .i64 a3, .int .i64 a4, .int .i64 a5, .int .i64 a6, .int .i64 a7, .int .i64 a8, .int .i64 e, .slice none 0 0] 31 (0, 0))) := ⟨blk_put HO7.out 10 _ rfl⟩
  clear HL7 HO7 hHeld
  generalize w7.setCell ⟨w1.heap.size, 10, none⟩ (.slice none 0 0) = w8 at HL8 HO8 ⊢
  refine hK.out _ _ ⟨(blk_cell HL8.out.a 1).trans rfl, (blk_cell HL8.out.p 0).trans rfl⟩ (fun hHeld => ?_)
  clear hK K
  refine done_ (done_of rfl (by kernel_rfl)) ?_
  clear hHeld
  by_cases h9 : a9 = e
  rotate_left
  ·
   rw [if_neg h9] at h
   cases k with
   | zero => simp [node_Work.j0] at h
   | succ k =>
    simp only [node_Work.j0, if_true] at h
    simp only [Option.some.injEq, Prod.mk.injEq] at h
    obtain ⟨rfl, rfl, rfl, rfl, rfl, rfl, rfl, rfl, rfl, rfl, rfl, rfl, rfl⟩ := h
    have k9 : decide (¬ a9 = e) = true := decide_eq_true h9
    have k9' : decide (a9 = e) = false := decide_eq_false h9
    obtain ⟨ha0, ha1, ha2, ha3, ha4, ha5, ha6, ha7, ha8, ha9, ha10⟩ := cells11 HL8.out.a
    have hp0 : w8.cell? ⟨w.heap.size + 1, 0, none⟩ = some (.int .i64 e) := (blk_cell HL8.out.p 0).trans rfl
    have hp1 : w8.cell? ⟨w.heap.size + 1, 1, none⟩ = some (.slice A1 hs.length c1) := (blk_cell HL8.out.p 1).trans rfl
    go_upto_region 6 with (fail)
    clear hp0 hp1 ha0 ha1 ha2 ha3 ha4 ha5 ha6 ha7 ha8 ha9 ha10
    have HD := Aside0.mk (below_drew (Below.refl w8.heap.size w8))
    have HLq := Aside0.mk (HL8.out.below HD.out)
    have HOq := Aside0.mk (blk_below HO8.out HD.out)
    refine start_ (n := 5) (S := fun W => W.cell? ⟨w1.heap.size, 0, none⟩ = some (.int .i64 3) ∧ W.cell? ⟨w1.heap.size, 1, none⟩ = some (.int .i64 me) ∧ W.cell? ⟨w1.heap.size, 2, none⟩ = some (.int .i64 a1) ∧ W.cell? ⟨w1.heap.size, 3, none⟩ = some (.int .i64 a3) ∧ W.cell? ⟨w1.heap.size, 4, none⟩ = some (.int .i64 a4) ∧ W.cell? ⟨w1.heap.size, 5, none⟩ = some (.int .i64 a5) ∧ W.cell? ⟨w1.heap.size, 6, none⟩ = some (.int .i64 a6) ∧ W.cell? ⟨w1.heap.size, 7, none⟩ = some (.int .i64 a7) ∧ W.cell? ⟨w1.heap.size, 8, none⟩ = some (.int .i64 a8) ∧ W.cell? ⟨w1.heap.size, 9, none⟩ = some (.int .i64 e) ∧ W.cell? ⟨w1.heap.size, 10, none⟩ = some (.slice none 0 0)) (ds := []) #[false, false, false, false, false] (by kernel_rfl) rfl rfl (cells11 HOq.out) (fun hHeld => ?_)
    clear HD
    generalize w8.drew = wq at HLq HOq hHeld ⊢
    refine pure_ (i := 0) (N := some 49) (v := ?_) (a' := ?_) #[true, false, false, false, false] rfl rfl (any_of rfl (by kernel_rfl)) (fun _ _ _ h => h) (Or.inl ⟨by rfl, ?_⟩) ?_ ?_
    rotate_left
    ·
     intro w'; go_simp; with_reducible rfl
    rotate_left
    ·
     simp only [Act.put, List.setIfInBounds_toArray, List.set_cons_zero, List.set_cons_succ, i64_w, i32_w]
     rfl
    refine take_ (i := 1) (N := some 50) (v := ?_) (a' := ?_) #[true, true, false, false, false] rfl rfl (take_of rfl (by kernel_rfl)) (fun _ _ _ h => h) (Or.inl ⟨by rfl, ?_⟩) hHeld ?_ ?_
    rotate_left
    ·
     rintro w' ⟨s0, s1, s2, s3, s4, s5, s6, s7, s8, s9, s10⟩; go_simp; with_reducible rfl
    rotate_left
    ·
     simp only [Act.put, List.setIfInBounds_toArray, List.set_cons_zero, List.set_cons_succ, i64_w, i32_w]
     rfl
    refine pure_ (i := 2) (N := some 10) (v := ?_) (a' := ?_) #[true, true, true, false, false] rfl rfl (any_of rfl (by kernel_rfl)) (fun _ _ _ h => h) (Or.inl ⟨by rfl, ?_⟩) ?_ ?_
    rotate_left
    ·
     intro w'; go_simp; with_reducible rfl
    rotate_left
    ·
     simp only [Act.put, List.setIfInBounds_toArray, List.set_cons_zero, List.set_cons_succ, i64_w, i32_w]
     rfl
    refine one_ (i := 3) (N := none) #[true, true, true, true, false] rfl rfl (one_of rfl (by kernel_rfl)) (by decide) (fun K hK => ?_)
    obtain ⟨hr0, hr1, hr2, hr3, hr4, hr5, hr6, hr7, hr8, hr9, hr10⟩ := cells11 HLq.out.r
    obtain ⟨hf0, hf1, hf2, hf3, hf4, hf5, hf6, hf7, hf8, hf9, hf10⟩ := froz11 HLq.out.r
    refine skip_ (w1 := ?_) (by rfl) rfl ?_ ?_
    rotate_left
    ·
     go_simp; rfl
    clear hr0 hr1 hr2 hr3 hr4 hr5 hr6 hr7 hr8 hr9 hr10 hf0 hf1 hf2 hf3 hf4 hf5 hf6 hf7 hf8 hf9 hf10 hHeld
    have HF := Aside0.mk (HLq.out.putall (.int .i64 3) (.int .i64 me) (.int .i64 a1) (.int .i64 a3) (.int .i64 a4) (.int .i64 a5) (.int .i64 a6) (.int .i64 a7) (.int .i64 a8) (.int .i64 e) (.slice none 0 0))
    have HOF := Aside0.mk (O_far8 HOq.out (g := w.heap.size + 1 + 1 + 1) (by have h1 := HGO.out; omega) (.int .i64 3) (.int .i64 me) (.int .i64 a1) (.int .i64 a3) (.int .i64 a4) (.int .i64 a5) (.int .i64 a6) (.int .i64 a7) (.int .i64 a8) (.int .i64 e) (.slice none 0 0))
    generalize (((((((((((wq.setCell ⟨w.heap.size + 1 + 1 + 1, 0, none⟩ (.int .i64 3)).setCell ⟨w.heap.size + 1 + 1 + 1, 1, none⟩ (.int .i64 me)).setCell ⟨w.heap.size + 1 + 1 + 1, 2, none⟩ (.int .i64 a1)).setCell ⟨w.heap.size + 1 + 1 + 1, 3, none⟩ (.int .i64 a3)).setCell ⟨w.heap.size + 1 + 1 + 1, 4, none⟩ (.int .i64 a4)).setCell ⟨w.heap.size + 1 + 1 + 1, 5, none⟩ (.int .i64 a5)).setCell ⟨w.heap.size + 1 + 1 + 1, 6, none⟩ (.int .i64 a6)).setCell ⟨w.heap.size + 1 + 1 + 1, 7, none⟩ (.int .i64 a7)).setCell ⟨w.heap.size + 1 + 1 + 1, 8, none⟩ (.int .i64 a8)).setCell ⟨w.heap.size + 1 + 1 + 1, 9, none⟩ (.int .i64 e)).setCell ⟨w.heap.size + 1 + 1 + 1, 10, none⟩ (.slice none 0 0)) = wf at HF HOF ⊢
    refine hK.out _ _ (cells11 HOF.out) (fun _ => ?_)
    clear hK K
    refine pure_ (i := 4) (N := some 12) (v := ?_) (a' := ?_) #[true, true, true, true, true] rfl rfl (any_of rfl (by kernel_rfl)) (fun _ _ _ h => h) (Or.inl ⟨by rfl, ?_⟩) ?_ ?_
    rotate_left
    ·
     intro w'; go_simp; with_reducible rfl
    rotate_left
    ·
     simp only [Act.put, List.setIfInBounds_toArray, List.set_cons_zero, List.set_cons_succ, i64_w, i32_w]
     rfl
    refine done_ (done_of rfl (by kernel_rfl)) ?_
    go_wp2
    refine bodyPost_ret (results_list (rs := [.tmp 10, .cell 11 31, .tmp 12]) rfl (by simp) (.tmp (.cell _ 31 #[.int .i64 3, .int .i64 me, .int .i64 a1, .int .i64 a3, .int .i64 a4, .int .i64 a5, .int .i64 a6, .int .i64 a7, .int .i64 a8, .int .i64 e, .slice none 0 0] (0, 0) _ rfl HF.out.r Try.underlying31 rfl (by kernel_rfl) (.tmp .nil)))) rfl ?_
    exact ⟨.slice A3 l.length c3, .slice none 0 0, rfl, Kd.V_mono (Kd.V_below HV.out HF.out.hb) (fun k hk => ⟨.inl hk.1, nofun⟩), Kd.R_nil _ _ _ _ _, HF.out.hb⟩
  rw [if_pos h9] at h
  obtain ⟨t2, hH, h⟩ := Option.bind_eq_some_iff.mp h
  have HHE := Aside0.mk hH; clear hH
  have k9 : decide (¬ a9 = e) = false := decide_eq_false (fun h_ => h_ h9)
  have k9' : decide (a9 = e) = true := decide_eq_true h9
  cases k with
  | zero => simp [node_Work.j0] at h
  | succ k =>
   obtain ⟨ha0, ha1, ha2, ha3, ha4, ha5, ha6, ha7, ha8, ha9, ha10⟩ := cells11 HL8.out.a
   have hp0 : w8.cell? ⟨w.heap.size + 1, 0, none⟩ = some (.int .i64 e) := (blk_cell HL8.out.p 0).trans rfl
   have hp1 : w8.cell? ⟨w.heap.size + 1, 1, none⟩ = some (.slice A1 hs.length c1) := (blk_cell HL8.out.p 1).trans rfl
   cases t2
   ·
    simp only [node_Work.j0, Bool.not_false, if_true] at h
    simp only [Option.some.injEq, Prod.mk.injEq] at h
    obtain ⟨rfl, rfl, rfl, rfl, rfl, rfl, rfl, rfl, rfl, rfl, rfl, rfl, rfl⟩ := h
    go_upto_region 6 with ((go_at_call 17; refine (place_Holds.calls (k + 1) e A1 c1 hs a8 me false _ (Kd.C_below HR1.out HL8.out.hb) HC1.out HHE.out).mono ?_; rintro e_ w9 ⟨rfl, hb⟩; have HL9 := Aside0.mk (HL8.out.below hb); have HO9 := Aside0.mk (blk_below HO8.out hb); clear hp0 hp1 ha0 ha1 ha2 ha3 ha4 ha5 ha6 ha7 ha8 ha9 ha10; clear hb))
    have HD := Aside0.mk (below_drew (Below.refl w9.heap.size w9))
    have HLq := Aside0.mk (HL9.out.below HD.out)
    have HOq := Aside0.mk (blk_below HO9.out HD.out)
    refine start_ (n := 5) (S := fun W => W.cell? ⟨w1.heap.size, 0, none⟩ = some (.int .i64 3) ∧ W.cell? ⟨w1.heap.size, 1, none⟩ = some (.int .i64 me) ∧ W.cell? ⟨w1.heap.size, 2, none⟩ = some (.int .i64 a1) ∧ W.cell? ⟨w1.heap.size, 3, none⟩ = some (.int .i64 a3) ∧ W.cell? ⟨w1.heap.size, 4, none⟩ = some (.int .i64 a4) ∧ W.cell? ⟨w1.heap.size, 5, none⟩ = some (.int .i64 a5) ∧ W.cell? ⟨w1.heap.size, 6, none⟩ = some (.int .i64 a6) ∧ W.cell? ⟨w1.heap.size, 7, none⟩ = some (.int .i64 a7) ∧ W.cell? ⟨w1.heap.size, 8, none⟩ = some (.int .i64 a8) ∧ W.cell? ⟨w1.heap.size, 9, none⟩ = some (.int .i64 e) ∧ W.cell? ⟨w1.heap.size, 10, none⟩ = some (.slice none 0 0)) (ds := []) #[false, false, false, false, false] (by kernel_rfl) rfl rfl (cells11 HOq.out) (fun hHeld => ?_)
    clear HD
    generalize w9.drew = wq at HLq HOq hHeld ⊢
    refine pure_ (i := 0) (N := some 49) (v := ?_) (a' := ?_) #[true, false, false, false, false] rfl rfl (any_of rfl (by kernel_rfl)) (fun _ _ _ h => h) (Or.inl ⟨by rfl, ?_⟩) ?_ ?_
    rotate_left
    ·
     intro w'; go_simp; with_reducible rfl
    rotate_left
    ·
     simp only [Act.put, List.setIfInBounds_toArray, List.set_cons_zero, List.set_cons_succ, i64_w, i32_w]
     rfl
    refine take_ (i := 1) (N := some 50) (v := ?_) (a' := ?_) #[true, true, false, false, false] rfl rfl (take_of rfl (by kernel_rfl)) (fun _ _ _ h => h) (Or.inl ⟨by rfl, ?_⟩) hHeld ?_ ?_
    rotate_left
    ·
     rintro w' ⟨s0, s1, s2, s3, s4, s5, s6, s7, s8, s9, s10⟩; go_simp; with_reducible rfl
    rotate_left
    ·
     simp only [Act.put, List.setIfInBounds_toArray, List.set_cons_zero, List.set_cons_succ, i64_w, i32_w]
     rfl
    refine pure_ (i := 2) (N := some 10) (v := ?_) (a' := ?_) #[true, true, true, false, false] rfl rfl (any_of rfl (by kernel_rfl)) (fun _ _ _ h => h) (Or.inl ⟨by rfl, ?_⟩) ?_ ?_
    rotate_left
    ·
     intro w'; go_simp; with_reducible rfl
    rotate_left
    ·
     simp only [Act.put, List.setIfInBounds_toArray, List.set_cons_zero, List.set_cons_succ, i64_w, i32_w]
     rfl
    refine one_ (i := 3) (N := none) #[true, true, true, true, false] rfl rfl (one_of rfl (by kernel_rfl)) (by decide) (fun K hK => ?_)
    obtain ⟨hr0, hr1, hr2, hr3, hr4, hr5, hr6, hr7, hr8, hr9, hr10⟩ := cells11 HLq.out.r
    obtain ⟨hf0, hf1, hf2, hf3, hf4, hf5, hf6, hf7, hf8, hf9, hf10⟩ := froz11 HLq.out.r
    refine skip_ (w1 := ?_) (by rfl) rfl ?_ ?_
    rotate_left
    ·
     go_simp; rfl
    clear hr0 hr1 hr2 hr3 hr4 hr5 hr6 hr7 hr8 hr9 hr10 hf0 hf1 hf2 hf3 hf4 hf5 hf6 hf7 hf8 hf9 hf10 hHeld
    have HF := Aside0.mk (HLq.out.putall (.int .i64 3) (.int .i64 me) (.int .i64 a1) (.int .i64 a3) (.int .i64 a4) (.int .i64 a5) (.int .i64 a6) (.int .i64 a7) (.int .i64 a8) (.int .i64 e) (.slice none 0 0))
    have HOF := Aside0.mk (O_far8 HOq.out (g := w.heap.size + 1 + 1 + 1) (by have h1 := HGO.out; omega) (.int .i64 3) (.int .i64 me) (.int .i64 a1) (.int .i64 a3) (.int .i64 a4) (.int .i64 a5) (.int .i64 a6) (.int .i64 a7) (.int .i64 a8) (.int .i64 e) (.slice none 0 0))
    generalize (((((((((((wq.setCell ⟨w.heap.size + 1 + 1 + 1, 0, none⟩ (.int .i64 3)).setCell ⟨w.heap.size + 1 + 1 + 1, 1, none⟩ (.int .i64 me)).setCell ⟨w.heap.size + 1 + 1 + 1, 2, none⟩ (.int .i64 a1)).setCell ⟨w.heap.size + 1 + 1 + 1, 3, none⟩ (.int .i64 a3)).setCell ⟨w.heap.size + 1 + 1 + 1, 4, none⟩ (.int .i64 a4)).setCell ⟨w.heap.size + 1 + 1 + 1, 5, none⟩ (.int .i64 a5)).setCell ⟨w.heap.size + 1 + 1 + 1, 6, none⟩ (.int .i64 a6)).setCell ⟨w.heap.size + 1 + 1 + 1, 7, none⟩ (.int .i64 a7)).setCell ⟨w.heap.size + 1 + 1 + 1, 8, none⟩ (.int .i64 a8)).setCell ⟨w.heap.size + 1 + 1 + 1, 9, none⟩ (.int .i64 e)).setCell ⟨w.heap.size + 1 + 1 + 1, 10, none⟩ (.slice none 0 0)) = wf at HF HOF ⊢
    refine hK.out _ _ (cells11 HOF.out) (fun _ => ?_)
    clear hK K
    refine pure_ (i := 4) (N := some 12) (v := ?_) (a' := ?_) #[true, true, true, true, true] rfl rfl (any_of rfl (by kernel_rfl)) (fun _ _ _ h => h) (Or.inl ⟨by rfl, ?_⟩) ?_ ?_
    rotate_left
    ·
     intro w'; go_simp; with_reducible rfl
    rotate_left
    ·
     simp only [Act.put, List.setIfInBounds_toArray, List.set_cons_zero, List.set_cons_succ, i64_w, i32_w]
     rfl
    refine done_ (done_of rfl (by kernel_rfl)) ?_
    go_wp2
    refine bodyPost_ret (results_list (rs := [.tmp 10, .cell 11 31, .tmp 12]) rfl (by simp) (.tmp (.cell _ 31 #[.int .i64 3, .int .i64 me, .int .i64 a1, .int .i64 a3, .int .i64 a4, .int .i64 a5, .int .i64 a6, .int .i64 a7, .int .i64 a8, .int .i64 e, .slice none 0 0] (0, 0) _ rfl HF.out.r Try.underlying31 rfl (by kernel_rfl) (.tmp .nil)))) rfl ?_
    exact ⟨.slice A3 l.length c3, .slice none 0 0, rfl, Kd.V_mono (Kd.V_below HV.out HF.out.hb) (fun k hk => ⟨.inl hk.1, nofun⟩), Kd.R_nil _ _ _ _ _, HF.out.hb⟩
   ·
    simp only [node_Work.j0, Bool.not_true, if_neg (show ¬ (false = true) by decide)] at h
    obtain ⟨⟨x, fnd⟩, hFi, h⟩ := Option.bind_eq_some_iff.mp h
    have HFI := Aside0.mk hFi; clear hFi
    go_upto_region 7 with ((go_at_call 17; refine (place_Holds.calls (k + 1) e A1 c1 hs a8 me true _ (Kd.C_below HR1.out HL8.out.hb) HC1.out HHE.out).mono ?_; rintro e_ w9 ⟨rfl, hb⟩; have HL9 := Aside0.mk (HL8.out.below hb); have HO9 := Aside0.mk (blk_below HO8.out hb); clear hp0 hp1 ha0 ha1 ha2 ha3 ha4 ha5 ha6 ha7 ha8 ha9 ha10; clear hb))
    clear k9 k9' HL8 HO8
    obtain ⟨ha0, ha1, ha2, ha3, ha4, ha5, ha6, ha7, ha8, ha9, ha10⟩ := cells11 HL9.out.a
    go_upto_region 8 with (fail)
    clear ha0 ha1 ha2 ha3 ha4 ha5 ha6 ha7 ha8 ha9 ha10
    have HBA := Aside0.mk (below_alloc (Below.refl w9.heap.size w9) (.cells #[.int .i64 a4, .int .i64 a5, .int .i64 a6, .int .i64 a7] 37))
    have HL10 := Aside0.mk (HL9.out.below HBA.out)
    have HO10 := Aside0.mk (blk_below HO9.out HBA.out)
    have HK10 : Aside0 ((w9.alloc (.cells #[.int .i64 a4, .int .i64 a5, .int .i64 a6, .int .i64 a7] 37)).heap[w9.heap.size]? = some (.cells #[.int .i64 a4, .int .i64 a5, .int .i64 a6, .int .i64 a7] 37 (0, 0))) := ⟨heap_alloc_new _ _⟩
    clear HL9 HO9 HBA
    generalize w9.alloc (.cells #[.int .i64 a4, .int .i64 a5, .int .i64 a6, .int .i64 a7] 37) = w10 at HL10 HO10 HK10 ⊢
    have hk_0 : w10.cell? ⟨w9.heap.size, 0, none⟩ = some (.int .i64 a4) := (blk_cell HK10.out 0).trans rfl
    have hk_1 : w10.cell? ⟨w9.heap.size, 1, none⟩ = some (.int .i64 a5) := (blk_cell HK10.out 1).trans rfl
    have hk_2 : w10.cell? ⟨w9.heap.size, 2, none⟩ = some (.int .i64 a6) := (blk_cell HK10.out 2).trans rfl
    have hk_3 : w10.cell? ⟨w9.heap.size, 3, none⟩ = some (.int .i64 a7) := (blk_cell HK10.out 3).trans rfl
    cases fnd
    ·
     simp only [if_neg (show ¬ (false = true) by decide)] at h
     by_cases g1 : 0 ≤ a5
     rotate_left
     ·
      rw [if_neg g1] at h
      cases h
     rw [if_pos g1] at h
     by_cases g2 : a5 < (ls.length : Int)
     rotate_left
     ·
      rw [if_neg g2] at h
      cases h
     rw [if_pos g2] at h
     by_cases g3 : 0 ≤ a8
     rotate_left
     ·
      rw [if_neg g3] at h
      cases h
     rw [if_pos g3] at h
     by_cases g4 : a8 < ((rd_T61 ls a5).f1.length : Int)
     rotate_left
     ·
      rw [if_neg g4] at h
      cases h
     rw [if_pos g4] at h
     obtain ⟨⟨y_, ry⟩, hRu, h⟩ := Option.bind_eq_some_iff.mp h
     obtain ⟨⟨es, re⟩, hEn, h⟩ := Option.bind_eq_some_iff.mp h
     have HEN := Aside0.mk hEn; clear hEn
     simp only [Option.some.injEq, Prod.mk.injEq] at h
     obtain ⟨rfl, rfl, rfl, rfl, rfl, rfl, rfl, rfl, rfl, rfl, rfl, rfl, rfl⟩ := h
     obtain ⟨z, rfl⟩ : ∃ z : Nat, a5 = (z : Int) := ⟨a5.toNat, by omega⟩
     obtain ⟨q, rfl⟩ : ∃ q : Nat, a8 = (q : Int) := ⟨a8.toNat, by omega⟩
     obtain ⟨am, B0_, d0_, B1_, d1_, hA, -, hz1, -, -, -, -, hCz⟩ := at_T61 HR0.out (z : Int) (by omega) g2
     subst hA
     rw [Int.toNat_natCast] at hz1
     obtain ⟨X, hX⟩ : ∃ X, X = rd_T61 ls (z : Int) := ⟨_, rfl⟩
     rw [← hX] at hz1 hCz hRu g4
     clear hX
     obtain ⟨ax, B0, d0, B1, d1, hA, hw0, hw1, hl0, hC0, hl1, hC1⟩ := at_T63 hCz (q : Int) (by omega) g4
     subst hA
     rw [Int.toNat_natCast] at hw0 hw1
     obtain ⟨Y, hY⟩ : ∃ Y, Y = rd_T63 X.f1 (q : Int) := ⟨_, rfl⟩
     rw [← hY] at hw0 hw1 hl0 hC0 hl1 hC1 hRu
     clear hY; have HZ1_ := Aside0.mk hz1; have HW0_ := Aside0.mk hw0; have HW1_ := Aside0.mk hw1; have HL0_ := Aside0.mk hl0; have HC0_ := Aside0.mk hC0; have HL1_ := Aside0.mk hl1; have HC1_ := Aside0.mk hC1; have HRU_ := Aside0.mk hRu
     have hzl : z < ls.length := by omega
     have hqx : q < X.f1.length := by omega
     clear hz1 hCz hw0 hw1 hl0 hC0 hl1 hC1 hRu g1 g2 g3 g4
     go_upto_region 10 with ((go_at_call 18; refine (ledger_Find.calls A3 c3 l a4 (z : Int) a6 a7 x false _ (Kd.V_reads' (Kd.V_below HV.out HL10.out.hb)).2.2 (Kd.V_reads' HV.out).2.1 HFI.out).mono ?_; rintro e_ w11 ⟨v0, rfl, hv, hb⟩; obtain ⟨Av, cv, rfl⟩ := Kd.R_slice hv; have HL11 := Aside0.mk (HL10.out.below hb); have HO11 := Aside0.mk (blk_below HO10.out hb); have HK11 := Aside0.mk (blk_below HK10.out hb); have HRV := Aside0.mk (Kd.R_mono (ok' := fun k => w10.heap.size ≤ k) (Kd.R_bound hv) (fun k hk => hk.2.1)); have HZ : Aside0 (w1.heap.size < w10.heap.size) := ⟨blk_lt HO10.out⟩; clear hv hb hk_0 hk_1 hk_2 hk_3))
     clear HRV HZ
     have HD := Aside0.mk (below_drew (Below.refl w11.heap.size w11))
     have HL12 := Aside0.mk (HL11.out.below HD.out)
     have HO12 := Aside0.mk (blk_below HO11.out HD.out)
     have HK12 := Aside0.mk (blk_below HK11.out HD.out)
     refine start_ (n := 18) (S := fun W => W.cell? (⟨w.heap.size, 1, none⟩) = some (.slice (some am) ls.length c0) ∧ W.cell? (⟨w.heap.size + 1 + 1, 5, none⟩) = some (.int .i64 (z : Int)) ∧ W.cell? (⟨w.heap.size + 1 + 1, 8, none⟩) = some (.int .i64 (q : Int)) ∧ W.cell? (⟨w.heap.size + 1 + 1, 10, none⟩) = some (.slice A4 v.length c4) ∧ W.cell? (⟨(am.add (z * 3)).block, (am.add (z * 3)).off + 1, none⟩) = some (.slice (some ax) X.f1.length d1_) ∧ W.cell? (ax.add (q * 2)) = some (.slice B0 Y.f0.length d0) ∧ W.cell? (⟨(ax.add (q * 2)).block, (ax.add (q * 2)).off + 1, none⟩) = some (.slice B1 Y.f1.length d1)) (ds := []) #[false, false, false, false, false, false, false, false, false, false, false, false, false, false, false, false, false, false] (by kernel_rfl) rfl rfl ⟨(blk_cell HL12.out.m 1).trans rfl, (blk_cell HL12.out.a 5).trans rfl, (blk_cell HL12.out.a 8).trans rfl, (blk_cell HL12.out.a 10).trans rfl, pw_cell_below HL12.out.hb HZ1_.out, pw_cell_below HL12.out.hb HW0_.out, pw_cell_below HL12.out.hb HW1_.out⟩ (fun hHeld => ?_)
     clear HD HL11 HO11 HK11
     generalize w11.drew = w12 at HL12 HO12 HK12 hHeld ⊢
     refine pure_ (i := 0) (N := some 69) (v := ?_) (a' := ?_) #[true, false, false, false, false, false, false, false, false, false, false, false, false, false, false, false, false, false] rfl rfl (any_of rfl (by kernel_rfl)) (fun _ _ _ h => h) (Or.inl ⟨by rfl, ?_⟩) ?_ ?_
     rotate_left
     ·
      intro w'; go_simp; with_reducible rfl
     rotate_left
     ·
      simp only [Act.put, List.setIfInBounds_toArray, List.set_cons_zero, List.set_cons_succ, i64_w, i32_w]
      rfl
     refine take_ (i := 1) (N := some 70) (v := ?_) (a' := ?_) #[true, true, false, false, false, false, false, false, false, false, false, false, false, false, false, false, false, false] rfl rfl (take_of rfl (by kernel_rfl)) (fun _ _ _ h => h) (Or.inl ⟨by rfl, ?_⟩) hHeld ?_ ?_
     rotate_left
     ·
      rintro w' ⟨s0, s1, s2, s3, s4, s5, s6⟩; go_simp; with_reducible rfl
     rotate_left
     ·
      simp only [Act.put, List.setIfInBounds_toArray, List.set_cons_zero, List.set_cons_succ, i64_w, i32_w]
      rfl
     refine pure_ (i := 2) (N := some 71) (v := ?_) (a' := ?_) #[true, true, true, false, false, false, false, false, false, false, false, false, false, false, false, false, false, false] rfl rfl (any_of rfl (by kernel_rfl)) (fun _ _ _ h => h) (Or.inl ⟨by rfl, ?_⟩) ?_ ?_
     rotate_left
     ·
      intro w'; go_simp; with_reducible rfl
     rotate_left
     ·
      simp only [Act.put, List.setIfInBounds_toArray, List.set_cons_zero, List.set_cons_succ, i64_w, i32_w]
      rfl
     refine take_ (i := 3) (N := some 72) (v := ?_) (a' := ?_) #[true, true, true, true, false, false, false, false, false, false, false, false, false, false, false, false, false, false] rfl rfl (take_of rfl (by kernel_rfl)) (fun _ _ _ h => h) (Or.inl ⟨by rfl, ?_⟩) hHeld ?_ ?_
     rotate_left
     ·
      rintro w' ⟨s0, s1, s2, s3, s4, s5, s6⟩; go_simp; with_reducible rfl
     rotate_left
     ·
      simp only [Act.put, List.setIfInBounds_toArray, List.set_cons_zero, List.set_cons_succ, i64_w, i32_w]
      rfl
     refine pure_ (i := 4) (N := some 73) (v := ?_) (a' := ?_) #[true, true, true, true, true, false, false, false, false, false, false, false, false, false, false, false, false, false] rfl rfl (any_of rfl (by kernel_rfl)) (fun _ _ _ h => h) (Or.inl ⟨by rfl, ?_⟩) ?_ ?_
     rotate_left
     ·
      intro w'; go_simp; with_reducible rfl
     rotate_left
     ·
      simp only [Act.put, List.setIfInBounds_toArray, List.set_cons_zero, List.set_cons_succ, i64_w, i32_w]
      rfl
     refine pure_ (i := 5) (N := some 74) (v := ?_) (a' := ?_) #[true, true, true, true, true, true, false, false, false, false, false, false, false, false, false, false, false, false] rfl rfl (any_of rfl (by kernel_rfl)) (fun _ _ _ h => h) (Or.inl ⟨by rfl, ?_⟩) ?_ ?_
     rotate_left
     ·
      intro w'; go_simp; with_reducible rfl
     rotate_left
     ·
      simp only [Act.put, List.setIfInBounds_toArray, List.set_cons_zero, List.set_cons_succ, i64_w, i32_w]
      rfl
     refine take_ (i := 6) (N := some 75) (v := ?_) (a' := ?_) #[true, true, true, true, true, true, true, false, false, false, false, false, false, false, false, false, false, false] rfl rfl (take_of rfl (by kernel_rfl)) (fun _ _ _ h => h) (Or.inl ⟨by rfl, ?_⟩) hHeld ?_ ?_
     rotate_left
     ·
      rintro w' ⟨s0, s1, s2, s3, s4, s5, s6⟩; go_simp; with_reducible rfl
     rotate_left
     ·
      simp only [Act.put, List.setIfInBounds_toArray, List.set_cons_zero, List.set_cons_succ, i64_w, i32_w]
      rfl
     refine pure_ (i := 7) (N := some 76) (v := ?_) (a' := ?_) #[true, true, true, true, true, true, true, true, false, false, false, false, false, false, false, false, false, false] rfl rfl (any_of rfl (by kernel_rfl)) (fun _ _ _ h => h) (Or.inl ⟨by rfl, ?_⟩) ?_ ?_
     rotate_left
     ·
      intro w'; go_simp; with_reducible rfl
     rotate_left
     ·
      simp only [Act.put, List.setIfInBounds_toArray, List.set_cons_zero, List.set_cons_succ, i64_w, i32_w]
      rfl
     refine take_ (i := 8) (N := some 77) (v := ?_) (a' := ?_) #[true, true, true, true, true, true, true, true, true, false, false, false, false, false, false, false, false, false] rfl rfl (take_of rfl (by kernel_rfl)) (fun _ _ _ h => h) (Or.inl ⟨by rfl, ?_⟩) hHeld ?_ ?_
     rotate_left
     ·
      rintro w' ⟨s0, s1, s2, s3, s4, s5, s6⟩; go_simp; with_reducible rfl
     rotate_left
     ·
      simp only [Act.put, List.setIfInBounds_toArray, List.set_cons_zero, List.set_cons_succ, i64_w, i32_w]
      rfl
     refine pure_ (i := 9) (N := some 78) (v := ?_) (a' := ?_) #[true, true, true, true, true, true, true, true, true, true, false, false, false, false, false, false, false, false] rfl rfl (any_of rfl (by kernel_rfl)) (fun _ _ _ h => h) (Or.inl ⟨by rfl, ?_⟩) ?_ ?_
     rotate_left
     ·
      intro w'; go_simp; with_reducible rfl
     rotate_left
     ·
      simp only [Act.put, List.setIfInBounds_toArray, List.set_cons_zero, List.set_cons_succ, i64_w, i32_w]
      rfl
     refine take_ (i := 10) (N := some 79) (v := ?_) (a' := ?_) #[true, true, true, true, true, true, true, true, true, true, true, false, false, false, false, false, false, false] rfl rfl (take_of rfl (by kernel_rfl)) (fun _ _ _ h => h) (Or.inl ⟨by rfl, ?_⟩) hHeld ?_ ?_
     rotate_left
     ·
      rintro w' ⟨s0, s1, s2, s3, s4, s5, s6⟩; go_simp; with_reducible rfl
     rotate_left
     ·
      simp only [Act.put, List.setIfInBounds_toArray, List.set_cons_zero, List.set_cons_succ, i64_w, i32_w]
      rfl
     refine pure_ (i := 11) (N := some 80) (v := ?_) (a' := ?_) #[true, true, true, true, true, true, true, true, true, true, true, true, false, false, false, false, false, false] rfl rfl (any_of rfl (by kernel_rfl)) (fun _ _ _ h => h) (Or.inl ⟨by rfl, ?_⟩) ?_ ?_
     rotate_left
     ·
      intro w'; go_simp; with_reducible rfl
     rotate_left
     ·
      simp only [Act.put, List.setIfInBounds_toArray, List.set_cons_zero, List.set_cons_succ, i64_w, i32_w]
      rfl
     refine take_ (i := 12) (N := some 81) (v := ?_) (a' := ?_) #[true, true, true, true, true, true, true, true, true, true, true, true, true, false, false, false, false, false] rfl rfl (take_of rfl (by kernel_rfl)) (fun _ _ _ h => h) (Or.inl ⟨by rfl, ?_⟩) hHeld ?_ ?_
     rotate_left
     ·
      rintro w' ⟨s0, s1, s2, s3, s4, s5, s6⟩; go_simp; with_reducible rfl
     rotate_left
     ·
      simp only [Act.put, List.setIfInBounds_toArray, List.set_cons_zero, List.set_cons_succ, i64_w, i32_w]
      rfl
     refine one_ (i := 13) (N := some 82) #[true, true, true, true, true, true, true, true, true, true, true, true, true, true, false, false, false, false] rfl rfl (one_of rfl (by kernel_rfl)) (by decide) (fun K hK => ?_)
     have R_ := expert_Run.calls k B0 d0 Y.f0 B1 d1 Y.f1 A4 c4 v y_ ry w12 (Kd.C_below HC0_.out HL12.out.hb) HL0_.out (Kd.C_below HC1_.out HL12.out.hb) HL1_.out (Kd.C_below HR4.out HL12.out.hb) HC4.out HRU_.out
     refine goes_ Try.func19 (by kernel_rfl) rfl #[.agg #[.slice B0 Y.f0.length d0, .slice B1 Y.f1.length d1], .slice A4 v.length c4] (by rfl) rfl rfl (by (try simp only [List.map_toArray, List.map_cons, List.map_nil]); first | done | rfl) ?_
     refine R_.mono ?_
     clear R_; rintro e_ w13 ⟨v0, rfl, hv, hb⟩
     obtain ⟨Ay, cy, rfl⟩ := Kd.R_slice hv
     have HL13 := Aside0.mk (HL12.out.below hb)
     have HO13 := Aside0.mk (blk_below HO12.out hb); have HK13 := Aside0.mk (blk_below HK12.out hb)
     have HRY := Aside0.mk (Kd.R_mono (ok' := fun k => w12.heap.size ≤ k) (Kd.R_bound hv) (fun k hk => hk.2.1))
     have HZ : Aside0 (w1.heap.size < w12.heap.size) := ⟨blk_lt HO12.out⟩
     have HZS0 : Aside0 (w12.heap.size ≤ w13.heap.size) := ⟨below_size hb⟩
     clear hv hb; refine ⟨_, rfl, ?_⟩
     refine hK.out _ _ ⟨(blk_cell HL13.out.m 1).trans rfl, (blk_cell HL13.out.a 5).trans rfl, (blk_cell HL13.out.a 8).trans rfl, (blk_cell HL13.out.a 10).trans rfl, pw_cell_below HL13.out.hb HZ1_.out, pw_cell_below HL13.out.hb HW0_.out, pw_cell_below HL13.out.hb HW1_.out⟩ (fun _ => ?_)
     clear hK K
     refine norm_ (a' := ?_) ?_ ?_
     rotate_left
     ·
      show Act.put _ (some 82) _ = _
      simp only [Act.put, List.setIfInBounds_toArray, List.set_cons_zero, List.set_cons_succ, i64_w, i32_w]
      rfl
     refine pure_ (i := 14) (N := some 68) (v := ?_) (a' := ?_) #[true, true, true, true, true, true, true, true, true, true, true, true, true, true, true, false, false, false] rfl rfl (any_of rfl (by kernel_rfl)) (fun _ _ _ h => h) (Or.inl ⟨by rfl, ?_⟩) ?_ ?_
     rotate_left
     ·
      intro w'; go_simp; with_reducible rfl
     rotate_left
     ·
      simp only [Act.put, List.setIfInBounds_toArray, List.set_cons_zero, List.set_cons_succ, i64_w, i32_w]
      rfl
     refine pure_ (i := 15) (N := some 83) (v := ?_) (a' := ?_) #[true, true, true, true, true, true, true, true, true, true, true, true, true, true, true, true, false, false] rfl rfl (any_of rfl (by kernel_rfl)) (fun _ _ _ h => h) (Or.inl ⟨by rfl, ?_⟩) ?_ ?_
     rotate_left
     ·
      intro w'; go_simp; with_reducible rfl
     rotate_left
     ·
      simp only [Act.put, List.setIfInBounds_toArray, List.set_cons_zero, List.set_cons_succ, i64_w, i32_w]
      rfl
     refine pure_ (i := 16) (N := some 84) (v := ?_) (a' := ?_) #[true, true, true, true, true, true, true, true, true, true, true, true, true, true, true, true, true, false] rfl rfl (any_of rfl (by kernel_rfl)) (fun _ _ _ h => h) (Or.inl ⟨by rfl, ?_⟩) ?_ ?_
     rotate_left
     ·
      intro w'; go_simp; with_reducible rfl
     rotate_left
     ·
      simp only [Act.put, List.setIfInBounds_toArray, List.set_cons_zero, List.set_cons_succ, i64_w, i32_w]
      rfl
     refine pure_ (i := 17) (N := some 15) (v := ?_) (a' := ?_) #[true, true, true, true, true, true, true, true, true, true, true, true, true, true, true, true, true, true] rfl rfl (any_of rfl (by kernel_rfl)) (fun _ _ _ h => h) (Or.inl ⟨by rfl, ?_⟩) ?_ ?_
     rotate_left
     ·
      intro w'; go_simp; with_reducible rfl
     rotate_left
     ·
      simp only [Act.put, List.setIfInBounds_toArray, List.set_cons_zero, List.set_cons_succ, i64_w, i32_w]
      rfl
     refine done_ (done_of rfl (by kernel_rfl)) ?_
     have hk_0 : w13.cell? ⟨w9.heap.size, 0, none⟩ = some (.int .i64 a4) := (blk_cell HK13.out 0).trans rfl
     have hk_1 : w13.cell? ⟨w9.heap.size, 1, none⟩ = some (.int .i64 (z : Int)) := (blk_cell HK13.out 1).trans rfl
     have hk_2 : w13.cell? ⟨w9.heap.size, 2, none⟩ = some (.int .i64 a6) := (blk_cell HK13.out 2).trans rfl
     have hk_3 : w13.cell? ⟨w9.heap.size, 3, none⟩ = some (.int .i64 a7) := (blk_cell HK13.out 3).trans rfl
     go_upto_region 12 with ((go_at_call 20; refine (ledger_Enter.calls (fun k => P3 k ∧ k < w.heap.size) A3 c3 l a4 (z : Int) a6 a7 Ay cy y_ es re w13 (Kd.V_below HV.out HL13.out.hb) (Kd.R_reads' HRY.out).2.2 (Kd.R_reads' HRY.out).2.1 HEN.out).mono ?_; rintro e_ w14 ⟨v5, rfl, hv, hb⟩; obtain ⟨A5, c5, rfl⟩ := Kd.V_slice hv; have HL14 := Aside0.mk (HL13.out.below hb); have HO14 := Aside0.mk (blk_below HO13.out hb); have HRV := Aside0.mk (Kd.R_below HRY.out hb); have HVE := Aside0.mk hv; have HZL : Aside0 (∀ k, (Value.slice Ay y_.length cy).ownBlock = some k → w12.heap.size ≤ k ∧ k < w13.heap.size) := ⟨fun k h_ => ⟨Kd.R_base HRY.out k h_, Kd.R_lt HRY.out k h_⟩⟩; have HZS : Aside0 (w12.heap.size ≤ w13.heap.size ∧ w.heap.size ≤ w12.heap.size) := ⟨⟨Nat.le_of_lt_succ (Nat.lt_succ_of_le (by have h1 := HZS0.out; exact h1)), below_size HL12.out.hb⟩⟩; clear hv hb hk_0 hk_1 hk_2 hk_3))
     have ho0 : w14.cell? ⟨w1.heap.size, 0, none⟩ = some (.int .i64 3) := (blk_cell HO14.out 0).trans rfl
     have ho10 : w14.cell? ⟨w1.heap.size, 10, none⟩ = some (.slice none 0 0) := (blk_cell HO14.out 10).trans rfl
     have hf0 := blk_frozen HO14.out 0
     have hf10 := blk_frozen HO14.out 10
     go_upto_region 13 with (fail)
     clear ho0 ho10 hf0 hf10
     have HLn := Aside0.mk ((HL14.out.far (q := ⟨w1.heap.size, 0, none⟩) HGO.out (.int .i64 2)).far (q := ⟨w1.heap.size, 10, none⟩) HGO.out (.slice Ay y_.length cy))
     have HOn : Aside0 (((w14.setCell ⟨w1.heap.size, 0, none⟩ (.int .i64 2)).setCell ⟨w1.heap.size, 10, none⟩ (.slice Ay y_.length cy)).heap[w1.heap.size]? = some (.cells #[.int .i64 2, .int .i64 me, .int .i64 a1, .int .i64 a3, .int .i64 a4, .int .i64 (z : Int), .int .i64 a6, .int .i64 a7, .int .i64 (q : Int), .int .i64 e, .slice Ay y_.length cy] 31 (0, 0))) := ⟨blk_put (blk_put (cs' := #[.int .i64 2, .int .i64 me, .int .i64 a1, .int .i64 a3, .int .i64 a4, .int .i64 (z : Int), .int .i64 a6, .int .i64 a7, .int .i64 (q : Int), .int .i64 e, .slice none 0 0]) HO14.out 0 _ rfl) 10 _ rfl⟩
     have HRn := Aside0.mk (Kd.R_far (Kd.R_far HRV.out (p := ⟨w1.heap.size, 0, none⟩) (fun k hk => by have h1 := HZ.out; show k ≠ w1.heap.size; omega) (.int .i64 2)) (p := ⟨w1.heap.size, 10, none⟩) (fun k hk => by have h1 := HZ.out; show k ≠ w1.heap.size; omega) (.slice Ay y_.length cy))
     have HVn := Aside0.mk (Kd.V_far (Kd.V_far HVE.out (p := ⟨w1.heap.size, 0, none⟩) (fun k hk => by have h1 := HZ.out; have h2 := HGO.out; have h3 := HZS.out; show k ≠ w1.heap.size; rcases hk with hk | hk <;> omega) (.int .i64 2)) (p := ⟨w1.heap.size, 10, none⟩) (fun k hk => by have h1 := HZ.out; have h2 := HGO.out; have h3 := HZS.out; show k ≠ w1.heap.size; rcases hk with hk | hk <;> omega) (.slice Ay y_.length cy))
     generalize ((w14.setCell ⟨w1.heap.size, 0, none⟩ (.int .i64 2)).setCell ⟨w1.heap.size, 10, none⟩ (.slice Ay y_.length cy)) = wn at HLn HOn HRn HVn ⊢
     have HD := Aside0.mk (below_drew (Below.refl wn.heap.size wn))
     have HLq := Aside0.mk (HLn.out.below HD.out)
     have HOq := Aside0.mk (blk_below HOn.out HD.out)
     have HRnq := Aside0.mk (Kd.R_below HRn.out HD.out)
     have HVnq := Aside0.mk (Kd.V_below HVn.out HD.out)
     refine start_ (n := 5) (S := fun W => W.cell? ⟨w1.heap.size, 0, none⟩ = some (.int .i64 2) ∧ W.cell? ⟨w1.heap.size, 1, none⟩ = some (.int .i64 me) ∧ W.cell? ⟨w1.heap.size, 2, none⟩ = some (.int .i64 a1) ∧ W.cell? ⟨w1.heap.size, 3, none⟩ = some (.int .i64 a3) ∧ W.cell? ⟨w1.heap.size, 4, none⟩ = some (.int .i64 a4) ∧ W.cell? ⟨w1.heap.size, 5, none⟩ = some (.int .i64 (z : Int)) ∧ W.cell? ⟨w1.heap.size, 6, none⟩ = some (.int .i64 a6) ∧ W.cell? ⟨w1.heap.size, 7, none⟩ = some (.int .i64 a7) ∧ W.cell? ⟨w1.heap.size, 8, none⟩ = some (.int .i64 (q : Int)) ∧ W.cell? ⟨w1.heap.size, 9, none⟩ = some (.int .i64 e) ∧ W.cell? ⟨w1.heap.size, 10, none⟩ = some (.slice Ay y_.length cy)) (ds := []) #[false, false, false, false, false] (by kernel_rfl) rfl rfl (cells11 HOq.out) (fun hHeld => ?_)
     clear HD
     generalize wn.drew = wq at HLq HOq HRnq HVnq hHeld ⊢
     refine pure_ (i := 0) (N := some 95) (v := ?_) (a' := ?_) #[true, false, false, false, false] rfl rfl (any_of rfl (by kernel_rfl)) (fun _ _ _ h => h) (Or.inl ⟨by rfl, ?_⟩) ?_ ?_
     rotate_left
     ·
      intro w'; go_simp; with_reducible rfl
     rotate_left
     ·
      simp only [Act.put, List.setIfInBounds_toArray, List.set_cons_zero, List.set_cons_succ, i64_w, i32_w]
      rfl
     refine take_ (i := 1) (N := some 96) (v := ?_) (a' := ?_) #[true, true, false, false, false] rfl rfl (take_of rfl (by kernel_rfl)) (fun _ _ _ h => h) (Or.inl ⟨by rfl, ?_⟩) hHeld ?_ ?_
     rotate_left
     ·
      rintro w' ⟨s0, s1, s2, s3, s4, s5, s6, s7, s8, s9, s10⟩; go_simp; with_reducible rfl
     rotate_left
     ·
      simp only [Act.put, List.setIfInBounds_toArray, List.set_cons_zero, List.set_cons_succ, i64_w, i32_w]
      rfl
     refine pure_ (i := 2) (N := some 10) (v := ?_) (a' := ?_) #[true, true, true, false, false] rfl rfl (any_of rfl (by kernel_rfl)) (fun _ _ _ h => h) (Or.inl ⟨by rfl, ?_⟩) ?_ ?_
     rotate_left
     ·
      intro w'; go_simp; with_reducible rfl
     rotate_left
     ·
      simp only [Act.put, List.setIfInBounds_toArray, List.set_cons_zero, List.set_cons_succ, i64_w, i32_w]
      rfl
     refine one_ (i := 3) (N := none) #[true, true, true, true, false] rfl rfl (one_of rfl (by kernel_rfl)) (by decide) (fun K hK => ?_)
     obtain ⟨hr0, hr1, hr2, hr3, hr4, hr5, hr6, hr7, hr8, hr9, hr10⟩ := cells11 HLq.out.r
     obtain ⟨hf0, hf1, hf2, hf3, hf4, hf5, hf6, hf7, hf8, hf9, hf10⟩ := froz11 HLq.out.r
     refine skip_ (w1 := ?_) (by rfl) rfl ?_ ?_
     rotate_left
     ·
      go_simp; rfl
     clear hr0 hr1 hr2 hr3 hr4 hr5 hr6 hr7 hr8 hr9 hr10 hf0 hf1 hf2 hf3 hf4 hf5 hf6 hf7 hf8 hf9 hf10 hHeld
     have HRF := Aside0.mk (R_far8 HRnq.out (g := w.heap.size + 1 + 1 + 1) (fun k hk => by have h1 := HZ.out; have h2 := HGO.out; show k ≠ w.heap.size + 1 + 1 + 1; omega) (.int .i64 2) (.int .i64 me) (.int .i64 a1) (.int .i64 a3) (.int .i64 a4) (.int .i64 (z : Int)) (.int .i64 a6) (.int .i64 a7) (.int .i64 (q : Int)) (.int .i64 e) (.slice Ay y_.length cy))
     have HVF := Aside0.mk (V_far8 HVnq.out (g := w.heap.size + 1 + 1 + 1) (fun k hk => by have h1 := HZ.out; have h2 := HGO.out; have h3 := HZS.out; show k ≠ w.heap.size + 1 + 1 + 1; rcases hk with hk | hk <;> omega) (.int .i64 2) (.int .i64 me) (.int .i64 a1) (.int .i64 a3) (.int .i64 a4) (.int .i64 (z : Int)) (.int .i64 a6) (.int .i64 a7) (.int .i64 (q : Int)) (.int .i64 e) (.slice Ay y_.length cy))
     have HF := Aside0.mk (HLq.out.putall (.int .i64 2) (.int .i64 me) (.int .i64 a1) (.int .i64 a3) (.int .i64 a4) (.int .i64 (z : Int)) (.int .i64 a6) (.int .i64 a7) (.int .i64 (q : Int)) (.int .i64 e) (.slice Ay y_.length cy))
     have HOF := Aside0.mk (O_far8 HOq.out (g := w.heap.size + 1 + 1 + 1) (by have h1 := HGO.out; omega) (.int .i64 2) (.int .i64 me) (.int .i64 a1) (.int .i64 a3) (.int .i64 a4) (.int .i64 (z : Int)) (.int .i64 a6) (.int .i64 a7) (.int .i64 (q : Int)) (.int .i64 e) (.slice Ay y_.length cy))
     generalize (((((((((((wq.setCell ⟨w.heap.size + 1 + 1 + 1, 0, none⟩ (.int .i64 2)).setCell ⟨w.heap.size + 1 + 1 + 1, 1, none⟩ (.int .i64 me)).setCell ⟨w.heap.size + 1 + 1 + 1, 2, none⟩ (.int .i64 a1)).setCell ⟨w.heap.size + 1 + 1 + 1, 3, none⟩ (.int .i64 a3)).setCell ⟨w.heap.size + 1 + 1 + 1, 4, none⟩ (.int .i64 a4)).setCell ⟨w.heap.size + 1 + 1 + 1, 5, none⟩ (.int .i64 (z : Int))).setCell ⟨w.heap.size + 1 + 1 + 1, 6, none⟩ (.int .i64 a6)).setCell ⟨w.heap.size + 1 + 1 + 1, 7, none⟩ (.int .i64 a7)).setCell ⟨w.heap.size + 1 + 1 + 1, 8, none⟩ (.int .i64 (q : Int))).setCell ⟨w.heap.size + 1 + 1 + 1, 9, none⟩ (.int .i64 e)).setCell ⟨w.heap.size + 1 + 1 + 1, 10, none⟩ (.slice Ay y_.length cy)) = wf at HF HOF HRF HVF ⊢
     refine hK.out _ _ (cells11 HOF.out) (fun _ => ?_)
     clear hK K
     refine pure_ (i := 4) (N := some 12) (v := ?_) (a' := ?_) #[true, true, true, true, true] rfl rfl (any_of rfl (by kernel_rfl)) (fun _ _ _ h => h) (Or.inl ⟨by rfl, ?_⟩) ?_ ?_
     rotate_left
     ·
      intro w'; go_simp; with_reducible rfl
     rotate_left
     ·
      simp only [Act.put, List.setIfInBounds_toArray, List.set_cons_zero, List.set_cons_succ, i64_w, i32_w]
      rfl
     refine done_ (done_of rfl (by kernel_rfl)) ?_
     go_wp2
     refine bodyPost_ret (results_list (rs := [.tmp 10, .cell 11 31, .tmp 12]) rfl (by simp) (.tmp (.cell _ 31 #[.int .i64 2, .int .i64 me, .int .i64 a1, .int .i64 a3, .int .i64 a4, .int .i64 (z : Int), .int .i64 a6, .int .i64 a7, .int .i64 (q : Int), .int .i64 e, .slice Ay y_.length cy] (0, 0) _ rfl HF.out.r Try.underlying31 rfl (by kernel_rfl) (.tmp .nil)))) rfl ?_
     exact ⟨.slice A5 es.length c5, .slice Ay y_.length cy, rfl, Kd.V_mono HVF.out (fun k hk => ⟨hk.elim (fun h_ => .inl h_.1) (fun h_ => .inr (by have h3 := HZS.out; omega)), fun h_ => by have h1 := HZL.out k h_.symm; have h3 := HZS.out; rcases hk with hk | hk <;> omega⟩), Kd.R_mono (Kd.R_lower HRF.out HZS.out.2) (fun k hk => Nat.le_trans HZS.out.2 hk), HF.out.hb⟩
    ·
     simp only [if_true] at h
     simp only [Option.some.injEq, Prod.mk.injEq] at h
     obtain ⟨rfl, rfl, rfl, rfl, rfl, rfl, rfl, rfl, rfl, rfl, rfl, rfl, rfl⟩ := h
     go_upto_region 12 with ((go_at_call 18; refine (ledger_Find.calls A3 c3 l a4 a5 a6 a7 x true _ (Kd.V_reads' (Kd.V_below HV.out HL10.out.hb)).2.2 (Kd.V_reads' HV.out).2.1 HFI.out).mono ?_; rintro e_ w11 ⟨v0, rfl, hv, hb⟩; obtain ⟨Av, cv, rfl⟩ := Kd.R_slice hv; have HL11 := Aside0.mk (HL10.out.below hb); have HO11 := Aside0.mk (blk_below HO10.out hb); have HK11 := Aside0.mk (blk_below HK10.out hb); have HRV := Aside0.mk (Kd.R_mono (ok' := fun k => w10.heap.size ≤ k) (Kd.R_bound hv) (fun k hk => hk.2.1)); have HZ : Aside0 (w1.heap.size < w10.heap.size) := ⟨blk_lt HO10.out⟩; clear hv hb hk_0 hk_1 hk_2 hk_3))
     have ho0 : w11.cell? ⟨w1.heap.size, 0, none⟩ = some (.int .i64 3) := (blk_cell HO11.out 0).trans rfl
     have ho10 : w11.cell? ⟨w1.heap.size, 10, none⟩ = some (.slice none 0 0) := (blk_cell HO11.out 10).trans rfl
     have hf0 := blk_frozen HO11.out 0
     have hf10 := blk_frozen HO11.out 10
     go_upto_region 13 with (fail)
     clear ho0 ho10 hf0 hf10
     have HLn := Aside0.mk ((HL11.out.far (q := ⟨w1.heap.size, 0, none⟩) HGO.out (.int .i64 2)).far (q := ⟨w1.heap.size, 10, none⟩) HGO.out (.slice Av x.length cv))
     have HOn : Aside0 (((w11.setCell ⟨w1.heap.size, 0, none⟩ (.int .i64 2)).setCell ⟨w1.heap.size, 10, none⟩ (.slice Av x.length cv)).heap[w1.heap.size]? = some (.cells #[.int .i64 2, .int .i64 me, .int .i64 a1, .int .i64 a3, .int .i64 a4, .int .i64 a5, .int .i64 a6, .int .i64 a7, .int .i64 a8, .int .i64 e, .slice Av x.length cv] 31 (0, 0))) := ⟨blk_put (blk_put (cs' := #[.int .i64 2, .int .i64 me, .int .i64 a1, .int .i64 a3, .int .i64 a4, .int .i64 a5, .int .i64 a6, .int .i64 a7, .int .i64 a8, .int .i64 e, .slice none 0 0]) HO11.out 0 _ rfl) 10 _ rfl⟩
     have HRn := Aside0.mk (Kd.R_far (Kd.R_far HRV.out (p := ⟨w1.heap.size, 0, none⟩) (fun k hk => by have h1 := HZ.out; show k ≠ w1.heap.size; omega) (.int .i64 2)) (p := ⟨w1.heap.size, 10, none⟩) (fun k hk => by have h1 := HZ.out; show k ≠ w1.heap.size; omega) (.slice Av x.length cv))
     generalize ((w11.setCell ⟨w1.heap.size, 0, none⟩ (.int .i64 2)).setCell ⟨w1.heap.size, 10, none⟩ (.slice Av x.length cv)) = wn at HLn HOn HRn ⊢
     have HD := Aside0.mk (below_drew (Below.refl wn.heap.size wn))
     have HLq := Aside0.mk (HLn.out.below HD.out)
     have HOq := Aside0.mk (blk_below HOn.out HD.out)
     have HRnq := Aside0.mk (Kd.R_below HRn.out HD.out)
     refine start_ (n := 5) (S := fun W => W.cell? ⟨w1.heap.size, 0, none⟩ = some (.int .i64 2) ∧ W.cell? ⟨w1.heap.size, 1, none⟩ = some (.int .i64 me) ∧ W.cell? ⟨w1.heap.size, 2, none⟩ = some (.int .i64 a1) ∧ W.cell? ⟨w1.heap.size, 3, none⟩ = some (.int .i64 a3) ∧ W.cell? ⟨w1.heap.size, 4, none⟩ = some (.int .i64 a4) ∧ W.cell? ⟨w1.heap.size, 5, none⟩ = some (.int .i64 a5) ∧ W.cell? ⟨w1.heap.size, 6, none⟩ = some (.int .i64 a6) ∧ W.cell? ⟨w1.heap.size, 7, none⟩ = some (.int .i64 a7) ∧ W.cell? ⟨w1.heap.size, 8, none⟩ = some (.int .i64 a8) ∧ W.cell? ⟨w1.heap.size, 9, none⟩ = some (.int .i64 e) ∧ W.cell? ⟨w1.heap.size, 10, none⟩ = some (.slice Av x.length cv)) (ds := []) #[false, false, false, false, false] (by kernel_rfl) rfl rfl (cells11 HOq.out) (fun hHeld => ?_)
     clear HD
     generalize wn.drew = wq at HLq HOq HRnq hHeld ⊢
     refine pure_ (i := 0) (N := some 95) (v := ?_) (a' := ?_) #[true, false, false, false, false] rfl rfl (any_of rfl (by kernel_rfl)) (fun _ _ _ h => h) (Or.inl ⟨by rfl, ?_⟩) ?_ ?_
     rotate_left
     ·
      intro w'; go_simp; with_reducible rfl
     rotate_left
     ·
      simp only [Act.put, List.setIfInBounds_toArray, List.set_cons_zero, List.set_cons_succ, i64_w, i32_w]
      rfl
     refine take_ (i := 1) (N := some 96) (v := ?_) (a' := ?_) #[true, true, false, false, false] rfl rfl (take_of rfl (by kernel_rfl)) (fun _ _ _ h => h) (Or.inl ⟨by rfl, ?_⟩) hHeld ?_ ?_
     rotate_left
     ·
      rintro w' ⟨s0, s1, s2, s3, s4, s5, s6, s7, s8, s9, s10⟩; go_simp; with_reducible rfl
     rotate_left
     ·
      simp only [Act.put, List.setIfInBounds_toArray, List.set_cons_zero, List.set_cons_succ, i64_w, i32_w]
      rfl
     refine pure_ (i := 2) (N := some 10) (v := ?_) (a' := ?_) #[true, true, true, false, false] rfl rfl (any_of rfl (by kernel_rfl)) (fun _ _ _ h => h) (Or.inl ⟨by rfl, ?_⟩) ?_ ?_
     rotate_left
     ·
      intro w'; go_simp; with_reducible rfl
     rotate_left
     ·
      simp only [Act.put, List.setIfInBounds_toArray, List.set_cons_zero, List.set_cons_succ, i64_w, i32_w]
      rfl
     refine one_ (i := 3) (N := none) #[true, true, true, true, false] rfl rfl (one_of rfl (by kernel_rfl)) (by decide) (fun K hK => ?_)
     obtain ⟨hr0, hr1, hr2, hr3, hr4, hr5, hr6, hr7, hr8, hr9, hr10⟩ := cells11 HLq.out.r
     obtain ⟨hf0, hf1, hf2, hf3, hf4, hf5, hf6, hf7, hf8, hf9, hf10⟩ := froz11 HLq.out.r
     refine skip_ (w1 := ?_) (by rfl) rfl ?_ ?_
     rotate_left
     ·
      go_simp; rfl
     clear hr0 hr1 hr2 hr3 hr4 hr5 hr6 hr7 hr8 hr9 hr10 hf0 hf1 hf2 hf3 hf4 hf5 hf6 hf7 hf8 hf9 hf10 hHeld
     have HRF := Aside0.mk (R_far8 HRnq.out (g := w.heap.size + 1 + 1 + 1) (fun k hk => by have h1 := HZ.out; have h2 := HGO.out; show k ≠ w.heap.size + 1 + 1 + 1; omega) (.int .i64 2) (.int .i64 me) (.int .i64 a1) (.int .i64 a3) (.int .i64 a4) (.int .i64 a5) (.int .i64 a6) (.int .i64 a7) (.int .i64 a8) (.int .i64 e) (.slice Av x.length cv))
     have HF := Aside0.mk (HLq.out.putall (.int .i64 2) (.int .i64 me) (.int .i64 a1) (.int .i64 a3) (.int .i64 a4) (.int .i64 a5) (.int .i64 a6) (.int .i64 a7) (.int .i64 a8) (.int .i64 e) (.slice Av x.length cv))
     have HOF := Aside0.mk (O_far8 HOq.out (g := w.heap.size + 1 + 1 + 1) (by have h1 := HGO.out; omega) (.int .i64 2) (.int .i64 me) (.int .i64 a1) (.int .i64 a3) (.int .i64 a4) (.int .i64 a5) (.int .i64 a6) (.int .i64 a7) (.int .i64 a8) (.int .i64 e) (.slice Av x.length cv))
     generalize (((((((((((wq.setCell ⟨w.heap.size + 1 + 1 + 1, 0, none⟩ (.int .i64 2)).setCell ⟨w.heap.size + 1 + 1 + 1, 1, none⟩ (.int .i64 me)).setCell ⟨w.heap.size + 1 + 1 + 1, 2, none⟩ (.int .i64 a1)).setCell ⟨w.heap.size + 1 + 1 + 1, 3, none⟩ (.int .i64 a3)).setCell ⟨w.heap.size + 1 + 1 + 1, 4, none⟩ (.int .i64 a4)).setCell ⟨w.heap.size + 1 + 1 + 1, 5, none⟩ (.int .i64 a5)).setCell ⟨w.heap.size + 1 + 1 + 1, 6, none⟩ (.int .i64 a6)).setCell ⟨w.heap.size + 1 + 1 + 1, 7, none⟩ (.int .i64 a7)).setCell ⟨w.heap.size + 1 + 1 + 1, 8, none⟩ (.int .i64 a8)).setCell ⟨w.heap.size + 1 + 1 + 1, 9, none⟩ (.int .i64 e)).setCell ⟨w.heap.size + 1 + 1 + 1, 10, none⟩ (.slice Av x.length cv)) = wf at HF HOF HRF ⊢
     refine hK.out _ _ (cells11 HOF.out) (fun _ => ?_)
     clear hK K
     refine pure_ (i := 4) (N := some 12) (v := ?_) (a' := ?_) #[true, true, true, true, true] rfl rfl (any_of rfl (by kernel_rfl)) (fun _ _ _ h => h) (Or.inl ⟨by rfl, ?_⟩) ?_ ?_
     rotate_left
     ·
      intro w'; go_simp; with_reducible rfl
     rotate_left
     ·
      simp only [Act.put, List.setIfInBounds_toArray, List.set_cons_zero, List.set_cons_succ, i64_w, i32_w]
      rfl
     refine done_ (done_of rfl (by kernel_rfl)) ?_
     go_wp2
     refine bodyPost_ret (results_list (rs := [.tmp 10, .cell 11 31, .tmp 12]) rfl (by simp) (.tmp (.cell _ 31 #[.int .i64 2, .int .i64 me, .int .i64 a1, .int .i64 a3, .int .i64 a4, .int .i64 a5, .int .i64 a6, .int .i64 a7, .int .i64 a8, .int .i64 e, .slice Av x.length cv] (0, 0) _ rfl HF.out.r Try.underlying31 rfl (by kernel_rfl) (.tmp .nil)))) rfl ?_
     exact ⟨.slice A3 l.length c3, .slice Av x.length cv, rfl, Kd.V_mono (Kd.V_below HV.out HF.out.hb) (fun k hk => ⟨.inl hk.1, fun h_ => by have h1 := Kd.R_base HRF.out k h_.symm; have h2 := below_size HL10.out.hb; omega⟩), Kd.R_mono (Kd.R_lower HRF.out (below_size HL10.out.hb)) (fun k hk => Nat.le_trans (below_size HL10.out.hb) hk), HF.out.hb⟩
end Go.Proofs.Ytabklpdjjoaocaa.Qy
