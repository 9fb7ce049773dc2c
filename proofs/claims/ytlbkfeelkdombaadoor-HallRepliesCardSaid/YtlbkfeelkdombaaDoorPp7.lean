/- Own text, by hand: walks for HallReplies. -/
import Derived.Test.YtlbkfeelkdombaaDoorPp0
import Derived.Test.YtlbkfeelkdombaaDoorPp1
import Derived.Test.YtlbkfeelkdombaaDoorPp2
import Derived.Test.YtlbkfeelkdombaaDoorPp3
import Derived.Test.YtlbkfeelkdombaaDoorPp4
import Derived.Test.YtlbkfeelkdombaaDoorPp5
import Derived.Test.YtlbkfeelkdombaaDoorPp6
namespace Go.Proofs.YtlbkfeelkdombaaDoor.Pp
open Go.RowKit Go.Proofs.YtlbkfeelkdombaaDoorW.PrintWords Go.Proofs.YtlbkfeelkdombaaDoorW.PrintLast Go.Proofs.YtlbkfeelkdombaaDoorW.PrintMore
attribute [local go_sem] max2_int min2_int max_two min_two max_three min_three max_four min_four
set_option linter.unusedVariables false
set_option linter.unusedSimpArgs false

/-- What 'ref' leaves. -/
def RefPost (w : World) (l : List S44) (e : Ending) (w' : World) : Prop :=
  ∃ (v : Value) (b : Bool), e = .returned (.tuple #[.agg #[v], .bool b]) ∧ Below w.heap.size w w' ∧ (∃ A n c, v = .slice A n c) ∧
    (b = true → (l.length ≤ 30 ∧ ∀ x ∈ l, SmallE x.f1 ∧ SmallE x.f3) ∧ Kd.V k65 65 w' 0 (fun _ => True) v (l.map conv)) ∧ (b = false → ¬ (l.length ≤ 30 ∧ ∀ x ∈ l, SmallE x.f1 ∧ SmallE x.f3))
/-- ref's variables in memory. -/
structure RfW (w W : World) (hc v : Value) : Prop where
  hb : Below w.heap.size w W
  h : W.heap[w.heap.size]? = some (.cells #[hc] 24 (0, 0))
  r : W.heap[w.heap.size + 1]? = some (.cells #[.slice none 0 0] 28 (0, 0))
  o : W.heap[w.heap.size + 1 + 1]? = some (.cells #[v] 28 (0, 0))
theorem RfW.below {w W W' : World} {hc v : Value} (h : RfW w W hc v) (hb : Below W.heap.size W W') : RfW w W' hc v := ⟨below_step h.hb hb, blk_below h.h hb, blk_below h.r hb, blk_below h.o hb⟩
theorem RfW.size {w W : World} {hc v : Value} (h : RfW w W hc v) : w.heap.size + 3 ≤ W.heap.size := by
  have := blk_lt h.o
  omega
theorem RfW.grown {w W W' : World} {hc v : Value} (h : RfW w W hc v) {row : Option Nat} (hg : W.grownBy W' row) (hr : ∀ k, row = some k → w.heap.size + 3 ≤ k) (hb : Below w.heap.size w W') : RfW w W' hc v :=
  ⟨hb, blk_grown h.h hg (fun e => by have := hr _ e.symm; omega), blk_grown h.r hg (fun e => by have := hr _ e.symm; omega), blk_grown h.o hg (fun e => by have := hr _ e.symm; omega)⟩
theorem RfW.put {w W : World} {hc v : Value} (h : RfW w W hc v) (u : Value) : RfW w (W.setCell ⟨w.heap.size + 1 + 1, 0, none⟩ u) hc u :=
  ⟨below_set h.hb (by omega), (Below.heap_setCell W ⟨w.heap.size + 1 + 1, 0, none⟩ u w.heap.size (by show w.heap.size ≠ w.heap.size + 1 + 1; omega)).trans h.h, (Below.heap_setCell W ⟨w.heap.size + 1 + 1, 0, none⟩ u (w.heap.size + 1) (by show w.heap.size + 1 ≠ w.heap.size + 1 + 1; omega)).trans h.r, blk_put h.o 0 u rfl⟩
/-- Element i of a row that is read: its cells, and what they lead to. -/
theorem el44 {w W : World} {A : Option Addr} {c : Nat} {l : List S44} (h : Kd.V k44 44 w 0 (fun k => k < w.heap.size) (.slice A l.length c) l) (hb : Below w.heap.size w W) {i : Nat} (hi : i < l.length) :
    ∃ (ad : Addr) (A1 : Option Addr) (c1 : Nat) (A3 : Option Addr) (c3 : Nat), A = some ad ∧ W.cell? (ad.add (i * 4)) = some (.int .i64 l[i].f0) ∧ W.cell? ⟨(ad.add (i * 4)).block, (ad.add (i * 4)).off + 1, none⟩ = some (.slice A1 l[i].f1.length c1) ∧
      W.cell? ⟨(ad.add (i * 4)).block, (ad.add (i * 4)).off + 2, none⟩ = some (.bool l[i].f2) ∧ W.cell? ⟨(ad.add (i * 4)).block, (ad.add (i * 4)).off + 3, none⟩ = some (.slice A3 l[i].f3.length c3) ∧
      l[i].f1.length ≤ c1 ∧ Kd.F (Kd.slice 3 (Kd.int .i64)) W (fun k => k < w.heap.size) A1 l[i].f1.length l[i].f1 ∧ l[i].f3.length ≤ c3 ∧ Kd.F (Kd.slice 3 (Kd.int .i64)) W (fun k => k < w.heap.size) A3 l[i].f3.length l[i].f3 := by
  have h2 := Kd.V_F (Kd.V_below h hb)
  obtain ⟨ad, cs, hA, _, hK, hc0, _⟩ := Kd.F_get h2 z44 (i : Int) (by omega) (by omega)
  rw [Int.toNat_natCast] at hK hc0
  rw [show l.getD i z44 = l[i] by rw [List.getD_eq_getElem?_getD, List.getElem?_eq_getElem hi]; rfl] at hK
  have hc : ∀ j u, cs[j]? = some u → W.cell? (ad.add (i * 4 + j)) = some u := hc0
  obtain ⟨A1, c1, A3, c3, rfl, l1, g1, l3, g3⟩ := k44_openF hK
  exact ⟨ad, A1, c1, A3, c3, hA, hc 0 _ rfl, by rw [← add_field _ _ 1 (by omega)]; exact hc 1 _ rfl, by rw [← add_field _ _ 2 (by omega)]; exact hc 2 _ rfl, by rw [← add_field _ _ 3 (by omega)]; exact hc 3 _ rfl, l1, g1, l3, g3⟩
set_option maxHeartbeats 4000000 in
set_option maxRecDepth 100000 in
theorem ref_calls (A0 : Option Addr) (c0 : Nat) (l : List S44) (w : World) (hV : Kd.V k44 44 w 0 (fun _ => True) (.slice A0 l.length c0) l) :
    Calls Tryd.prog 7 #[.agg #[.slice A0 l.length c0], .int .i64 30] w (RefPost w l) := by
  have hu24 := Tryd.underlying24
  have hu28 := Tryd.underlying28
  have hu44 := Tryd.underlying44
  have HV := Aside0.mk (Kd.V_mono (ok' := fun k => k < w.heap.size) (Kd.V_bound hV) (fun k hk => hk.2))
  clear hV
  have HL0 : Aside0 (RfW w (((w.alloc (.cells #[.slice A0 l.length c0] 24)).alloc (.cells #[.slice none 0 0] 28)).alloc (.cells #[.slice none 0 0] 28)) (.slice A0 l.length c0) (.slice none 0 0)) := ⟨⟨below_alloc (below_alloc (below_alloc (Below.refl _ _) _) _) _, blk_alloc (blk_alloc (alloc_at _ rfl) _) _, blk_alloc (alloc_at _ (by simp)) _, alloc_at _ (by simp)⟩⟩
  by_cases h30 : l.length ≤ 30
  case neg =>
    have k1 : decide ((l.length : Int) > 30) = true := decide_eq_true (by omega)
    have k2 : decide (30 < (l.length : Int)) = true := decide_eq_true (by omega)
    have k3 : decide (30 < l.length) = true := decide_eq_true (by omega)
    have HN := Aside0.mk h30
    clear h30
    go_enter Tryd.func7, Tryd.ntmps7
    go_wp2
    refine bodyPost_ret (results_ct rfl _ _ (w.heap.size + 1) 28 #[.slice none 0 0] (0, 0) _ rfl ?_ Tryd.underlying28 rfl (by kernel_rfl)) rfl ?_
    · first | exact HL0.out.r | trace_state
    · exact ⟨_, false, rfl, HL0.out.hb, ⟨_, _, _, rfl⟩, fun h => (by cases h), fun _ h => HN.out h.1⟩
  have k1 : decide ((l.length : Int) > 30) = false := decide_eq_false (by omega)
  have k2 : decide (30 < (l.length : Int)) = false := decide_eq_false (by omega)
  have k3 : decide (30 < l.length) = false := decide_eq_false (by omega)
  have H30 := Aside0.mk h30
  clear h30
  go_enter Tryd.func7, Tryd.ntmps7
  go_wp2
  go_loopw [18] (fun v18 W => ∃ (i : Nat) (v : Value) (xs : List S65), v18 = .int .i64 (i : Int) ∧ Aside0 (xs = (l.take i).map conv) ∧ Aside0 (i ≤ l.length) ∧ Aside0 (∀ (j : Nat) (hj : j < l.length), j < i → SmallE l[j].f1 ∧ SmallE l[j].f3) ∧ Aside0 (RfW w W (.slice A0 l.length c0) v) ∧ Aside0 (Kd.N k65 65 W w.heap.size (fun k => k < w.heap.size ∨ w.heap.size + 3 ≤ k) v xs)) (fun v18 _ => l.length - (intOf v18).toNat)
  case atStart => exact ⟨0, _, [], rfl, ⟨rfl⟩, ⟨by omega⟩, ⟨fun j hj h => by omega⟩, HL0, ⟨Kd.N_nil _ _ _ _ _⟩⟩
  case round =>
    clear HL0
    obtain ⟨i, v, xs, rfl, HXS, HI, HS, HL, HN⟩ := hrel
    have ho : wr.cell? ⟨w.heap.size + 1 + 1, 0, none⟩ = some v := (blk_cell HL.out.o 0).trans rfl
    have hr : wr.cell? ⟨w.heap.size + 1, 0, none⟩ = some (.slice none 0 0) := (blk_cell HL.out.r 0).trans rfl
    have hfr := blk_frozen HL.out.r 0
    by_cases hlt : i < l.length
    case neg =>
      have k4 : decide ((i : Int) < (l.length : Int)) = false := decide_eq_false (by omega)
      have k5 : decide (i < l.length) = false := decide_eq_false hlt
      have hil : i = l.length := by have := HI.out; omega
      have HIL := Aside0.mk hil
      clear hil
      obtain ⟨Ao, co, rfl⟩ := Kd.N_slice HN.out
      go_wp2
      refine bodyPost_ret (results_ct rfl _ _ (w.heap.size + 1) 28 #[.slice Ao xs.length co] (0, 0) _ rfl (blk_put HL.out.r 0 _ rfl) Tryd.underlying28 rfl (by kernel_rfl)) rfl ?_
      refine ⟨_, true, rfl, below_set HL.out.hb (by omega), ⟨_, _, _, rfl⟩, fun _ => ⟨⟨H30.out, fun x hx => ?_⟩, ?_⟩, fun h => by cases h⟩
      · obtain ⟨j, hj, rfl⟩ := List.getElem_of_mem hx
        exact HS.out j hj (by have := HIL.out; omega)
      · have hN := Kd.N_V (base' := 0) (Kd.N_far (p := ⟨w.heap.size + 1, 0, none⟩) HN.out (fun k hk => by show k ≠ w.heap.size + 1; omega) (.slice Ao xs.length co))
        have e : xs = l.map conv := by rw [HXS.out, HIL.out, List.take_length]
        rw [← e]
        exact Kd.V_mono hN (fun _ _ => trivial)
    have k4 : decide ((i : Int) < (l.length : Int)) = true := decide_eq_true (by omega)
    have k5 : decide (i < l.length) = true := decide_eq_true hlt
    have HW1 : Aside0 (wrap64 ((i : Int) + 1) = (i : Int) + 1) := ⟨wrap_small (by omega) (by have := H30.out; omega)⟩
    obtain ⟨ys, hys⟩ : ∃ ys, ys = xs ++ [conv l[i]] := ⟨_, rfl⟩
    have HYS := Aside0.mk hys
    clear hys
    obtain ⟨ad, A1, c1, A3, c3, hA, hx0, hx1, hx2, hx3, hl1, hF1, hl3, hF3⟩ := el44 HV.out HL.out.hb hlt
    subst hA
    have HF1 := Aside0.mk hF1
    have HF3 := Aside0.mk hF3
    have HC1 := Aside0.mk hl1
    have HC3 := Aside0.mk hl3
    clear hF1 hF3 hl1 hl3
    obtain ⟨b1, e1, q1⟩ := small_ev l[i].f1
    obtain ⟨m1, e1⟩ := e1.rounds
    have S1 := Aside0.mk e1
    obtain ⟨b2, e2, q2⟩ := small_ev l[i].f3
    obtain ⟨m2, e2⟩ := e2.rounds
    have S2 := Aside0.mk e2
    clear e1 e2 q1 q2
    go_upto_region 7 with (fail)
    have HL1 := Aside0.mk (HL.out.below (below_alloc (Below.refl _ _) (.cells #[.int .i64 l[i].f0, .slice A1 l[i].f1.length c1, .bool l[i].f2, .slice A3 l[i].f3.length c3] 44)))
    have HN1 := Aside0.mk (Kd.N_alloc HN.out (.cells #[.int .i64 l[i].f0, .slice A1 l[i].f1.length c1, .bool l[i].f2, .slice A3 l[i].f3.length c3] 44))
    have HB1 := Aside0.mk (alloc_at (W := wr) (.cells #[.int .i64 l[i].f0, .slice A1 l[i].f1.length c1, .bool l[i].f2, .slice A3 l[i].f3.length c3] 44) rfl)
    have HG1 := Aside0.mk (Kd.F_alloc HF1.out (.cells #[.int .i64 l[i].f0, .slice A1 l[i].f1.length c1, .bool l[i].f2, .slice A3 l[i].f3.length c3] 44))
    have HG3 := Aside0.mk (Kd.F_alloc HF3.out (.cells #[.int .i64 l[i].f0, .slice A1 l[i].f1.length c1, .bool l[i].f2, .slice A3 l[i].f3.length c3] 44))
    have HGE := Aside0.mk HL.out.size
    generalize wr.alloc (.cells #[.int .i64 l[i].f0, .slice A1 l[i].f1.length c1, .bool l[i].f2, .slice A3 l[i].f3.length c3] 44) = w1 at HL1 HN1 HB1 HG1 HG3 ⊢
    generalize wr.heap.size = ge at HB1 HGE ⊢
    clear HL HN HF1 HF3 ho hr hfr hx0 hx1 hx2 hx3
    have hb1 : w1.cell? ⟨ge, 1, none⟩ = some (.slice A1 l[i].f1.length c1) := (blk_cell HB1.out 1).trans rfl
    have hb3 : w1.cell? ⟨ge, 3, none⟩ = some (.slice A3 l[i].f3.length c3) := (blk_cell HB1.out 3).trans rfl
    cases b1
    case false =>
      have HNO : Aside0 (¬ (l.length ≤ 30 ∧ ∀ x ∈ l, SmallE x.f1 ∧ SmallE x.f3)) := ⟨fun h => by
        obtain ⟨k, hk⟩ := (h.2 _ (List.getElem_mem hlt)).1
        cases small_uniq hk S1.out⟩
      go_upto_region 8 with (go_at_call 8; (with_reducible refine (switchboardref03_Small.calls m1 A1 c1 l[i].f1 false _ (Kd.F_now HG1.out) HC1.out S1.out).mono ?_); rintro e w2 ⟨rfl, hd⟩; have HL2 := Aside0.mk (HL1.out.below hd.below); clear hd hb1 hb3)
      obtain ⟨Ao, co, rfl⟩ := Kd.N_slice HN1.out
      have ho : w2.cell? ⟨w.heap.size + 1 + 1, 0, none⟩ = some (.slice Ao xs.length co) := (blk_cell HL2.out.o 0).trans rfl
      have hr : w2.cell? ⟨w.heap.size + 1, 0, none⟩ = some (.slice none 0 0) := (blk_cell HL2.out.r 0).trans rfl
      have hfr := blk_frozen HL2.out.r 0
      go_wp2
      refine bodyPost_ret (results_ct rfl _ _ (w.heap.size + 1) 28 #[.slice Ao xs.length co] (0, 0) _ rfl (blk_put HL2.out.r 0 _ rfl) Tryd.underlying28 rfl (by kernel_rfl)) rfl ?_
      exact ⟨_, false, rfl, below_set HL2.out.hb (by omega), ⟨_, _, _, rfl⟩, fun h => (by cases h), fun _ => HNO.out⟩
    cases b2
    case false =>
      have HNO : Aside0 (¬ (l.length ≤ 30 ∧ ∀ x ∈ l, SmallE x.f1 ∧ SmallE x.f3)) := ⟨fun h => by
        obtain ⟨k, hk⟩ := (h.2 _ (List.getElem_mem hlt)).2
        cases small_uniq hk S2.out⟩
      go_upto_region 8 with (first | (go_at_call 8; (with_reducible refine (switchboardref03_Small.calls m1 A1 c1 l[i].f1 true _ (Kd.F_now HG1.out) HC1.out S1.out).mono ?_); rintro e w2 ⟨rfl, hd⟩; have HL2 := Aside0.mk (HL1.out.below hd.below); have HG4 := Aside0.mk (Kd.F_below HG3.out hd.below); have HB2 := Aside0.mk (blk_below HB1.out hd.below); clear hd hb1 hb3; have hb4 : w2.cell? ⟨ge, 3, none⟩ = some (.slice A3 l[i].f3.length c3) := (blk_cell HB2.out 3).trans rfl) | (go_at_call 8; (with_reducible refine (switchboardref03_Small.calls m2 A3 c3 l[i].f3 false _ (Kd.F_now HG4.out) HC3.out S2.out).mono ?_); rintro e w3 ⟨rfl, hd⟩; have HL3 := Aside0.mk (HL2.out.below hd.below); clear hd hb4))
      obtain ⟨Ao, co, rfl⟩ := Kd.N_slice HN1.out
      have ho : w3.cell? ⟨w.heap.size + 1 + 1, 0, none⟩ = some (.slice Ao xs.length co) := (blk_cell HL3.out.o 0).trans rfl
      have hr : w3.cell? ⟨w.heap.size + 1, 0, none⟩ = some (.slice none 0 0) := (blk_cell HL3.out.r 0).trans rfl
      have hfr := blk_frozen HL3.out.r 0
      go_wp2
      refine bodyPost_ret (results_ct rfl _ _ (w.heap.size + 1) 28 #[.slice Ao xs.length co] (0, 0) _ rfl (blk_put HL3.out.r 0 _ rfl) Tryd.underlying28 rfl (by kernel_rfl)) rfl ?_
      exact ⟨_, false, rfl, below_set HL3.out.hb (by omega), ⟨_, _, _, rfl⟩, fun h => (by cases h), fun _ => HNO.out⟩
    have HY : Aside0 (∀ (j : Nat) (hj : j < l.length), j < i + 1 → SmallE l[j].f1 ∧ SmallE l[j].f3) := ⟨fun j hj h => by
      by_cases hji : j = i
      · subst hji
        exact ⟨⟨m1, S1.out⟩, ⟨m2, S2.out⟩⟩
      · exact HS.out j hj (by omega)⟩
    have HX : Aside0 (xs ++ [conv l[i]] = (l.take (i + 1)).map conv) := ⟨by rw [HXS.out, List.take_succ_eq_append_getElem hlt, List.map_append]; rfl⟩
    have HXL : Aside0 (xs.length ≤ 30) := ⟨by have := H30.out; rw [HXS.out]; simp; omega⟩
    go_upto_region 9 with (first | (go_at_call 8; (with_reducible refine (switchboardref03_Small.calls m1 A1 c1 l[i].f1 true _ (Kd.F_now HG1.out) HC1.out S1.out).mono ?_); rintro e w2 ⟨rfl, hd⟩; have HL2 := Aside0.mk (HL1.out.below hd.below); have HG4 := Aside0.mk (Kd.F_below HG3.out hd.below); have HG5 := Aside0.mk (Kd.F_below HG1.out hd.below); have HN2 := Aside0.mk (Kd.N_below HN1.out hd.below); have HB2 := Aside0.mk (blk_below HB1.out hd.below); clear hd hb1 hb3; have hb4 : w2.cell? ⟨ge, 3, none⟩ = some (.slice A3 l[i].f3.length c3) := (blk_cell HB2.out 3).trans rfl) | (go_at_call 8; (with_reducible refine (switchboardref03_Small.calls m2 A3 c3 l[i].f3 true _ (Kd.F_now HG4.out) HC3.out S2.out).mono ?_); rintro e w3 ⟨rfl, hd⟩; have HL3 := Aside0.mk (HL2.out.below hd.below); have HG6 := Aside0.mk (Kd.F_below HG4.out hd.below); have HG7 := Aside0.mk (Kd.F_below HG5.out hd.below); have HN3 := Aside0.mk (Kd.N_below HN2.out hd.below); have HB3 := Aside0.mk (blk_below HB2.out hd.below); clear hd hb4 HL2 HG4 HG5 HN2 HB2))
    clear HL1 HN1 HB1 HG1 HG3
    have ho : w3.cell? ⟨w.heap.size + 1 + 1, 0, none⟩ = some v := (blk_cell HL3.out.o 0).trans rfl
    have hy0 : w3.cell? ⟨ge, 0, none⟩ = some (.int .i64 l[i].f0) := (blk_cell HB3.out 0).trans rfl
    have hy1 : w3.cell? ⟨ge, 1, none⟩ = some (.slice A1 l[i].f1.length c1) := (blk_cell HB3.out 1).trans rfl
    have hy2 : w3.cell? ⟨ge, 2, none⟩ = some (.bool l[i].f2) := (blk_cell HB3.out 2).trans rfl
    have hy3 : w3.cell? ⟨ge, 3, none⟩ = some (.slice A3 l[i].f3.length c3) := (blk_cell HB3.out 3).trans rfl
    have HFO : Aside0 (∀ (W : World), W.grownBy W none ∨ True) := ⟨fun _ => .inr trivial⟩
    go_wp2_with (at_builtin; refine Kd.N_append k65 (w0 := w) w.heap.size rfl (.tmp 34) (.tmp 36) 26 65 (.agg #[(.int .i64 0), (.slice none 0 0), (.bool false), (.slice none 0 0)]) 64 rfl Tryd.underlying26 info65 rfl (by decide) (by omega) v xs (conv l[i]) [.int .i64 l[i].f0, .slice A1 l[i].f1.length c1, .bool l[i].f2, .slice A3 l[i].f3.length c3] (fun k => k < w.heap.size ∨ w.heap.size + 3 ≤ k) (fun k => k < w.heap.size) rfl rfl ?aP ?aK ?aF ?aO ?aB ?aS ?aL ?_; (case aP => exact k65_mkF _ _ (conv l[i]) HC1.out HG7.out HC3.out HG6.out); (case aK => exact (fun k hk => ⟨.inl hk, fun e => by have := Kd.N_base HN3.out k e.symm; omega⟩)); (case aF => exact (fun k hk => .inr (Nat.le_trans HL3.out.size hk))); (case aO => exact HN3.out); (case aB => exact HL3.out.hb); (case aS => exact below_size HL3.out.hb); (case aL => have := HXL.out; omega); intro v4 w4 hn hb hg hat; rw [← HYS.out] at hn; have HN4 := Aside0.mk hn; have HL4 := Aside0.mk (HL3.out.grown hg (fun k hk => by have h1 := Kd.N_base HN3.out k hk; have h2 := HN3.out.1 k hk; omega) hb); clear hn hb hg hat ho hy0 hy1 hy2 hy3; obtain ⟨A4, c4, rfl⟩ := Kd.N_slice HN4.out; have ho4 : w4.cell? ⟨w.heap.size + 1 + 1, 0, none⟩ = some v := (blk_cell HL4.out.o 0).trans rfl; have hf4 := blk_frozen HL4.out.o 0)
    have HL5 := Aside0.mk (HL4.out.put (.slice A4 ys.length c4))
    have HN5 := Aside0.mk (Kd.N_far (p := ⟨w.heap.size + 1 + 1, 0, none⟩) HN4.out (fun k hk => by show k ≠ w.heap.size + 1 + 1; omega) (.slice A4 ys.length c4))
    go_roundw
    case rel => exact ⟨i + 1, _, ys, by rw [HW1.out]; go_num, ⟨by rw [HYS.out, HX.out]⟩, ⟨by omega⟩, HY, HL5, HN5⟩
    case measure => rw [HW1.out]; simp [intOf]; omega
/-- A row of entries, element i. -/
theorem el65 {W : World} {A : Option Addr} {l : List S65} (h : Kd.C k65 W A l.length l) {i : Nat} (hi : i < l.length) :
    ∃ (ad : Addr) (A1 : Option Addr) (c1 : Nat) (A3 : Option Addr) (c3 : Nat), A = some ad ∧ W.cell? (ad.add (i * 4)) = some (.int .i64 l[i].f0) ∧ W.cell? ⟨(ad.add (i * 4)).block, (ad.add (i * 4)).off + 1, none⟩ = some (.slice A1 l[i].f1.length c1) ∧
      W.cell? ⟨(ad.add (i * 4)).block, (ad.add (i * 4)).off + 2, none⟩ = some (.bool l[i].f2) ∧ W.cell? ⟨(ad.add (i * 4)).block, (ad.add (i * 4)).off + 3, none⟩ = some (.slice A3 l[i].f3.length c3) ∧
      l[i].f1.length ≤ c1 ∧ Kd.C (Kd.slice 3 (Kd.int .i64)) W A1 l[i].f1.length l[i].f1 ∧ l[i].f3.length ≤ c3 ∧ Kd.C (Kd.slice 3 (Kd.int .i64)) W A3 l[i].f3.length l[i].f3 := by
  obtain ⟨ad, A1, c1, A3, c3, hA, h0, h1, h2, h3, l1, g1, l3, g3⟩ := at_T65 h (i : Int) (by omega) (by omega)
  rw [rd65 hi] at h0 h1 h2 h3 l1 g1 l3 g3
  rw [Int.toNat_natCast] at h0 h1 h2 h3
  exact ⟨ad, A1, c1, A3, c3, hA, h0, h1, h2, h3, l1, g1, l3, g3⟩
/-- Same's variables in memory. -/
structure SmW (w W : World) (a b : Value) : Prop where
  hb : Below w.heap.size w W
  a : W.heap[w.heap.size]? = some (.cells #[a] 28 (0, 0))
  b : W.heap[w.heap.size + 1]? = some (.cells #[b] 28 (0, 0))
theorem SmW.below {w W W' : World} {a b : Value} (h : SmW w W a b) (hb : Below W.heap.size W W') : SmW w W' a b := ⟨below_step h.hb hb, blk_below h.a hb, blk_below h.b hb⟩
set_option maxHeartbeats 4000000 in
set_option maxRecDepth 100000 in
theorem same24_calls (A0 : Option Addr) (c0 : Nat) (A1 : Option Addr) (c1 : Nat) (l : List S65) (w : World) (hl : l.length ≤ 30) (hs : ∀ x ∈ l, (x.f1.length ≤ 30 ∧ ∀ r ∈ x.f1, r.length ≤ 30) ∧ (x.f3.length ≤ 30 ∧ ∀ r ∈ x.f3, r.length ≤ 30)) (h0 : Kd.C k65 w A0 l.length l) (h1 : Kd.C k65 w A1 l.length l) :
    Calls Tryd.prog 14 #[.agg #[.slice A0 l.length c0], .agg #[.slice A1 l.length c1]] w fun e w' => e = .returned (.bool true) ∧ Below w.heap.size w w' := by
  have hu28 := Tryd.underlying28
  have hu65 := Tryd.underlying65
  have H0 := Aside0.mk h0
  have H1 := Aside0.mk h1
  have HLL := Aside0.mk hl
  have HS := Aside0.mk hs
  clear h0 h1 hl hs
  have HL0 : Aside0 (SmW w ((w.alloc (.cells #[.slice A0 l.length c0] 28)).alloc (.cells #[.slice A1 l.length c1] 28)) (.slice A0 l.length c0) (.slice A1 l.length c1)) := ⟨⟨below_alloc (below_alloc (Below.refl _ _) _) _, blk_alloc (alloc_at _ rfl) _, alloc_at _ (by simp)⟩⟩
  go_enter Tryd.func14, Tryd.ntmps14
  go_wp2
  go_loopw [5] (fun v5 W => ∃ i : Nat, v5 = .int .i64 (i : Int) ∧ Aside0 (i ≤ l.length) ∧ Aside0 (SmW w W (.slice A0 l.length c0) (.slice A1 l.length c1))) (fun v5 _ => l.length - (intOf v5).toNat)
  case atStart => exact ⟨0, rfl, ⟨by omega⟩, HL0⟩
  case round =>
    clear HL0
    obtain ⟨i, rfl, HI, HL⟩ := hrel
    have ha : wr.cell? ⟨w.heap.size, 0, none⟩ = some (.slice A0 l.length c0) := (blk_cell HL.out.a 0).trans rfl
    have hb : wr.cell? ⟨w.heap.size + 1, 0, none⟩ = some (.slice A1 l.length c1) := (blk_cell HL.out.b 0).trans rfl
    by_cases hlt : i < l.length
    case neg =>
      have k4 : decide ((i : Int) < (l.length : Int)) = false := decide_eq_false (by omega)
      have k5 : decide (i < l.length) = false := decide_eq_false hlt
      clear hlt
      go_wp2
      go_ret
      exact ⟨rfl, HL.out.hb⟩
    have k4 : decide ((i : Int) < (l.length : Int)) = true := decide_eq_true (by omega)
    have k5 : decide (i < l.length) = true := decide_eq_true hlt
    have HW1 : Aside0 (wrap64 ((i : Int) + 1) = (i : Int) + 1) := ⟨wrap_small (by omega) (by have := HLL.out; omega)⟩
    obtain ⟨ad, B1, d1, B3, d3, hA, hx0, hx1, hx2, hx3, hl1, hF1, hl3, hF3⟩ := el65 (Kd.C_below H0.out HL.out.hb) hlt
    subst hA
    obtain ⟨bd, E1, f1, E3, f3, hB, hy0, hy1, hy2, hy3, hm1, hG1, hm3, hG3⟩ := el65 (Kd.C_below H1.out HL.out.hb) hlt
    subst hB
    have HF1 := Aside0.mk hF1
    have HF3 := Aside0.mk hF3
    have HG1 := Aside0.mk hG1
    have HG3 := Aside0.mk hG3
    have HC1 := Aside0.mk hl1
    have HC3 := Aside0.mk hl3
    have HD1 := Aside0.mk hm1
    have HD3 := Aside0.mk hm3
    have hsi := HS.out _ (List.getElem_mem hlt)
    obtain ⟨m1, e1⟩ := (same15 (a := l[i].f1) rfl (by omega) (fun r hr => by have := hsi.1.2 r hr; omega)).rounds
    obtain ⟨m3, e3⟩ := (same15 (a := l[i].f3) rfl (by omega) (fun r hr => by have := hsi.2.2 r hr; omega)).rounds
    have S1 := Aside0.mk e1
    have S3 := Aside0.mk e3
    clear hF1 hF3 hG1 hG3 hl1 hl3 hm1 hm3 e1 e3 hsi
    go_upto_region 6 with (fail)
    have h0i : (0 : Int) ≤ (i : Int) := by omega
    have hil : (i : Int) < (l.length : Int) := by omega
    have HIL := Aside0.mk hlt
    refine start_ (n := 14) (S := fun W => W.cell? (⟨w.heap.size, 0, none⟩) = some (.slice (some ad) l.length c0) ∧ W.cell? (⟨w.heap.size + 1, 0, none⟩) = some (.slice (some bd) l.length c1) ∧ W.cell? (ad.add (i * 4)) = some (.int .i64 l[i].f0) ∧ W.cell? (⟨(ad.add (i * 4)).block, (ad.add (i * 4)).off + 1, none⟩) = some (.slice B1 l[i].f1.length d1) ∧ W.cell? (⟨(ad.add (i * 4)).block, (ad.add (i * 4)).off + 2, none⟩) = some (.bool l[i].f2) ∧ W.cell? (⟨(ad.add (i * 4)).block, (ad.add (i * 4)).off + 3, none⟩) = some (.slice B3 l[i].f3.length d3) ∧ W.cell? (bd.add (i * 4)) = some (.int .i64 l[i].f0) ∧ W.cell? (⟨(bd.add (i * 4)).block, (bd.add (i * 4)).off + 1, none⟩) = some (.slice E1 l[i].f1.length f1) ∧ W.cell? (⟨(bd.add (i * 4)).block, (bd.add (i * 4)).off + 2, none⟩) = some (.bool l[i].f2) ∧ W.cell? (⟨(bd.add (i * 4)).block, (bd.add (i * 4)).off + 3, none⟩) = some (.slice E3 l[i].f3.length f3)) (ds := []) #[false, false, false, false, false, false, false, false, false, false, false, false, false, false] (by kernel_rfl) rfl rfl ⟨ha, hb, hx0, hx1, hx2, hx3, hy0, hy1, hy2, hy3⟩ (fun hHeld => ?_)
    have HL1 := Aside0.mk (HL.out.below (below_drew (Below.refl _ _)))
    have GF1 := Aside0.mk (Kd.C_drew HF1.out)
    have GF3 := Aside0.mk (Kd.C_drew HF3.out)
    have GG1 := Aside0.mk (Kd.C_drew HG1.out)
    have GG3 := Aside0.mk (Kd.C_drew HG3.out)
    clear HL HF1 HF3 HG1 HG3 ha hb hx0 hx1 hx2 hx3 hy0 hy1 hy2 hy3
    generalize wr.drew = w1 at HL1 GF1 GF3 GG1 GG3 hHeld ⊢
    have HS1 := Aside0.mk hHeld
    refine pure_ (i := 0) (N := some 22) (v := ?_) (a' := ?_) #[true, false, false, false, false, false, false, false, false, false, false, false, false, false] rfl rfl (any_of rfl (by kernel_rfl)) (fun _ _ _ h => h) (Or.inl ⟨by rfl, ?_⟩) ?_ ?_
    rotate_left
    · intro w'
      go_simp
      with_reducible rfl
    rotate_left
    · simp only [Act.put, List.setIfInBounds_toArray, List.set_cons_zero, List.set_cons_succ, i64_w, i32_w]
      rfl
    refine take_ (i := 1) (N := some 23) (v := ?_) (a' := ?_) #[true, true, false, false, false, false, false, false, false, false, false, false, false, false] rfl rfl (take_of rfl (by kernel_rfl)) (fun _ _ _ h => h) (Or.inl ⟨by rfl, ?_⟩) hHeld ?_ ?_
    rotate_left
    · rintro w' ⟨s0, s1, s2, s3, s4, s5, s6, s7, s8, s9⟩
      go_simp
      with_reducible rfl
    rotate_left
    · simp only [Act.put, List.setIfInBounds_toArray, List.set_cons_zero, List.set_cons_succ, i64_w, i32_w]
      rfl
    refine pure_ (i := 2) (N := some 24) (v := ?_) (a' := ?_) #[true, true, true, false, false, false, false, false, false, false, false, false, false, false] rfl rfl (any_of rfl (by kernel_rfl)) (fun _ _ _ h => h) (Or.inl ⟨by rfl, ?_⟩) ?_ ?_
    rotate_left
    · intro w'
      go_simp
      with_reducible rfl
    rotate_left
    · simp only [Act.put, List.setIfInBounds_toArray, List.set_cons_zero, List.set_cons_succ, i64_w, i32_w]
      rfl
    refine pure_ (i := 3) (N := some 25) (v := ?_) (a' := ?_) #[true, true, true, true, false, false, false, false, false, false, false, false, false, false] rfl rfl (any_of rfl (by kernel_rfl)) (fun _ _ _ h => h) (Or.inl ⟨by rfl, ?_⟩) ?_ ?_
    rotate_left
    · intro w'
      go_simp
      with_reducible rfl
    rotate_left
    · simp only [Act.put, List.setIfInBounds_toArray, List.set_cons_zero, List.set_cons_succ, i64_w, i32_w]
      rfl
    refine take_ (i := 4) (N := some 26) (v := ?_) (a' := ?_) #[true, true, true, true, true, false, false, false, false, false, false, false, false, false] rfl rfl (take_of rfl (by kernel_rfl)) (fun _ _ _ h => h) (Or.inl ⟨by rfl, ?_⟩) hHeld ?_ ?_
    rotate_left
    · rintro w' ⟨s0, s1, s2, s3, s4, s5, s6, s7, s8, s9⟩
      go_simp
      with_reducible rfl
    rotate_left
    · simp only [Act.put, List.setIfInBounds_toArray, List.set_cons_zero, List.set_cons_succ, i64_w, i32_w]
      rfl
    refine pure_ (i := 5) (N := some 27) (v := ?_) (a' := ?_) #[true, true, true, true, true, true, false, false, false, false, false, false, false, false] rfl rfl (any_of rfl (by kernel_rfl)) (fun _ _ _ h => h) (Or.inl ⟨by rfl, ?_⟩) ?_ ?_
    rotate_left
    · intro w'
      go_simp
      with_reducible rfl
    rotate_left
    · simp only [Act.put, List.setIfInBounds_toArray, List.set_cons_zero, List.set_cons_succ, i64_w, i32_w]
      rfl
    refine take_ (i := 6) (N := some 28) (v := ?_) (a' := ?_) #[true, true, true, true, true, true, true, false, false, false, false, false, false, false] rfl rfl (take_of rfl (by kernel_rfl)) (fun _ _ _ h => h) (Or.inl ⟨by rfl, ?_⟩) hHeld ?_ ?_
    rotate_left
    · rintro w' ⟨s0, s1, s2, s3, s4, s5, s6, s7, s8, s9⟩
      go_simp
      with_reducible rfl
    rotate_left
    · simp only [Act.put, List.setIfInBounds_toArray, List.set_cons_zero, List.set_cons_succ, i64_w, i32_w]
      rfl
    refine pure_ (i := 7) (N := some 29) (v := ?_) (a' := ?_) #[true, true, true, true, true, true, true, true, false, false, false, false, false, false] rfl rfl (any_of rfl (by kernel_rfl)) (fun _ _ _ h => h) (Or.inl ⟨by rfl, ?_⟩) ?_ ?_
    rotate_left
    · intro w'
      go_simp
      with_reducible rfl
    rotate_left
    · simp only [Act.put, List.setIfInBounds_toArray, List.set_cons_zero, List.set_cons_succ, i64_w, i32_w]
      rfl
    refine pure_ (i := 8) (N := some 30) (v := ?_) (a' := ?_) #[true, true, true, true, true, true, true, true, true, false, false, false, false, false] rfl rfl (any_of rfl (by kernel_rfl)) (fun _ _ _ h => h) (Or.inl ⟨by rfl, ?_⟩) ?_ ?_
    rotate_left
    · intro w'
      go_simp
      with_reducible rfl
    rotate_left
    · simp only [Act.put, List.setIfInBounds_toArray, List.set_cons_zero, List.set_cons_succ, i64_w, i32_w]
      rfl
    refine take_ (i := 9) (N := some 31) (v := ?_) (a' := ?_) #[true, true, true, true, true, true, true, true, true, true, false, false, false, false] rfl rfl (take_of rfl (by kernel_rfl)) (fun _ _ _ h => h) (Or.inl ⟨by rfl, ?_⟩) hHeld ?_ ?_
    rotate_left
    · rintro w' ⟨s0, s1, s2, s3, s4, s5, s6, s7, s8, s9⟩
      go_simp
      with_reducible rfl
    rotate_left
    · simp only [Act.put, List.setIfInBounds_toArray, List.set_cons_zero, List.set_cons_succ, i64_w, i32_w]
      rfl
    refine join_ (σ := Nat × Nat) 2 #[true, true, true, true, true, true, true, true, true, true, true, true, false, false] (fun s_ => [(6, .pointer (some ⟨s_.1, 0, none⟩)), (7, .pointer (some ⟨s_.2, 0, none⟩))]) (fun s_ w' => (w'.cell? (⟨w.heap.size, 0, none⟩) = some (.slice (some ad) l.length c0) ∧ w'.cell? (⟨w.heap.size + 1, 0, none⟩) = some (.slice (some bd) l.length c1) ∧ w'.cell? (ad.add (i * 4)) = some (.int .i64 l[i].f0) ∧ w'.cell? (⟨(ad.add (i * 4)).block, (ad.add (i * 4)).off + 1, none⟩) = some (.slice B1 l[i].f1.length d1) ∧ w'.cell? (⟨(ad.add (i * 4)).block, (ad.add (i * 4)).off + 2, none⟩) = some (.bool l[i].f2) ∧ w'.cell? (⟨(ad.add (i * 4)).block, (ad.add (i * 4)).off + 3, none⟩) = some (.slice B3 l[i].f3.length d3) ∧ w'.cell? (bd.add (i * 4)) = some (.int .i64 l[i].f0) ∧ w'.cell? (⟨(bd.add (i * 4)).block, (bd.add (i * 4)).off + 1, none⟩) = some (.slice E1 l[i].f1.length f1) ∧ w'.cell? (⟨(bd.add (i * 4)).block, (bd.add (i * 4)).off + 2, none⟩) = some (.bool l[i].f2) ∧ w'.cell? (⟨(bd.add (i * 4)).block, (bd.add (i * 4)).off + 3, none⟩) = some (.slice E3 l[i].f3.length f3)) ∧ (Below w1.heap.size w1 w') ∧ (w'.heap[s_.1]? = some (.cells #[.int .i64 0, .slice none 0 0, .bool false, .slice none 0 0] 65 (0, 0))) ∧ (w'.heap[s_.2]? = some (.cells #[.int .i64 0, .slice none 0 0, .bool false, .slice none 0 0] 65 (0, 0))) ∧ (s_.1 ≠ s_.2) ∧ (w1.heap.size ≤ s_.1) ∧ (w1.heap.size ≤ s_.2)) ?_ ?_
    rotate_left
    · intro hJ
      refine two_ (i := 10) (j := 11) (Ni := some 6) (Nj := some 7) #[true, true, true, true, true, true, true, true, true, true, true, false, false, false] #[true, true, true, true, true, true, true, true, true, true, false, true, false, false] rfl rfl rfl rfl (two_of rfl (by kernel_rfl)) (by decide) (by decide) (fun K hK => ?_) (fun K hK => ?_)
      · refine box_step ?hg (N := 6) ?hd (cs := #[.int .i64 0, .slice none 0 0, .bool false, .slice none 0 0]) (t := 65) ?hr ?_; (case hd => rfl); (case hg => rfl); (case hr => first | (go_simp; done) | (go_simp; rfl))
        intro ga hg w2 hbox hb
        have HA := Aside0.mk hbox
        have HGa : Aside0 (w1.heap.size ≤ ga) := ⟨by rw [hg]; exact Nat.le_refl _⟩
        have HBL := Aside0.mk hb
        clear hg hbox hb
        refine hK.out _ _ ⟨pw_cell_below HBL.out HS1.out.1, pw_cell_below HBL.out HS1.out.2.1, pw_cell_below HBL.out HS1.out.2.2.1, pw_cell_below HBL.out HS1.out.2.2.2.1, pw_cell_below HBL.out HS1.out.2.2.2.2.1, pw_cell_below HBL.out HS1.out.2.2.2.2.2.1, pw_cell_below HBL.out HS1.out.2.2.2.2.2.2.1, pw_cell_below HBL.out HS1.out.2.2.2.2.2.2.2.1, pw_cell_below HBL.out HS1.out.2.2.2.2.2.2.2.2.1, pw_cell_below HBL.out HS1.out.2.2.2.2.2.2.2.2.2⟩ (fun _ => ?_)
        clear hK K
        refine norm_ (a' := ?_) ?_ ?_
        rotate_left
        · show Act.put _ (some 6) _ = _
          simp only [Act.put, List.setIfInBounds_toArray, List.set_cons_zero, List.set_cons_succ, i64_w, i32_w]
          rfl
        refine one_ (i := 11) (N := some 7) #[true, true, true, true, true, true, true, true, true, true, true, true, false, false] rfl rfl (one_of rfl (by kernel_rfl)) (by decide) (fun K hK => ?_)
        refine box_step ?hg (N := 7) ?hd (cs := #[.int .i64 0, .slice none 0 0, .bool false, .slice none 0 0]) (t := 65) ?hr ?_; (case hd => rfl); (case hg => rfl); (case hr => first | (go_simp; done) | (go_simp; rfl))
        intro gb hg w3 hbox hb
        have HB := Aside0.mk hbox
        have HGb : Aside0 (w1.heap.size ≤ gb) := ⟨by rw [hg]; exact HBL.out.size⟩
        have HNE : Aside0 (ga ≠ gb) := ⟨by have := blk_lt HA.out; omega⟩
        have HA2 := Aside0.mk (blk_below HA.out hb)
        have HBL2 := Aside0.mk (below_step HBL.out hb)
        clear hg hbox hb HBL
        have HBL := HBL2
        clear HBL2
        refine hK.out _ _ ⟨pw_cell_below HBL.out HS1.out.1, pw_cell_below HBL.out HS1.out.2.1, pw_cell_below HBL.out HS1.out.2.2.1, pw_cell_below HBL.out HS1.out.2.2.2.1, pw_cell_below HBL.out HS1.out.2.2.2.2.1, pw_cell_below HBL.out HS1.out.2.2.2.2.2.1, pw_cell_below HBL.out HS1.out.2.2.2.2.2.2.1, pw_cell_below HBL.out HS1.out.2.2.2.2.2.2.2.1, pw_cell_below HBL.out HS1.out.2.2.2.2.2.2.2.2.1, pw_cell_below HBL.out HS1.out.2.2.2.2.2.2.2.2.2⟩ (fun _ => ?_)
        clear hK K
        refine norm_ (a' := ?_) ?_ ?_
        rotate_left
        · show Act.put _ (some 7) _ = _
          simp only [Act.put, List.setIfInBounds_toArray, List.set_cons_zero, List.set_cons_succ, i64_w, i32_w]
          rfl
        refine norm_ ?_ (hJ (ga, gb) _ ⟨⟨pw_cell_below HBL.out HS1.out.1, pw_cell_below HBL.out HS1.out.2.1, pw_cell_below HBL.out HS1.out.2.2.1, pw_cell_below HBL.out HS1.out.2.2.2.1, pw_cell_below HBL.out HS1.out.2.2.2.2.1, pw_cell_below HBL.out HS1.out.2.2.2.2.2.1, pw_cell_below HBL.out HS1.out.2.2.2.2.2.2.1, pw_cell_below HBL.out HS1.out.2.2.2.2.2.2.2.1, pw_cell_below HBL.out HS1.out.2.2.2.2.2.2.2.2.1, pw_cell_below HBL.out HS1.out.2.2.2.2.2.2.2.2.2⟩, HBL.out, HA2.out, HB.out, HNE.out, HGa.out, HGb.out⟩)
        simp only [putAll, Act.put, List.setIfInBounds_toArray, List.set_cons_zero, List.set_cons_succ] <;> rfl
      · refine box_step ?hg (N := 7) ?hd (cs := #[.int .i64 0, .slice none 0 0, .bool false, .slice none 0 0]) (t := 65) ?hr ?_; (case hd => rfl); (case hg => rfl); (case hr => first | (go_simp; done) | (go_simp; rfl))
        intro gb hg w2 hbox hb
        have HA := Aside0.mk hbox
        have HGa : Aside0 (w1.heap.size ≤ gb) := ⟨by rw [hg]; exact Nat.le_refl _⟩
        have HBL := Aside0.mk hb
        clear hg hbox hb
        refine hK.out _ _ ⟨pw_cell_below HBL.out HS1.out.1, pw_cell_below HBL.out HS1.out.2.1, pw_cell_below HBL.out HS1.out.2.2.1, pw_cell_below HBL.out HS1.out.2.2.2.1, pw_cell_below HBL.out HS1.out.2.2.2.2.1, pw_cell_below HBL.out HS1.out.2.2.2.2.2.1, pw_cell_below HBL.out HS1.out.2.2.2.2.2.2.1, pw_cell_below HBL.out HS1.out.2.2.2.2.2.2.2.1, pw_cell_below HBL.out HS1.out.2.2.2.2.2.2.2.2.1, pw_cell_below HBL.out HS1.out.2.2.2.2.2.2.2.2.2⟩ (fun _ => ?_)
        clear hK K
        refine norm_ (a' := ?_) ?_ ?_
        rotate_left
        · show Act.put _ (some 7) _ = _
          simp only [Act.put, List.setIfInBounds_toArray, List.set_cons_zero, List.set_cons_succ, i64_w, i32_w]
          rfl
        refine one_ (i := 10) (N := some 6) #[true, true, true, true, true, true, true, true, true, true, true, true, false, false] rfl rfl (one_of rfl (by kernel_rfl)) (by decide) (fun K hK => ?_)
        refine box_step ?hg (N := 6) ?hd (cs := #[.int .i64 0, .slice none 0 0, .bool false, .slice none 0 0]) (t := 65) ?hr ?_; (case hd => rfl); (case hg => rfl); (case hr => first | (go_simp; done) | (go_simp; rfl))
        intro ga hg w3 hbox hb
        have HB := Aside0.mk hbox
        have HGb : Aside0 (w1.heap.size ≤ ga) := ⟨by rw [hg]; exact HBL.out.size⟩
        have HNE : Aside0 (gb ≠ ga) := ⟨by have := blk_lt HA.out; omega⟩
        have HA2 := Aside0.mk (blk_below HA.out hb)
        have HBL2 := Aside0.mk (below_step HBL.out hb)
        clear hg hbox hb HBL
        have HBL := HBL2
        clear HBL2
        refine hK.out _ _ ⟨pw_cell_below HBL.out HS1.out.1, pw_cell_below HBL.out HS1.out.2.1, pw_cell_below HBL.out HS1.out.2.2.1, pw_cell_below HBL.out HS1.out.2.2.2.1, pw_cell_below HBL.out HS1.out.2.2.2.2.1, pw_cell_below HBL.out HS1.out.2.2.2.2.2.1, pw_cell_below HBL.out HS1.out.2.2.2.2.2.2.1, pw_cell_below HBL.out HS1.out.2.2.2.2.2.2.2.1, pw_cell_below HBL.out HS1.out.2.2.2.2.2.2.2.2.1, pw_cell_below HBL.out HS1.out.2.2.2.2.2.2.2.2.2⟩ (fun _ => ?_)
        clear hK K
        refine norm_ (a' := ?_) ?_ ?_
        rotate_left
        · show Act.put _ (some 6) _ = _
          simp only [Act.put, List.setIfInBounds_toArray, List.set_cons_zero, List.set_cons_succ, i64_w, i32_w]
          rfl
        refine norm_ ?_ (hJ (ga, gb) _ ⟨⟨pw_cell_below HBL.out HS1.out.1, pw_cell_below HBL.out HS1.out.2.1, pw_cell_below HBL.out HS1.out.2.2.1, pw_cell_below HBL.out HS1.out.2.2.2.1, pw_cell_below HBL.out HS1.out.2.2.2.2.1, pw_cell_below HBL.out HS1.out.2.2.2.2.2.1, pw_cell_below HBL.out HS1.out.2.2.2.2.2.2.1, pw_cell_below HBL.out HS1.out.2.2.2.2.2.2.2.1, pw_cell_below HBL.out HS1.out.2.2.2.2.2.2.2.2.1, pw_cell_below HBL.out HS1.out.2.2.2.2.2.2.2.2.2⟩, HBL.out, HB.out, HA2.out, HNE.out.symm, HGb.out, HGa.out⟩)
        simp only [putAll, Act.put, List.setIfInBounds_toArray, List.set_cons_zero, List.set_cons_succ] <;> rfl
    rintro ⟨ga, gb⟩ w4 ⟨hHeld, h1, h2, h3, h4, h5, h6⟩
    (try dsimp only at h2)
    (try dsimp only at h3)
    (try dsimp only at h4)
    (try dsimp only at h5)
    (try dsimp only at h6)
    have HBL := Aside0.mk h1
    have HA := Aside0.mk h2
    have HB := Aside0.mk h3
    have HNE := Aside0.mk h4
    have HGa := Aside0.mk h5
    have HGb := Aside0.mk h6
    clear h1 h2 h3 h4 h5 h6 hHeld
    refine norm_ (a' := ?_) ?_ ?_
    rotate_left
    · simp only [putAll, Act.put, List.setIfInBounds_toArray, List.set_cons_zero, List.set_cons_succ]
      rfl
    refine one_ (i := 12) (N := none) #[true, true, true, true, true, true, true, true, true, true, true, true, true, false] rfl rfl (one_of rfl (by kernel_rfl)) (by decide) (fun K hK => ?_)
    have hs0 : w4.cell? ⟨ga, 0, none⟩ = some (.int .i64 0) := (blk_cell HA.out 0).trans rfl
    have hs1 : w4.cell? ⟨ga, 1, none⟩ = some (.slice none 0 0) := (blk_cell HA.out 1).trans rfl
    have hs2 : w4.cell? ⟨ga, 2, none⟩ = some (.bool false) := (blk_cell HA.out 2).trans rfl
    have hs3 : w4.cell? ⟨ga, 3, none⟩ = some (.slice none 0 0) := (blk_cell HA.out 3).trans rfl
    have hf0 := blk_frozen HA.out 0
    have hf1 := blk_frozen HA.out 1
    have hf2 := blk_frozen HA.out 2
    have hf3 := blk_frozen HA.out 3
    refine skip_ (w1 := ?_) (by rfl) rfl ?_ ?_
    rotate_left
    · go_simp
      rfl
    clear hs0 hs1 hs2 hs3 hf0 hf1 hf2 hf3
    have NBL : Aside0 (Below w1.heap.size w1 ((((w4.setCell ⟨ga, 0, none⟩ (.int .i64 l[i].f0)).setCell ⟨ga, 1, none⟩ (.slice B1 l[i].f1.length d1)).setCell ⟨ga, 2, none⟩ (.bool l[i].f2)).setCell ⟨ga, 3, none⟩ (.slice B3 l[i].f3.length d3))) := ⟨(below_set (below_set (below_set (below_set HBL.out HGa.out) HGa.out) HGa.out) HGa.out)⟩
    have NHA := Aside0.mk ((blk_put (blk_put (blk_put (blk_put HA.out 0 (.int .i64 l[i].f0) rfl) 1 (.slice B1 l[i].f1.length d1) rfl) 2 (.bool l[i].f2) rfl) 3 (.slice B3 l[i].f3.length d3) rfl))
    have NHB := Aside0.mk ((blk_far (blk_far (blk_far (blk_far HB.out (p := ⟨ga, 0, none⟩) HNE.out.symm (.int .i64 l[i].f0)) (p := ⟨ga, 1, none⟩) HNE.out.symm (.slice B1 l[i].f1.length d1)) (p := ⟨ga, 2, none⟩) HNE.out.symm (.bool l[i].f2)) (p := ⟨ga, 3, none⟩) HNE.out.symm (.slice B3 l[i].f3.length d3)))
    generalize ((((w4.setCell ⟨ga, 0, none⟩ (.int .i64 l[i].f0)).setCell ⟨ga, 1, none⟩ (.slice B1 l[i].f1.length d1)).setCell ⟨ga, 2, none⟩ (.bool l[i].f2)).setCell ⟨ga, 3, none⟩ (.slice B3 l[i].f3.length d3)) = w5 at NBL NHA NHB ⊢
    clear HBL HA HB
    have HBL := NBL
    have HA := NHA
    have HB := NHB
    clear NBL NHA NHB
    refine hK.out _ _ ⟨pw_cell_below HBL.out HS1.out.1, pw_cell_below HBL.out HS1.out.2.1, pw_cell_below HBL.out HS1.out.2.2.1, pw_cell_below HBL.out HS1.out.2.2.2.1, pw_cell_below HBL.out HS1.out.2.2.2.2.1, pw_cell_below HBL.out HS1.out.2.2.2.2.2.1, pw_cell_below HBL.out HS1.out.2.2.2.2.2.2.1, pw_cell_below HBL.out HS1.out.2.2.2.2.2.2.2.1, pw_cell_below HBL.out HS1.out.2.2.2.2.2.2.2.2.1, pw_cell_below HBL.out HS1.out.2.2.2.2.2.2.2.2.2⟩ (fun _ => ?_)
    clear hK K
    refine one_ (i := 13) (N := none) #[true, true, true, true, true, true, true, true, true, true, true, true, true, true] rfl rfl (one_of rfl (by kernel_rfl)) (by decide) (fun K hK => ?_)
    have hs0 : w5.cell? ⟨gb, 0, none⟩ = some (.int .i64 0) := (blk_cell HB.out 0).trans rfl
    have hs1 : w5.cell? ⟨gb, 1, none⟩ = some (.slice none 0 0) := (blk_cell HB.out 1).trans rfl
    have hs2 : w5.cell? ⟨gb, 2, none⟩ = some (.bool false) := (blk_cell HB.out 2).trans rfl
    have hs3 : w5.cell? ⟨gb, 3, none⟩ = some (.slice none 0 0) := (blk_cell HB.out 3).trans rfl
    have hf0 := blk_frozen HB.out 0
    have hf1 := blk_frozen HB.out 1
    have hf2 := blk_frozen HB.out 2
    have hf3 := blk_frozen HB.out 3
    refine skip_ (w1 := ?_) (by rfl) rfl ?_ ?_
    rotate_left
    · go_simp
      rfl
    clear hs0 hs1 hs2 hs3 hf0 hf1 hf2 hf3
    have NBL : Aside0 (Below w1.heap.size w1 ((((w5.setCell ⟨gb, 0, none⟩ (.int .i64 l[i].f0)).setCell ⟨gb, 1, none⟩ (.slice E1 l[i].f1.length f1)).setCell ⟨gb, 2, none⟩ (.bool l[i].f2)).setCell ⟨gb, 3, none⟩ (.slice E3 l[i].f3.length f3))) := ⟨(below_set (below_set (below_set (below_set HBL.out HGb.out) HGb.out) HGb.out) HGb.out)⟩
    have NHB := Aside0.mk ((blk_put (blk_put (blk_put (blk_put HB.out 0 (.int .i64 l[i].f0) rfl) 1 (.slice E1 l[i].f1.length f1) rfl) 2 (.bool l[i].f2) rfl) 3 (.slice E3 l[i].f3.length f3) rfl))
    have NHA := Aside0.mk ((blk_far (blk_far (blk_far (blk_far HA.out (p := ⟨gb, 0, none⟩) HNE.out (.int .i64 l[i].f0)) (p := ⟨gb, 1, none⟩) HNE.out (.slice E1 l[i].f1.length f1)) (p := ⟨gb, 2, none⟩) HNE.out (.bool l[i].f2)) (p := ⟨gb, 3, none⟩) HNE.out (.slice E3 l[i].f3.length f3)))
    generalize ((((w5.setCell ⟨gb, 0, none⟩ (.int .i64 l[i].f0)).setCell ⟨gb, 1, none⟩ (.slice E1 l[i].f1.length f1)).setCell ⟨gb, 2, none⟩ (.bool l[i].f2)).setCell ⟨gb, 3, none⟩ (.slice E3 l[i].f3.length f3)) = w6 at NBL NHB NHA ⊢
    clear HBL HA HB
    have HBL := NBL
    have HA := NHA
    have HB := NHB
    clear NBL NHA NHB
    refine hK.out _ _ ⟨pw_cell_below HBL.out HS1.out.1, pw_cell_below HBL.out HS1.out.2.1, pw_cell_below HBL.out HS1.out.2.2.1, pw_cell_below HBL.out HS1.out.2.2.2.1, pw_cell_below HBL.out HS1.out.2.2.2.2.1, pw_cell_below HBL.out HS1.out.2.2.2.2.2.1, pw_cell_below HBL.out HS1.out.2.2.2.2.2.2.1, pw_cell_below HBL.out HS1.out.2.2.2.2.2.2.2.1, pw_cell_below HBL.out HS1.out.2.2.2.2.2.2.2.2.1, pw_cell_below HBL.out HS1.out.2.2.2.2.2.2.2.2.2⟩ (fun _ => ?_)
    clear hK K
    refine done_ (done_of rfl (by kernel_rfl)) ?_
    have p0 : w6.cell? ⟨ga, 0, none⟩ = some (.int .i64 l[i].f0) := (blk_cell HA.out 0).trans rfl
    have p1 : w6.cell? ⟨ga, 1, none⟩ = some (.slice B1 l[i].f1.length d1) := (blk_cell HA.out 1).trans rfl
    have p2 : w6.cell? ⟨ga, 2, none⟩ = some (.bool l[i].f2) := (blk_cell HA.out 2).trans rfl
    have p3 : w6.cell? ⟨ga, 3, none⟩ = some (.slice B3 l[i].f3.length d3) := (blk_cell HA.out 3).trans rfl
    have q0 : w6.cell? ⟨gb, 0, none⟩ = some (.int .i64 l[i].f0) := (blk_cell HB.out 0).trans rfl
    have q1 : w6.cell? ⟨gb, 1, none⟩ = some (.slice E1 l[i].f1.length f1) := (blk_cell HB.out 1).trans rfl
    have q2 : w6.cell? ⟨gb, 2, none⟩ = some (.bool l[i].f2) := (blk_cell HB.out 2).trans rfl
    have q3 : w6.cell? ⟨gb, 3, none⟩ = some (.slice E3 l[i].f3.length f3) := (blk_cell HB.out 3).trans rfl
    go_wp2_with (first | (go_at_call 15; (with_reducible refine (switchboardref15_Same.calls m1 B1 d1 l[i].f1 E1 f1 l[i].f1 true _ (Kd.C_below GF1.out HBL.out) HC1.out (Kd.C_below GG1.out HBL.out) HD1.out S1.out).mono ?_); rintro e w7 ⟨rfl, hd⟩; have HBL7 := Aside0.mk (below_step HBL.out hd.below); have r3 := (hd.below.cell (World.block_lt_of_cell? _ _ p3)).trans p3; have t3 := (hd.below.cell (World.block_lt_of_cell? _ _ q3)).trans q3; clear hd p0 p1 p2 p3 q0 q1 q2 q3) | (go_at_call 15; (with_reducible refine (switchboardref15_Same.calls m3 B3 d3 l[i].f3 E3 f3 l[i].f3 true _ (Kd.C_below GF3.out HBL7.out) HC3.out (Kd.C_below GG3.out HBL7.out) HD3.out S3.out).mono ?_); rintro e w8 ⟨rfl, hd⟩; have HBL8 := Aside0.mk (below_step HBL7.out hd.below); clear hd r3 t3))
    go_roundw
    case rel => exact ⟨i + 1, by rw [HW1.out]; go_num, ⟨by have := HIL.out; omega⟩, ⟨HL1.out.below HBL8.out⟩⟩
    case measure => rw [HW1.out]; have := HIL.out; simp [intOf]; omega


end Go.Proofs.YtlbkfeelkdombaaDoor.Pp
