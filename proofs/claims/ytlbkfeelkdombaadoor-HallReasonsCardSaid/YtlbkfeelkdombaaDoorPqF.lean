/- Own text, by hand: why tokens are refused: the walks. -/
import Derived.Test.YtlbkfeelkdombaaDoorPq0
import Derived.Test.YtlbkfeelkdombaaDoorPq1
import Derived.Test.YtlbkfeelkdombaaDoorPq2
import Derived.Test.YtlbkfeelkdombaaDoorPq3
import Derived.Test.YtlbkfeelkdombaaDoorPq4
import Derived.Test.YtlbkfeelkdombaaDoorPq5
import Derived.Test.YtlbkfeelkdombaaDoorPqE
namespace Go.Proofs.YtlbkfeelkdombaaDoor.Pq
open Go.RowKit Go.Proofs.YtlbkfeelkdombaaDoorW.PrintWords Go.Proofs.YtlbkfeelkdombaaDoorW.PrintLast Go.Proofs.YtlbkfeelkdombaaDoorW.PrintMore
attribute [local go_sem] max2_int min2_int max_two min_two max_three min_three max_four min_four
set_option linter.unusedVariables false
set_option linter.unusedSimpArgs false

/-- What the listed variables hold. -/
structure LaidW (W : World) (aM aS : Addr) : Prop where
  m : W.cell? ⟨0, 0, none⟩ = some (.iface 132 (.pointer (some aM)))
  s : W.cell? ⟨1, 0, none⟩ = some (.iface 132 (.pointer (some aS)))
  t : W.cell? ⟨2, 0, none⟩ = some (.iface 111 (.agg #[.pointer (some ⟨3, 78, none⟩)]))
  ne : aS ≠ aM
  bm : ∃ c t, W.heap[aM.block]? = some (.cells c t (0, 0))
  bs : ∃ c t, W.heap[aS.block]? = some (.cells c t (0, 0))
theorem LaidW.below {W W' : World} {aM aS : Addr} (h : LaidW W aM aS) (hb : Below W.heap.size W W') : LaidW W' aM aS := by
  obtain ⟨c1, t1, e1⟩ := h.bm
  obtain ⟨c2, t2, e2⟩ := h.bs
  exact ⟨pw_cell_below hb h.m, pw_cell_below hb h.s, pw_cell_below hb h.t, h.ne, ⟨c1, t1, blk_below e1 hb⟩, ⟨c2, t2, blk_below e2 hb⟩⟩
theorem as_hit2 (e : Addr) (w0 w : World) (hB : Below w0.heap.size w0 w) (h1 : w.heap[w0.heap.size]? = some (.cells #[.pointer none] 82 (0, 0))) (hg : w.cell? ⟨2, 0, none⟩ = some (.iface 111 (.agg #[.pointer (some ⟨3, 78, none⟩)]))) :
    Calls Tryd.prog 34 #[.iface 82 (.pointer (some e)), .iface 85 (.pointer (some ⟨w0.heap.size, 0, none⟩))] w fun ev w' => ev = .returned (.bool true) ∧ Below w0.heap.size w0 w' ∧ w'.cell? ⟨w0.heap.size, 0, none⟩ = some (.pointer (some e)) := by
  refine (as_hit e ⟨w0.heap.size, 0, none⟩ (.pointer none) w hg ((blk_cell h1 0).trans rfl) (blk_frozen h1 0)).mono ?_
  rintro ev w' ⟨rfl, rfl⟩
  exact ⟨rfl, below_set (below_alloc (below_alloc (below_alloc (below_alloc hB _) _) _) _) (Nat.le_refl _), (blk_cell (blk_put (blk_alloc (blk_alloc (blk_alloc (blk_alloc h1 _) _) _) _) 0 _ rfl) 0).trans rfl⟩
set_option maxHeartbeats 2000000 in
set_option maxRecDepth 100000 in
/-- number, of a refusal that wraps errShape. -/
theorem number_arg (p : Nat) (n : Int) (aM aS : Addr) (w : World) (hL : LaidW w aM aS) (hp : w.heap[p]? = some (.cells #[.int .i64 n, .iface 132 (.pointer (some aS))] 87 (0, 0))) :
    Calls Tryd.prog 29 #[.iface 82 (.pointer (some ⟨p, 0, none⟩))] w fun e w' => e = .returned (.int .i64 n) ∧ Below w.heap.size w w' := by
  have HL := Aside0.mk hL
  have HP := Aside0.mk hp
  have HL1 := Aside0.mk (hL.below (below_alloc (Below.refl _ _) (.cells #[.pointer none] 82)))
  have HP1 := Aside0.mk (blk_alloc hp (.cells #[.pointer none] 82))
  have HR1 : Aside0 ((w.alloc (.cells #[.pointer none] 82)).heap[w.heap.size]? = some (.cells #[.pointer none] 82 (0, 0))) := ⟨alloc_at _ rfl⟩
  have HB1 : Aside0 (Below w.heap.size w (w.alloc (.cells #[.pointer none] 82))) := ⟨below_alloc (Below.refl _ _) _⟩
  clear hL hp
  go_enter Tryd.func29, Tryd.ntmps29
  go_upto_region 2 with (fail)
  generalize w.alloc (.cells #[.pointer none] 82) = w1 at HL1 HP1 HR1 HB1 ⊢
  have hm := HL1.out.m
  obtain ⟨cm, tm, hbm⟩ := HL1.out.bm
  obtain ⟨cs, ts, hbs⟩ := HL1.out.bs
  have HBM := Aside0.mk hbm
  have HBS := Aside0.mk hbs
  clear hbm hbs
  go_wp2_with (first
    | (go_at_call 33; refine (is_other p 0 aM aS cs cm ts tm w1 ((blk_cell HP1.out 1).trans rfl) HL1.out.ne HBS.out HBM.out).mono ?_; rintro e w2 ⟨rfl, rfl⟩; clear hm)
    | (go_at_call 34; refine (as_hit2 ⟨p, 0, none⟩ w _ HB1.out HR1.out HL1.out.t).mono ?_; rintro e w3 ⟨rfl, hb, hc⟩; have HB3 := Aside0.mk hb; have hq : w3.cell? ⟨p, 0, none⟩ = some (.int .i64 n) := (hb.cell (blk_lt HP.out)).trans ((blk_cell HP.out 0).trans rfl); clear hb))
  go_ret
  exact ⟨rfl, HB3.out⟩
set_option maxHeartbeats 2000000 in
set_option maxRecDepth 100000 in
/-- number, of a refusal that wraps errMany. -/
theorem number_long (p : Nat) (n : Int) (aM aS : Addr) (w : World) (hL : LaidW w aM aS) (hp : w.heap[p]? = some (.cells #[.int .i64 n, .iface 132 (.pointer (some aM))] 87 (0, 0))) :
    Calls Tryd.prog 29 #[.iface 82 (.pointer (some ⟨p, 0, none⟩))] w fun e w' => e = .returned (.int .i64 3) ∧ Below w.heap.size w w' := by
  have HL1 := Aside0.mk (hL.below (below_alloc (Below.refl _ _) (.cells #[.pointer none] 82)))
  have HP1 := Aside0.mk (blk_alloc hp (.cells #[.pointer none] 82))
  have HB1 : Aside0 (Below w.heap.size w (w.alloc (.cells #[.pointer none] 82))) := ⟨below_alloc (Below.refl _ _) _⟩
  clear hL hp
  go_enter Tryd.func29, Tryd.ntmps29
  go_upto_region 2 with (fail)
  generalize w.alloc (.cells #[.pointer none] 82) = w1 at HL1 HP1 HB1 ⊢
  have hm := HL1.out.m
  go_wp2_with (go_at_call 33; refine (is_same p 0 aM w1 ((blk_cell HP1.out 1).trans rfl)).mono ?_; rintro e w2 ⟨rfl, rfl⟩; clear hm)
  go_ret
  exact ⟨rfl, HB1.out⟩
/-- What check leaves: a refusal in a block of its own. -/
def Refused (w : World) (n : Int) (a : Addr) (e : Ending) (w' : World) : Prop := ∃ p : Nat, e = .returned (.iface 82 (.pointer (some ⟨p, 0, none⟩))) ∧ w'.heap[p]? = some (.cells #[.int .i64 n, .iface 132 (.pointer (some a))] 87 (0, 0)) ∧ Below w.heap.size w w'
set_option maxHeartbeats 2000000 in
set_option maxRecDepth 100000 in
theorem check_none (a0_0 : Int) (A0_1 : Option Addr) (c0_1 : Nat) (l0_1 : List S73) (w : World) (aM aS : Addr) (hL : LaidW w aM aS) (hr0_1 : Kd.C k73 w A0_1 l0_1.length l0_1) (hc0_1 : l0_1.length ≤ c0_1) (h1 : modelOk a0_0 l0_1 = true) :
    Calls Tryd.prog 30 #[.agg #[.int .i64 a0_0, .slice A0_1 l0_1.length c0_1], .slice none 0 0] w (Refused w 1 aS) := by
  have hu := Tryd.underlying55
  have hu2 := Tryd.underlying87
  have HL := Aside0.mk hL
  have HR := Aside0.mk hr0_1
  have HC := Aside0.mk hc0_1
  have H1 := Aside0.mk (show model_Right.f a0_0 l0_1 = some true by unfold model_Right.f; rw [h1])
  clear hr0_1 hc0_1 h1 hL
  go_enter Tryd.func30, Tryd.ntmps30
  go_upto_region 2 with (go_at_call 35; refine (model_Right.calls a0_0 _ c0_1 l0_1 true _ (Kd.C_below HR.out (below_alloc (Below.refl _ _) _)) HC.out H1.out).mono ?_; rintro e w1 ⟨rfl, hb⟩; have HB := Aside0.mk (below_step (below_alloc (Below.refl w.heap.size w) _) hb); clear hb)
  have hs := (HL.out.below HB.out).s
  go_wp2
  go_ret
  exact ⟨_, rfl, alloc_at _ rfl, below_alloc HB.out _⟩
set_option maxHeartbeats 2000000 in
set_option maxRecDepth 100000 in
theorem check_many (a0_0 : Int) (A0_1 : Option Addr) (c0_1 : Nat) (l0_1 : List S73) (A1 : Option Addr) (c1 : Nat) (l1 : List (List Int)) (w : World) (aM aS : Addr) (hL : LaidW w aM aS) (hr0_1 : Kd.C k73 w A0_1 l0_1.length l0_1) (hc0_1 : l0_1.length ≤ c0_1) (h1 : modelOk a0_0 l0_1 = true) (h17 : 16 < l1.length) :
    Calls Tryd.prog 30 #[.agg #[.int .i64 a0_0, .slice A0_1 l0_1.length c0_1], .slice A1 l1.length c1] w (Refused w 3 aM) := by
  have hu := Tryd.underlying55
  have hu2 := Tryd.underlying87
  have HL := Aside0.mk hL
  have HR := Aside0.mk hr0_1
  have HC := Aside0.mk hc0_1
  have H1 := Aside0.mk (show model_Right.f a0_0 l0_1 = some true by unfold model_Right.f; rw [h1])
  have e0 : ((l1.length : Int) == 0) = false := beq_eq_false_iff_ne.2 (by omega)
  have e0n : (l1.length == 0) = false := beq_eq_false_iff_ne.2 (by omega)
  have e0m : decide (l1.length = 0) = false := decide_eq_false (by omega)
  have e1 : decide (16 < (l1.length : Int)) = true := decide_eq_true (by omega)
  have e1n : decide (16 < l1.length) = true := decide_eq_true (by omega)
  clear h17
  clear hr0_1 hc0_1 h1 hL
  go_enter Tryd.func30, Tryd.ntmps30
  go_upto_region 3 with (go_at_call 35; refine (model_Right.calls a0_0 _ c0_1 l0_1 true _ (Kd.C_below HR.out (below_alloc (Below.refl _ _) _)) HC.out H1.out).mono ?_; rintro e w1 ⟨rfl, hb⟩; have HB := Aside0.mk (below_step (below_alloc (Below.refl w.heap.size w) _) hb); clear hb)
  have hm := (HL.out.below HB.out).m
  go_wp2
  go_ret
  exact ⟨_, rfl, alloc_at _ rfl, below_alloc HB.out _⟩
set_option maxHeartbeats 2000000 in
set_option maxRecDepth 100000 in
theorem check_bad (a0_0 : Int) (A0_1 : Option Addr) (c0_1 : Nat) (l0_1 : List S73) (A1 : Option Addr) (c1 : Nat) (l1 : List (List Int)) (w : World) (aM aS : Addr) (hL : LaidW w aM aS) (hr0_1 : Kd.C k73 w A0_1 l0_1.length l0_1) (hc0_1 : l0_1.length ≤ c0_1) (h1 : modelOk a0_0 l0_1 = true) (hr1 : Kd.C (Kd.slice 3 (Kd.int .i64)) w A1 l1.length l1) (hc1 : l1.length ≤ c1) (h3 : 1 ≤ l1.length) (h16 : l1.length ≤ 16) (h2 : tokOk a0_0 l1 = false) :
    Calls Tryd.prog 30 #[.agg #[.int .i64 a0_0, .slice A0_1 l0_1.length c0_1], .slice A1 l1.length c1] w (Refused w 1 aS) := by
  have hu := Tryd.underlying55
  have hu2 := Tryd.underlying87
  have HL := Aside0.mk hL
  have HR := Aside0.mk hr0_1
  have HC := Aside0.mk hc0_1
  have H1 := Aside0.mk (show model_Right.f a0_0 l0_1 = some true by unfold model_Right.f; rw [h1])
  have e0 : ((l1.length : Int) == 0) = false := beq_eq_false_iff_ne.2 (by omega)
  have e0n : (l1.length == 0) = false := beq_eq_false_iff_ne.2 (by omega)
  have e0m : decide (l1.length = 0) = false := decide_eq_false (by omega)
  have e1 : decide (16 < (l1.length : Int)) = false := decide_eq_false (by omega)
  have e1n : decide (16 < l1.length) = false := decide_eq_false (by omega)
  have HR1 := Aside0.mk hr1
  have HC1 := Aside0.mk hc1
  have H2 := Aside0.mk (show model_Tokens.f a0_0 l0_1 l1 = some false by unfold model_Tokens.f; rw [h2])
  clear h3 h16 h2 hr1 hc1
  clear hr0_1 hc0_1 h1 hL
  go_enter Tryd.func30, Tryd.ntmps30
  go_upto_region 2 with (go_at_call 35; refine (model_Right.calls a0_0 _ c0_1 l0_1 true _ (Kd.C_below HR.out (below_alloc (Below.refl _ _) _)) HC.out H1.out).mono ?_; rintro e w1 ⟨rfl, hb⟩; have HB := Aside0.mk (below_step (below_alloc (Below.refl w.heap.size w) _) hb); have hx0 : w1.cell? ⟨w.heap.size, 0, none⟩ = some (.int .i64 a0_0) := (hb.cell (by simp)).trans (by simp); have hx1 : w1.cell? ⟨w.heap.size, 1, none⟩ = some (.slice A0_1 l0_1.length c0_1) := (hb.cell (by simp)).trans (by simp); clear hb)
  go_upto_region 6 with (go_at_call 36; refine (model_Tokens.calls a0_0 _ c0_1 l0_1 _ c1 l1 false _ (Kd.C_below HR.out HB.out) HC.out (Kd.C_below HR1.out HB.out) HC1.out H2.out).mono ?_; rintro e w2 ⟨rfl, hb⟩; have HB2 := Aside0.mk (below_step HB.out hb); clear hb hx0 hx1)
  have hs := (HL.out.below HB2.out).s
  go_wp2
  go_ret
  exact ⟨_, rfl, alloc_at _ rfl, below_alloc HB2.out _⟩
set_option maxHeartbeats 2000000 in
set_option maxRecDepth 100000 in
theorem reason_none (a0_0 : Int) (A0_1 : Option Addr) (c0_1 : Nat) (l0_1 : List S73) (w : World) (aM aS : Addr) (hL : LaidW w aM aS) (hr0_1 : Kd.C k73 w A0_1 l0_1.length l0_1) (hc0_1 : l0_1.length ≤ c0_1) (h1 : modelOk a0_0 l0_1 = true) :
    Calls Tryd.prog 23 #[.agg #[.int .i64 a0_0, .slice A0_1 l0_1.length c0_1], .slice none 0 0] w fun e w' => e = .returned (.int .i64 1) ∧ Below w.heap.size w w' := by
  have hu := Tryd.underlying55
  have HL := Aside0.mk hL
  have HR := Aside0.mk hr0_1
  have HC := Aside0.mk hc0_1
  have H1 := Aside0.mk h1
  clear hr0_1 hc0_1 h1 hL
  go_enter Tryd.func23, Tryd.ntmps23
  go_wp2_with (first
    | (go_at_call 30; refine (check_none a0_0 _ c0_1 l0_1 _ aM aS (HL.out.below (below_alloc (Below.refl _ _) _)) (Kd.C_below HR.out (below_alloc (Below.refl _ _) _)) HC.out H1.out).mono ?_; rintro e w1 ⟨p, rfl, hp, hb⟩; have HP := Aside0.mk hp; have HB := Aside0.mk (below_step (below_alloc (Below.refl w.heap.size w) _) hb); clear hb hp)
    | (go_at_call 29; refine (number_arg p 1 aM aS _ (HL.out.below HB.out) HP.out).mono ?_; rintro e w2 ⟨rfl, hb⟩; have HB2 := Aside0.mk (below_step HB.out hb); clear hb))
  go_ret
  exact ⟨rfl, HB2.out⟩
set_option maxHeartbeats 2000000 in
set_option maxRecDepth 100000 in
theorem reason_many (a0_0 : Int) (A0_1 : Option Addr) (c0_1 : Nat) (l0_1 : List S73) (A1 : Option Addr) (c1 : Nat) (l1 : List (List Int)) (w : World) (aM aS : Addr) (hL : LaidW w aM aS) (hr0_1 : Kd.C k73 w A0_1 l0_1.length l0_1) (hc0_1 : l0_1.length ≤ c0_1) (h1 : modelOk a0_0 l0_1 = true) (h17 : 16 < l1.length) :
    Calls Tryd.prog 23 #[.agg #[.int .i64 a0_0, .slice A0_1 l0_1.length c0_1], .slice A1 l1.length c1] w fun e w' => e = .returned (.int .i64 3) ∧ Below w.heap.size w w' := by
  have hu := Tryd.underlying55
  have HL := Aside0.mk hL
  have HR := Aside0.mk hr0_1
  have HC := Aside0.mk hc0_1
  have H1 := Aside0.mk h1
  have H17 := Aside0.mk h17
  clear h17
  clear hr0_1 hc0_1 h1 hL
  go_enter Tryd.func23, Tryd.ntmps23
  go_wp2_with (first
    | (go_at_call 30; refine (check_many a0_0 _ c0_1 l0_1 A1 c1 l1 _ aM aS (HL.out.below (below_alloc (Below.refl _ _) _)) (Kd.C_below HR.out (below_alloc (Below.refl _ _) _)) HC.out H1.out H17.out).mono ?_; rintro e w1 ⟨p, rfl, hp, hb⟩; have HP := Aside0.mk hp; have HB := Aside0.mk (below_step (below_alloc (Below.refl w.heap.size w) _) hb); clear hb hp)
    | (go_at_call 29; refine (number_long p 3 aM aS _ (HL.out.below HB.out) HP.out).mono ?_; rintro e w2 ⟨rfl, hb⟩; have HB2 := Aside0.mk (below_step HB.out hb); clear hb))
  go_ret
  exact ⟨rfl, HB2.out⟩
set_option maxHeartbeats 2000000 in
set_option maxRecDepth 100000 in
theorem reason_bad (a0_0 : Int) (A0_1 : Option Addr) (c0_1 : Nat) (l0_1 : List S73) (A1 : Option Addr) (c1 : Nat) (l1 : List (List Int)) (w : World) (aM aS : Addr) (hL : LaidW w aM aS) (hr0_1 : Kd.C k73 w A0_1 l0_1.length l0_1) (hc0_1 : l0_1.length ≤ c0_1) (h1 : modelOk a0_0 l0_1 = true) (hr1 : Kd.C (Kd.slice 3 (Kd.int .i64)) w A1 l1.length l1) (hc1 : l1.length ≤ c1) (h3 : 1 ≤ l1.length) (h16 : l1.length ≤ 16) (h2 : tokOk a0_0 l1 = false) :
    Calls Tryd.prog 23 #[.agg #[.int .i64 a0_0, .slice A0_1 l0_1.length c0_1], .slice A1 l1.length c1] w fun e w' => e = .returned (.int .i64 1) ∧ Below w.heap.size w w' := by
  have hu := Tryd.underlying55
  have HL := Aside0.mk hL
  have HR := Aside0.mk hr0_1
  have HC := Aside0.mk hc0_1
  have H1 := Aside0.mk h1
  have HR1 := Aside0.mk hr1
  have HC1 := Aside0.mk hc1
  have H3 := Aside0.mk h3
  have H16 := Aside0.mk h16
  have H2 := Aside0.mk h2
  clear hr1 hc1 h3 h16 h2
  clear hr0_1 hc0_1 h1 hL
  go_enter Tryd.func23, Tryd.ntmps23
  go_wp2_with (first
    | (go_at_call 30; refine (check_bad a0_0 _ c0_1 l0_1 _ c1 l1 _ aM aS (HL.out.below (below_alloc (Below.refl _ _) _)) (Kd.C_below HR.out (below_alloc (Below.refl _ _) _)) HC.out H1.out (Kd.C_below HR1.out (below_alloc (Below.refl _ _) _)) HC1.out H3.out H16.out H2.out).mono ?_; rintro e w1 ⟨p, rfl, hp, hb⟩; have HP := Aside0.mk hp; have HB := Aside0.mk (below_step (below_alloc (Below.refl w.heap.size w) _) hb); clear hb hp)
    | (go_at_call 29; refine (number_arg p 1 aM aS _ (HL.out.below HB.out) HP.out).mono ?_; rintro e w2 ⟨rfl, hb⟩; have HB2 := Aside0.mk (below_step HB.out hb); clear hb))
  go_ret
  exact ⟨rfl, HB2.out⟩


end Go.Proofs.YtlbkfeelkdombaaDoor.Pq
