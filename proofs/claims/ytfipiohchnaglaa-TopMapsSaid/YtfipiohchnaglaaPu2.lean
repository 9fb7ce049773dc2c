-- Laid by wip/xprint.py, a program of this session that runs the kit's print with some contracts given by hand; not a text of print.sh. Lean checks it.
import Derived.Test.YtfipiohchnaglaaPu0
import Derived.Test.YtfipiohchnaglaaPu1
namespace Go.Proofs.Ytfipiohchnaglaa.Pu
open Go.RowKit Go.Proofs.YtfipiohchnaglaaW.PrintWords Go.Proofs.YtfipiohchnaglaaW.PrintLast Go.Proofs.YtfipiohchnaglaaW.PrintMore
attribute [local go_sem] max2_int min2_int max_two min_two max_three min_three max_four min_four   -- for this text's walks alone
set_option linter.unusedVariables false
set_option linter.unusedSimpArgs false

/-! ### slices_ContainsFunc_int_int_46: function 46 (given by hand) -/
theorem idxFrom73_iff {α : Type} (p : α → Bool) : ∀ (l : List α) (i : Nat), 0 ≤ idxFrom73 p l i ↔ l.any p = true := by
  intro l
  induction l with
  | nil => intro i; simp [idxFrom73]
  | cons x r ih =>
    intro i
    by_cases h : p x = true
    · have e : idxFrom73 p (x :: r) i = (i : Int) := by simp only [idxFrom73]; rw [if_pos h]
      rw [e]
      simp [h]
    · have e : idxFrom73 p (x :: r) i = idxFrom73 p r (i + 1) := by simp only [idxFrom73]; rw [if_neg h]
      rw [e, ih, List.any_cons, Bool.eq_false_iff.mpr h, Bool.false_or]
theorem idxFrom73_any {α : Type} (p : α → Bool) (l : List α) (i : Nat) : decide (0 ≤ idxFrom73 p l i) = l.any p := by
  rw [Bool.eq_iff_iff, decide_eq_true_iff]
  exact idxFrom73_iff p l i
set_option maxHeartbeats 8000000 in
set_option maxRecDepth 100000 in
theorem has46_calls {α : Type} (d : Kd α) (hsz : d.sz = 1) (g : Nat) {fn : Func} (hfn : Try.prog.funcs[g]? = some fn) (hname : (fn.name == "runtime.NumGoroutine") = false) (hbody : fn.body.isSome = true) (lb : Array Value) (p : α → Bool)
    (A0 : Option Addr) (c0 : Nat) (l0 : List α) (w : World) (hr0 : Kd.C d w A0 l0.length l0)
    (hP : ∀ (x : α) (v : Value) (W : World), x ∈ l0 → d.K w x [v] → Below w.heap.size w W → Calls Try.prog g (#[v] ++ lb) W fun e w' => e = .returned (.bool (p x)) ∧ Below W.heap.size W w') :
    Calls Try.prog 46 #[.slice A0 l0.length c0, .func (.func g) #[] lb] w fun e w' => e = .returned (.bool (l0.any p)) ∧ Below w.heap.size w w' := by
  have HR0 := Aside0.mk hr0
  have HP := Aside0.mk hP
  clear hr0 hP
  have hd := idxFrom73_any p l0 0
  rw [← hd]
  clear hd
  generalize hi : idxFrom73 p l0 0 = i
  have HI := Aside0.mk hi
  clear hi
  cases hb : decide (0 ≤ i)
  · have hb' : decide (i ≥ 0) = false := hb
    go_enter Try.func46, Try.ntmps46
    go_wp2_with (go_at_call 73; refine (idx73_calls d hsz g hfn hname hbody lb p A0 c0 l0 _ HR0.out HP.out).mono ?_; rw [HI.out]; rintro e w' ⟨rfl, hbl⟩; have HB := Aside0.mk hbl; clear hbl)
    go_ret
    exact ⟨rfl, HB.out⟩
  · have hb' : decide (i ≥ 0) = true := hb
    go_enter Try.func46, Try.ntmps46
    go_wp2_with (go_at_call 73; refine (idx73_calls d hsz g hfn hname hbody lb p A0 c0 l0 _ HR0.out HP.out).mono ?_; rw [HI.out]; rintro e w' ⟨rfl, hbl⟩; have HB := Aside0.mk hbl; clear hbl)
    go_ret
    exact ⟨rfl, HB.out⟩

/-! ### fix_Hold: function 48 -/
def fix_Hold.f (a0 : Int) : Option (Int) := some (mx (-2147483647) (mn 2147483647 a0))
set_option maxHeartbeats 8000000 in
set_option maxRecDepth 100000 in
theorem fix_Hold.calls (a0 : Int) (r : Int) (w : World) (h : fix_Hold.f a0 = some r) :
    Calls Try.prog 48 #[.int .i64 a0] w fun e w' => e = .returned (.int .i64 r) ∧ Below w.heap.size w w' := by
  have HB := Aside0.mk (Below.refl w.heap.size w)
  have H : (some (mx (-2147483647) (mn 2147483647 a0))) = some r := h
  clear h
  obtain ⟨ji2, hji2⟩ : ∃ j_ : Int, (mn 2147483647 a0) = j_ := ⟨_, rfl⟩
  replace H : (some (mx (-2147483647) (ji2))) = some r := by first | (rw [hji2] at H; exact H) | (simp only [hji2] at H ⊢; exact H)
  (try (have hji2h : ji2 ≤ 2147483647 := by (rw [← hji2]; unfold mn; (repeat' split) <;> omega)))
  (try (have hji2g : ji2 ≤ 64 := by omega))
  have hji2_ : (if a0 < 2147483647 then a0 else 2147483647) = ji2 := hji2
  obtain ⟨ji3, hji3⟩ : ∃ j_ : Int, (mx (-2147483647) (ji2)) = j_ := ⟨_, rfl⟩
  replace H : (some ji3) = some r := by first | (rw [hji3] at H; exact H) | (simp only [hji3] at H ⊢; exact H)
  have hji3_ : (if (-2147483647) < (ji2) then (ji2) else (-2147483647)) = ji3 := hji3
  obtain rfl := Option.some.inj H
  go_enter Try.func48, Try.ntmps48
  go_wp2
  go_ret
  exact ⟨by first | rfl | (simp [errW_none, errW_some] <;> rfl) | (simp only [← hji2, ← hji3]; first | rfl | (simp [errW_none, errW_some] <;> rfl)) | (simp [*, errW_none, errW_some] <;> rfl), by repeat (first | (with_reducible first | exact HB.out | apply below_alloc | apply pw_below_drewN | apply below_drew1) | exact HB.out)⟩

/-! ### mat_Right: function 38 (given by hand) -/
def holdR (x : Int) : Int := mx (-2147483647) (mn 2147483647 x)
def notHeld (x : Int) : Bool := decide (¬ holdR x = x)
def rowWrong (n : Int) (r : List Int) : Bool := decide (¬ ((r.length : Int) = n)) || r.any notHeld
theorem holdR_f (x : Int) : fix_Hold.f x = some (holdR x) := rfl
set_option maxHeartbeats 8000000 in
set_option maxRecDepth 100000 in
theorem mat_Right_1_1.calls (x : Int) (W : World) :
    Calls Try.prog 66 #[.int .i64 x] W fun e w' => e = .returned (.bool (notHeld x)) ∧ Below W.heap.size W w' := by
  unfold notHeld
  by_cases c : holdR x = x
  · have e : decide (¬ holdR x = x) = false := by simp [c]
    rw [e]
    have hq : (holdR x == x) = true := beq_iff_eq.2 c
    have hq2 : (holdR x != x) = false := by rw [bne, hq]; rfl
    clear c e
    go_enter Try.func66, Try.ntmps66
    go_wp2_with (go_at_call 48; refine (fix_Hold.calls x (holdR x) _ (holdR_f _)).mono ?_; rintro e w' ⟨rfl, hb⟩)
    go_ret
    exact ⟨rfl, hb⟩
  · have e : decide (¬ holdR x = x) = true := by simp [c]
    rw [e]
    have hq : (holdR x == x) = false := beq_eq_false_iff_ne.2 c
    have hq2 : (holdR x != x) = true := by rw [bne, hq]; rfl
    clear c e
    go_enter Try.func66, Try.ntmps66
    go_wp2_with (go_at_call 48; refine (fix_Hold.calls x (holdR x) _ (holdR_f _)).mono ?_; rintro e w' ⟨rfl, hb⟩)
    go_ret
    exact ⟨rfl, hb⟩
set_option maxHeartbeats 8000000 in
set_option maxRecDepth 100000 in
theorem mat_Right_1.calls (A : Option Addr) (c : Nat) (r : List Int) (n : Int) (B : Nat) (W : World) (hr : Kd.C (Kd.int .i64) W A r.length r) (hx : W.cell? ⟨B, 0, none⟩ = some (.int .i64 n)) :
    Calls Try.prog 65 #[.slice A r.length c, .pointer (some ⟨B, 0, none⟩)] W fun e w' => e = .returned (.bool (rowWrong n r)) ∧ Below W.heap.size W w' := by
  have HR := Aside0.mk hr
  clear hr
  unfold rowWrong
  by_cases k : (r.length : Int) = n
  · have e : decide (¬ ((r.length : Int) = n)) = false := by simp [k]
    rw [e, Bool.false_or]
    have hq : ((r.length : Int) == n) = true := beq_iff_eq.2 k
    have hq2 : ((r.length : Int) != n) = false := by rw [bne, hq]; rfl
    clear k e
    go_enter Try.func65, Try.ntmps65
    go_wp2_with (go_at_call 46; refine (has46_calls (Kd.int .i64) rfl 66 Try.func66 rfl rfl #[] notHeld A c r _ HR.out ?s2).mono ?_; (case s2 => (intro x v W' _ hk _; obtain rfl : v = .int .i64 x := (List.cons.inj hk).1; exact mat_Right_1_1.calls x W')); rintro e w1 ⟨rfl, hb⟩; have HB := Aside0.mk hb; clear hb)
    go_ret
    exact ⟨rfl, HB.out⟩
  · have e : decide (¬ ((r.length : Int) = n)) = true := by simp [k]
    rw [e, Bool.true_or]
    have hq : ((r.length : Int) == n) = false := beq_eq_false_iff_ne.2 k
    have hq2 : ((r.length : Int) != n) = true := by rw [bne, hq]; rfl
    clear k e
    go_enter Try.func65, Try.ntmps65
    go_wp2
    go_ret
    exact ⟨rfl, Below.refl _ _⟩
def mat_Right.f (l0 : List (List Int)) (a1 : Int) (a2 : Int) : Option Bool := some (decide ((l0.length : Int) = a1) && !(l0.any (rowWrong a2)))
set_option maxHeartbeats 8000000 in
set_option maxRecDepth 100000 in
theorem mat_Right.calls (A0 : Option Addr) (c0 : Nat) (l0 : List (List Int)) (a1 : Int) (a2 : Int) (r : Bool) (w : World) (hr0 : Kd.C (Kd.slice 3 (Kd.int .i64)) w A0 l0.length l0) (hc0 : l0.length ≤ c0) (h : mat_Right.f l0 a1 a2 = some r) :
    Calls Try.prog 38 #[.slice A0 l0.length c0, .int .i64 a1, .int .i64 a2] w fun e w' => e = .returned (.bool r) ∧ Below w.heap.size w w' := by
  have hmf : ∀ (fn : Fn) (first cap : Array Value) (w : World), (Instr.makeFunc fn first cap).run Try.prog w = .ok (.func fn first cap) w := fun _ _ _ _ => rfl
  unfold mat_Right.f at h
  simp only [Option.some.injEq] at h
  subst h
  have HR0 := Aside0.mk hr0
  have HC0 := Aside0.mk hc0
  clear hr0 hc0
  by_cases k : (l0.length : Int) = a1
  · have e : decide ((l0.length : Int) = a1) = true := decide_eq_true k
    rw [e, Bool.true_and]
    have hq : ((l0.length : Int) == a1) = true := beq_iff_eq.2 k
    clear k e
    go_enter Try.func38, Try.ntmps38
    go_wp2_with (go_at_call 44; refine (has44_calls (Kd.slice 3 (Kd.int .i64)) rfl 65 Try.func65 rfl rfl #[.pointer (some ⟨w.heap.size, 0, none⟩)] (rowWrong a2) A0 c0 l0 _ ?s1 ?s2).mono ?_; (case s1 => exact Kd.C_alloc HR0.out _); (case s2 => (intro x v W' _ hk hb; obtain ⟨A, c, hv, _, hc⟩ := hk; obtain rfl : v = .slice A x.length c := (List.cons.inj hv).1; exact mat_Right_1.calls A c x a2 w.heap.size W' (Kd.C_below hc hb) ((hb.cell (p := ⟨w.heap.size, 0, none⟩) (by simp)).trans (by rw [World.cell?_alloc_at _ _ _ _ rfl]; rfl)))); rintro e w1 ⟨rfl, hb⟩; have HB := Aside0.mk hb; clear hb)
    go_ret
    exact ⟨rfl, (below_alloc (Below.refl _ _) _).trans (HB.out.mono (by simp))⟩
  · have e : decide ((l0.length : Int) = a1) = false := decide_eq_false k
    rw [e, Bool.false_and]
    have hq : ((l0.length : Int) == a1) = false := beq_eq_false_iff_ne.2 k
    clear k e
    go_enter Try.func38, Try.ntmps38
    go_wp2
    go_ret
    exact ⟨rfl, below_alloc (Below.refl _ _) _⟩

/-! ### expert_Right: function 19 -/
def expert_Right.f (l0_0 : List (List Int)) (l0_1 : List (List Int)) (a1 : Int) : Option (Bool) := if a1 ≥ 1 then (if a1 ≤ 8 then (if (l0_0.length : Int) ≥ 1 then (if (l0_0.length : Int) ≤ 8 then ((mat_Right.f l0_0 (l0_0.length : Int) a1).bind fun t111 => (if t111 = true then ((mat_Right.f l0_1 a1 (l0_0.length : Int)).bind fun t112 => (some t112)) else (some false))) else (some false)) else (some false)) else (some false)) else (some false)
set_option maxHeartbeats 8000000 in
set_option maxRecDepth 100000 in
theorem expert_Right.calls (A0_0 : Option Addr) (c0_0 : Nat) (l0_0 : List (List Int)) (A0_1 : Option Addr) (c0_1 : Nat) (l0_1 : List (List Int)) (a1 : Int) (r : Bool) (w : World) (hr0_0 : Kd.C (Kd.slice 3 (Kd.int .i64)) w A0_0 l0_0.length l0_0) (hc0_0 : l0_0.length ≤ c0_0) (hr0_1 : Kd.C (Kd.slice 3 (Kd.int .i64)) w A0_1 l0_1.length l0_1) (hc0_1 : l0_1.length ≤ c0_1) (h : expert_Right.f l0_0 l0_1 a1 = some r) :
    Calls Try.prog 19 #[.agg #[.slice A0_0 l0_0.length c0_0, .slice A0_1 l0_1.length c0_1], .int .i64 a1] w fun e w' => e = .returned (.bool r) ∧ Below w.heap.size w w' := by
  have hu33 := Try.underlying33
  have HR0_0 := Aside0.mk hr0_0
  have HC0_0 := Aside0.mk hc0_0
  clear hr0_0 hc0_0
  have HR0_1 := Aside0.mk hr0_1
  have HC0_1 := Aside0.mk hc0_1
  clear hr0_1 hc0_1
  have HB := Aside0.mk (Below.refl w.heap.size w)
  have H : (if a1 ≥ 1 then (if a1 ≤ 8 then (if (l0_0.length : Int) ≥ 1 then (if (l0_0.length : Int) ≤ 8 then ((mat_Right.f l0_0 (l0_0.length : Int) a1).bind fun t111 => (if t111 = true then ((mat_Right.f l0_1 a1 (l0_0.length : Int)).bind fun t112 => (some t112)) else (some false))) else (some false)) else (some false)) else (some false)) else (some false)) = some r := h
  clear h
  by_cases c3 : a1 ≥ 1
  · rw [if_pos c3] at H
    have c3b0 : decide (1 ≤ a1) = true := decide_eq_true c3
    clear c3
    by_cases c4 : a1 ≤ 8
    · rw [if_pos c4] at H
      have c4b0 : decide (a1 ≤ 8) = true := decide_eq_true c4
      clear c4
      by_cases c5 : (l0_0.length : Int) ≥ 1
      · rw [if_pos c5] at H
        have c5b0 : decide (1 ≤ (l0_0.length : Int)) = true := decide_eq_true c5
        have c5b1 : decide (1 ≤ l0_0.length) = true := decide_eq_true (by omega)
        clear c5
        by_cases c6 : (l0_0.length : Int) ≤ 8
        · rw [if_pos c6] at H
          have c6b0 : decide ((l0_0.length : Int) ≤ 8) = true := decide_eq_true c6
          have c6b1 : decide (l0_0.length ≤ 8) = true := decide_eq_true (by omega)
          clear c6
          replace H := Option.bind_eq_some_iff.mp H
          obtain ⟨t111, A70, H⟩ := H
          replace H : (if t111 = true then ((mat_Right.f l0_1 a1 (l0_0.length : Int)).bind fun t112 => (some t112)) else (some false)) = some r := H
          have A7 := Aside0.mk A70
          clear A70
          by_cases c8 : t111 = true
          · subst c8
            have H1 : ((mat_Right.f l0_1 a1 (l0_0.length : Int)).bind fun t112 => (some t112)) = some r := by rw [if_pos rfl] at H; exact H
            clear H
            have H := H1
            clear H1
            replace H := Option.bind_eq_some_iff.mp H
            obtain ⟨t112, A90, H⟩ := H
            replace H : (some t112) = some r := H
            have A9 := Aside0.mk A90
            clear A90
            obtain rfl := Option.some.inj H
            go_enter Try.func19, Try.ntmps19
            go_wp2_with (first | ((with_reducible refine gate_dst (N := 2) rfl ?_); refine box_event ?hg (N := 2) ?hd (cs := #[.slice A0_0 l0_0.length c0_0, .slice A0_1 l0_1.length c0_1]) (t := 33) ?hr ?_; (case hd => rfl); (case hg => rfl); (case hr => first | (go_simp; done) | (go_simp; rfl)); intro gb110 hg w10 hbox hb; have n0_ := Aside0.mk (below_step (by repeat (first | (with_reducible first | exact HB.out | apply below_alloc | apply pw_below_drewN | apply below_drew1) | exact HB.out)) hb); have n1_ := Aside0.mk (hbox); have n2_ := Aside0.mk ((by rw [hg]; exact (below_size (by repeat (first | (with_reducible first | exact HB.out | apply below_alloc | apply pw_below_drewN | apply below_drew1) | exact HB.out))) : w.heap.size ≤ gb110)); have n3_ := Aside0.mk ((by rw [hg]; exact (below_size (by repeat (first | (with_reducible first | exact HB.out | apply below_alloc | apply pw_below_drewN | apply below_drew1) | exact HB.out))) : w.heap.size ≤ gb110)); clear HB; have HB := n0_; have BK110 := n1_; have GW110 := n2_; have GE110 := n3_; clear n0_ n1_ n2_ n3_; clear hb hbox hg; have hcz11_0 : w10.cell? ⟨gb110, 0, none⟩ = some (.slice A0_0 l0_0.length c0_0) := (blk_cell BK110.out 0).trans rfl; have hcz11_1 : w10.cell? ⟨gb110, 1, none⟩ = some (.slice A0_1 l0_1.length c0_1) := (blk_cell BK110.out 1).trans rfl; have hfz11_0 := blk_frozen BK110.out 0; have hfz11_1 := blk_frozen BK110.out 1) | (go_at_call 38; (with_reducible refine (mat_Right.calls _ _ l0_0 (l0_0.length : Int) a1 true _ ?side1 ?side2 A7.out).mono ?_); (case side1 => repeat (first | exact (Kd.C_below HR0_0.out HB.out) | (with_reducible refine Kd.C_alloc ?_ _) | (with_reducible refine Kd.C_drewN ?_ _) | (with_reducible refine Kd.C_drew ?_))); (case side2 => exact HC0_0.out); rintro e w12 ⟨rfl, hb⟩; have n0_ := Aside0.mk (blk_below (g := gb110) (o := .cells #[.slice A0_0 l0_0.length c0_0, .slice A0_1 l0_1.length c0_1] 33 (0, 0)) (by (with_reducible repeat (first | refine blk_drewN ?_ _ | refine blk_drew ?_ | refine blk_alloc ?_ _)); exact BK110.out) hb); have n1_ := Aside0.mk (below_step (by repeat (first | (with_reducible first | exact HB.out | apply below_alloc | apply pw_below_drewN | apply below_drew1 | refine below_set ?_ GE110.out) | exact HB.out)) hb); clear BK110; clear HB; have BK110 := n0_; have HB := n1_; clear n0_ n1_; (try clear hb); (try clear hb2); (try clear hk); (try clear hi); have hcz13_0 : w12.cell? ⟨gb110, 0, none⟩ = some (.slice A0_0 l0_0.length c0_0) := (blk_cell BK110.out 0).trans rfl; have hcz13_1 : w12.cell? ⟨gb110, 1, none⟩ = some (.slice A0_1 l0_1.length c0_1) := (blk_cell BK110.out 1).trans rfl; have hfz13_0 := blk_frozen BK110.out 0; have hfz13_1 := blk_frozen BK110.out 1) | (go_at_call 38; (with_reducible refine (mat_Right.calls _ _ l0_1 a1 (l0_0.length : Int) t112 _ ?side1 ?side2 A9.out).mono ?_); (case side1 => repeat (first | exact (Kd.C_below HR0_1.out HB.out) | (with_reducible refine Kd.C_alloc ?_ _) | (with_reducible refine Kd.C_drewN ?_ _) | (with_reducible refine Kd.C_drew ?_))); (case side2 => exact HC0_1.out); rintro e w14 ⟨rfl, hb⟩; have n0_ := Aside0.mk (blk_below (g := gb110) (o := .cells #[.slice A0_0 l0_0.length c0_0, .slice A0_1 l0_1.length c0_1] 33 (0, 0)) (by (with_reducible repeat (first | refine blk_drewN ?_ _ | refine blk_drew ?_ | refine blk_alloc ?_ _)); exact BK110.out) hb); have n1_ := Aside0.mk (below_step (by repeat (first | (with_reducible first | exact HB.out | apply below_alloc | apply pw_below_drewN | apply below_drew1 | refine below_set ?_ GE110.out) | exact HB.out)) hb); clear BK110; clear HB; have BK110 := n0_; have HB := n1_; clear n0_ n1_; (try clear hb); (try clear hb2); (try clear hk); (try clear hi)))
            go_ret
            exact ⟨by first | rfl | (simp [errW_none, errW_some] <;> rfl) | (simp [*, errW_none, errW_some] <;> rfl), by repeat (first | (with_reducible first | exact HB.out | apply below_alloc | apply pw_below_drewN | apply below_drew1 | refine below_set ?_ GE110.out) | exact HB.out)⟩
          · replace c8 := Bool.eq_false_iff.mpr c8
            subst c8
            have H1 : (some false) = some r := by rw [if_neg (show ¬ (false = true) by decide)] at H; exact H
            clear H
            have H := H1
            clear H1
            obtain rfl := Option.some.inj H
            go_enter Try.func19, Try.ntmps19
            go_wp2_with (first | ((with_reducible refine gate_dst (N := 2) rfl ?_); refine box_event ?hg (N := 2) ?hd (cs := #[.slice A0_0 l0_0.length c0_0, .slice A0_1 l0_1.length c0_1]) (t := 33) ?hr ?_; (case hd => rfl); (case hg => rfl); (case hr => first | (go_simp; done) | (go_simp; rfl)); intro gb110 hg w15 hbox hb; have n0_ := Aside0.mk (below_step (by repeat (first | (with_reducible first | exact HB.out | apply below_alloc | apply pw_below_drewN | apply below_drew1) | exact HB.out)) hb); have n1_ := Aside0.mk (hbox); have n2_ := Aside0.mk ((by rw [hg]; exact (below_size (by repeat (first | (with_reducible first | exact HB.out | apply below_alloc | apply pw_below_drewN | apply below_drew1) | exact HB.out))) : w.heap.size ≤ gb110)); have n3_ := Aside0.mk ((by rw [hg]; exact (below_size (by repeat (first | (with_reducible first | exact HB.out | apply below_alloc | apply pw_below_drewN | apply below_drew1) | exact HB.out))) : w.heap.size ≤ gb110)); clear HB; have HB := n0_; have BK110 := n1_; have GW110 := n2_; have GE110 := n3_; clear n0_ n1_ n2_ n3_; clear hb hbox hg; have hcz16_0 : w15.cell? ⟨gb110, 0, none⟩ = some (.slice A0_0 l0_0.length c0_0) := (blk_cell BK110.out 0).trans rfl; have hcz16_1 : w15.cell? ⟨gb110, 1, none⟩ = some (.slice A0_1 l0_1.length c0_1) := (blk_cell BK110.out 1).trans rfl; have hfz16_0 := blk_frozen BK110.out 0; have hfz16_1 := blk_frozen BK110.out 1) | (go_at_call 38; (with_reducible refine (mat_Right.calls _ _ l0_0 (l0_0.length : Int) a1 false _ ?side1 ?side2 A7.out).mono ?_); (case side1 => repeat (first | exact (Kd.C_below HR0_0.out HB.out) | (with_reducible refine Kd.C_alloc ?_ _) | (with_reducible refine Kd.C_drewN ?_ _) | (with_reducible refine Kd.C_drew ?_))); (case side2 => exact HC0_0.out); rintro e w17 ⟨rfl, hb⟩; have n0_ := Aside0.mk (blk_below (g := gb110) (o := .cells #[.slice A0_0 l0_0.length c0_0, .slice A0_1 l0_1.length c0_1] 33 (0, 0)) (by (with_reducible repeat (first | refine blk_drewN ?_ _ | refine blk_drew ?_ | refine blk_alloc ?_ _)); exact BK110.out) hb); have n1_ := Aside0.mk (below_step (by repeat (first | (with_reducible first | exact HB.out | apply below_alloc | apply pw_below_drewN | apply below_drew1 | refine below_set ?_ GE110.out) | exact HB.out)) hb); clear BK110; clear HB; have BK110 := n0_; have HB := n1_; clear n0_ n1_; (try clear hb); (try clear hb2); (try clear hk); (try clear hi)))
            go_ret
            exact ⟨by first | rfl | (simp [errW_none, errW_some] <;> rfl) | (simp [*, errW_none, errW_some] <;> rfl), by repeat (first | (with_reducible first | exact HB.out | apply below_alloc | apply pw_below_drewN | apply below_drew1 | refine below_set ?_ GE110.out) | exact HB.out)⟩
        · rw [if_neg c6] at H
          have c6b0 : decide ((l0_0.length : Int) ≤ 8) = false := decide_eq_false c6
          have c6b1 : decide (l0_0.length ≤ 8) = false := decide_eq_false (by omega)
          clear c6
          obtain rfl := Option.some.inj H
          go_enter Try.func19, Try.ntmps19
          go_wp2_with (first | ((with_reducible refine gate_dst (N := 2) rfl ?_); refine box_event ?hg (N := 2) ?hd (cs := #[.slice A0_0 l0_0.length c0_0, .slice A0_1 l0_1.length c0_1]) (t := 33) ?hr ?_; (case hd => rfl); (case hg => rfl); (case hr => first | (go_simp; done) | (go_simp; rfl)); intro gb110 hg w18 hbox hb; have n0_ := Aside0.mk (below_step (by repeat (first | (with_reducible first | exact HB.out | apply below_alloc | apply pw_below_drewN | apply below_drew1) | exact HB.out)) hb); have n1_ := Aside0.mk (hbox); have n2_ := Aside0.mk ((by rw [hg]; exact (below_size (by repeat (first | (with_reducible first | exact HB.out | apply below_alloc | apply pw_below_drewN | apply below_drew1) | exact HB.out))) : w.heap.size ≤ gb110)); have n3_ := Aside0.mk ((by rw [hg]; exact (below_size (by repeat (first | (with_reducible first | exact HB.out | apply below_alloc | apply pw_below_drewN | apply below_drew1) | exact HB.out))) : w.heap.size ≤ gb110)); clear HB; have HB := n0_; have BK110 := n1_; have GW110 := n2_; have GE110 := n3_; clear n0_ n1_ n2_ n3_; clear hb hbox hg; have hcz19_0 : w18.cell? ⟨gb110, 0, none⟩ = some (.slice A0_0 l0_0.length c0_0) := (blk_cell BK110.out 0).trans rfl; have hcz19_1 : w18.cell? ⟨gb110, 1, none⟩ = some (.slice A0_1 l0_1.length c0_1) := (blk_cell BK110.out 1).trans rfl; have hfz19_0 := blk_frozen BK110.out 0; have hfz19_1 := blk_frozen BK110.out 1))
          go_ret
          exact ⟨by first | rfl | (simp [errW_none, errW_some] <;> rfl) | (simp [*, errW_none, errW_some] <;> rfl), by repeat (first | (with_reducible first | exact HB.out | apply below_alloc | apply pw_below_drewN | apply below_drew1 | refine below_set ?_ GE110.out) | exact HB.out)⟩
      · rw [if_neg c5] at H
        have c5b0 : decide (1 ≤ (l0_0.length : Int)) = false := decide_eq_false c5
        have c5b1 : decide (1 ≤ l0_0.length) = false := decide_eq_false (by omega)
        clear c5
        obtain rfl := Option.some.inj H
        go_enter Try.func19, Try.ntmps19
        go_wp2_with (first | ((with_reducible refine gate_dst (N := 2) rfl ?_); refine box_event ?hg (N := 2) ?hd (cs := #[.slice A0_0 l0_0.length c0_0, .slice A0_1 l0_1.length c0_1]) (t := 33) ?hr ?_; (case hd => rfl); (case hg => rfl); (case hr => first | (go_simp; done) | (go_simp; rfl)); intro gb110 hg w20 hbox hb; have n0_ := Aside0.mk (below_step (by repeat (first | (with_reducible first | exact HB.out | apply below_alloc | apply pw_below_drewN | apply below_drew1) | exact HB.out)) hb); have n1_ := Aside0.mk (hbox); have n2_ := Aside0.mk ((by rw [hg]; exact (below_size (by repeat (first | (with_reducible first | exact HB.out | apply below_alloc | apply pw_below_drewN | apply below_drew1) | exact HB.out))) : w.heap.size ≤ gb110)); have n3_ := Aside0.mk ((by rw [hg]; exact (below_size (by repeat (first | (with_reducible first | exact HB.out | apply below_alloc | apply pw_below_drewN | apply below_drew1) | exact HB.out))) : w.heap.size ≤ gb110)); clear HB; have HB := n0_; have BK110 := n1_; have GW110 := n2_; have GE110 := n3_; clear n0_ n1_ n2_ n3_; clear hb hbox hg; have hcz21_0 : w20.cell? ⟨gb110, 0, none⟩ = some (.slice A0_0 l0_0.length c0_0) := (blk_cell BK110.out 0).trans rfl; have hcz21_1 : w20.cell? ⟨gb110, 1, none⟩ = some (.slice A0_1 l0_1.length c0_1) := (blk_cell BK110.out 1).trans rfl; have hfz21_0 := blk_frozen BK110.out 0; have hfz21_1 := blk_frozen BK110.out 1))
        go_ret
        exact ⟨by first | rfl | (simp [errW_none, errW_some] <;> rfl) | (simp [*, errW_none, errW_some] <;> rfl), by repeat (first | (with_reducible first | exact HB.out | apply below_alloc | apply pw_below_drewN | apply below_drew1 | refine below_set ?_ GE110.out) | exact HB.out)⟩
    · rw [if_neg c4] at H
      have c4b0 : decide (a1 ≤ 8) = false := decide_eq_false c4
      clear c4
      obtain rfl := Option.some.inj H
      go_enter Try.func19, Try.ntmps19
      go_wp2_with (first | ((with_reducible refine gate_dst (N := 2) rfl ?_); refine box_event ?hg (N := 2) ?hd (cs := #[.slice A0_0 l0_0.length c0_0, .slice A0_1 l0_1.length c0_1]) (t := 33) ?hr ?_; (case hd => rfl); (case hg => rfl); (case hr => first | (go_simp; done) | (go_simp; rfl)); intro gb110 hg w22 hbox hb; have n0_ := Aside0.mk (below_step (by repeat (first | (with_reducible first | exact HB.out | apply below_alloc | apply pw_below_drewN | apply below_drew1) | exact HB.out)) hb); have n1_ := Aside0.mk (hbox); have n2_ := Aside0.mk ((by rw [hg]; exact (below_size (by repeat (first | (with_reducible first | exact HB.out | apply below_alloc | apply pw_below_drewN | apply below_drew1) | exact HB.out))) : w.heap.size ≤ gb110)); have n3_ := Aside0.mk ((by rw [hg]; exact (below_size (by repeat (first | (with_reducible first | exact HB.out | apply below_alloc | apply pw_below_drewN | apply below_drew1) | exact HB.out))) : w.heap.size ≤ gb110)); clear HB; have HB := n0_; have BK110 := n1_; have GW110 := n2_; have GE110 := n3_; clear n0_ n1_ n2_ n3_; clear hb hbox hg; have hcz23_0 : w22.cell? ⟨gb110, 0, none⟩ = some (.slice A0_0 l0_0.length c0_0) := (blk_cell BK110.out 0).trans rfl; have hcz23_1 : w22.cell? ⟨gb110, 1, none⟩ = some (.slice A0_1 l0_1.length c0_1) := (blk_cell BK110.out 1).trans rfl; have hfz23_0 := blk_frozen BK110.out 0; have hfz23_1 := blk_frozen BK110.out 1))
      go_ret
      exact ⟨by first | rfl | (simp [errW_none, errW_some] <;> rfl) | (simp [*, errW_none, errW_some] <;> rfl), by repeat (first | (with_reducible first | exact HB.out | apply below_alloc | apply pw_below_drewN | apply below_drew1 | refine below_set ?_ GE110.out) | exact HB.out)⟩
  · rw [if_neg c3] at H
    have c3b0 : decide (1 ≤ a1) = false := decide_eq_false c3
    clear c3
    obtain rfl := Option.some.inj H
    go_enter Try.func19, Try.ntmps19
    go_wp2_with (first | ((with_reducible refine gate_dst (N := 2) rfl ?_); refine box_event ?hg (N := 2) ?hd (cs := #[.slice A0_0 l0_0.length c0_0, .slice A0_1 l0_1.length c0_1]) (t := 33) ?hr ?_; (case hd => rfl); (case hg => rfl); (case hr => first | (go_simp; done) | (go_simp; rfl)); intro gb110 hg w24 hbox hb; have n0_ := Aside0.mk (below_step (by repeat (first | (with_reducible first | exact HB.out | apply below_alloc | apply pw_below_drewN | apply below_drew1) | exact HB.out)) hb); have n1_ := Aside0.mk (hbox); have n2_ := Aside0.mk ((by rw [hg]; exact (below_size (by repeat (first | (with_reducible first | exact HB.out | apply below_alloc | apply pw_below_drewN | apply below_drew1) | exact HB.out))) : w.heap.size ≤ gb110)); have n3_ := Aside0.mk ((by rw [hg]; exact (below_size (by repeat (first | (with_reducible first | exact HB.out | apply below_alloc | apply pw_below_drewN | apply below_drew1) | exact HB.out))) : w.heap.size ≤ gb110)); clear HB; have HB := n0_; have BK110 := n1_; have GW110 := n2_; have GE110 := n3_; clear n0_ n1_ n2_ n3_; clear hb hbox hg; have hcz25_0 : w24.cell? ⟨gb110, 0, none⟩ = some (.slice A0_0 l0_0.length c0_0) := (blk_cell BK110.out 0).trans rfl; have hcz25_1 : w24.cell? ⟨gb110, 1, none⟩ = some (.slice A0_1 l0_1.length c0_1) := (blk_cell BK110.out 1).trans rfl; have hfz25_0 := blk_frozen BK110.out 0; have hfz25_1 := blk_frozen BK110.out 1))
    go_ret
    exact ⟨by first | rfl | (simp [errW_none, errW_some] <;> rfl) | (simp [*, errW_none, errW_some] <;> rfl), by repeat (first | (with_reducible first | exact HB.out | apply below_alloc | apply pw_below_drewN | apply below_drew1 | refine below_set ?_ GE110.out) | exact HB.out)⟩

/-! ### api_Layer_69: function 69 (given by hand) -/
/-- The place of the first element for which p holds, counted from i on; -1: there is none. -/
def idxFrom69 {α : Type} (p : α → Bool) : List α → Nat → Int
  | [], _ => -1
  | x :: r, i => if p x = true then (i : Int) else idxFrom69 p r (i + 1)
theorem drop_at69 {α : Type} (l : List α) (k : Nat) (h : k < l.length) : l.drop k = l[k] :: l.drop (k + 1) := List.drop_eq_getElem_cons h
set_option maxHeartbeats 8000000 in
set_option maxRecDepth 100000 in
theorem idx69_calls {α : Type} (d : Kd α) (hsz : d.sz = 3) (g : Nat) {fn : Func} (hfn : Try.prog.funcs[g]? = some fn) (hname : (fn.name == "runtime.NumGoroutine") = false) (hbody : fn.body.isSome = true) (lb : Array Value) (p : α → Bool)
    (A0 : Option Addr) (c0 : Nat) (l0 : List α) (w : World) (hr0 : Kd.C d w A0 l0.length l0)
    (hP : ∀ (x : α) (v0 v1 v2 : Value) (W : World), x ∈ l0 → d.K w x [v0, v1, v2] → Below w.heap.size w W → Calls Try.prog g (#[.agg #[v0, v1, v2]] ++ lb) W fun e w' => e = .returned (.bool (p x)) ∧ Below W.heap.size W w') :
    Calls Try.prog 69 #[.slice A0 l0.length c0, .func (.func g) #[] lb] w fun e w' => e = .returned (.int .i64 (idxFrom69 p l0 0)) ∧ Below w.heap.size w w' := by
  have HR0 := Aside0.mk hr0
  have HP := Aside0.mk hP
  clear hr0 hP
  have HB := Aside0.mk (Below.refl w.heap.size w)
  have hmax : l0.length ≤ 9223372036854775807 := HR0.out.2.1
  have eg : ∀ (args : Array Value) (w : World), (callFunc g args).run Try.prog w = .ok (.enter g args) w := fun args w => enters_ hfn hname hbody args w
  go_enter Try.func69, Try.ntmps69
  go_wp2
  go_loopw [8] (fun v8 w' => ∃ k : Nat, Aside0 (k ≤ l0.length) ∧ v8 = .int .i64 (k : Int) ∧ Aside0 (idxFrom69 p (l0.drop k) k = idxFrom69 p l0 0) ∧ Aside0 (Below w.heap.size w w')) (fun v8 _ => l0.length - (intOf v8).toNat)
  case atStart => exact ⟨0, ⟨Nat.zero_le _⟩, rfl, ⟨rfl⟩, HB⟩
  case round =>
    obtain ⟨k, HK, rfl, HI, HB⟩ := hrel
    by_cases hlt : k < l0.length
    · obtain ⟨ad, cs, hA, hcl, hKx, hcell⟩ := Kd.C_get HR0.out l0[k] (k : Int) (by omega) (by omega)
      cases hA
      have hget : l0.getD (k : Int).toNat l0[k] = l0[k] := by
        rw [Int.toNat_natCast, List.getD_eq_getElem?_getD, List.getElem?_eq_getElem hlt]
        rfl
      rw [hget] at hKx
      rw [hsz] at hcl
      obtain ⟨v0, v1, v2, rfl⟩ : ∃ v0 v1 v2, cs = [v0, v1, v2] := by
        match cs, hcl with
        | [v0, v1, v2], _ => exact ⟨v0, v1, v2, rfl⟩
      have hx0 := hcell 0 v0 rfl
      rw [Int.toNat_natCast, hsz, Nat.add_zero] at hx0
      have hx1 := hcell 1 v1 rfl
      rw [Int.toNat_natCast, hsz, add_field _ _ 1 (by omega)] at hx1
      have hx2 := hcell 2 v2 rfl
      rw [Int.toNat_natCast, hsz, add_field _ _ 2 (by omega)] at hx2
      clear hcell
      replace hx0 := (HB.out.cell (World.block_lt_of_cell? w _ hx0)).trans hx0
      replace hx1 := (HB.out.cell (World.block_lt_of_cell? w _ hx1)).trans hx1
      replace hx2 := (HB.out.cell (World.block_lt_of_cell? w _ hx2)).trans hx2
      have hc : decide (k < l0.length) = true := decide_eq_true hlt
      have HC := Aside0.mk (fun W => HP.out l0[k] v0 v1 v2 W (List.getElem_mem hlt) hKx)
      have HD := Aside0.mk (drop_at69 l0 k hlt)
      clear hKx hget hcl
      cases hp : p l0[k]
      · have HC1 : Aside0 (∀ W : World, Below w.heap.size w W → Calls Try.prog g (#[.agg #[v0, v1, v2]] ++ lb) W fun e w' => e = .returned (.bool false) ∧ Below W.heap.size W w') := ⟨fun W hW => by have := HC.out W hW; rwa [hp] at this⟩
        have HN : Aside0 (idxFrom69 p (l0.drop (k + 1)) (k + 1) = idxFrom69 p l0 0) := ⟨by have := HI.out; rw [HD.out] at this; simp only [idxFrom69, hp] at this; exact this⟩
        clear HC HI HD hp
        go_wp2_with (go_at_fn g; refine (HC1.out _ ?cb).mono ?_; (case cb => exact HB.out); rintro e w' ⟨rfl, hb0⟩; have n1_ := Aside0.mk (below_step HB.out hb0); clear hb0; clear HB; have HB := n1_; clear n1_)
        go_roundw
        case rel => exact ⟨k + 1, ⟨by omega⟩, by go_num, HN, HB⟩
        case measure => simp [intOf]; omega
      · have HC1 : Aside0 (∀ W : World, Below w.heap.size w W → Calls Try.prog g (#[.agg #[v0, v1, v2]] ++ lb) W fun e w' => e = .returned (.bool true) ∧ Below W.heap.size W w') := ⟨fun W hW => by have := HC.out W hW; rwa [hp] at this⟩
        have HN : Aside0 (((k : Nat) : Int) = idxFrom69 p l0 0) := ⟨by have := HI.out; rw [HD.out] at this; simp only [idxFrom69, hp] at this; exact this⟩
        clear HC HI HD hp
        go_wp2_with (go_at_fn g; refine (HC1.out _ ?cb).mono ?_; (case cb => exact HB.out); rintro e w' ⟨rfl, hb0⟩; have n1_ := Aside0.mk (below_step HB.out hb0); clear hb0; clear HB; have HB := n1_; clear n1_)
        go_ret
        exact ⟨by rw [← HN.out]; rfl, HB.out⟩
    · have hc : decide (k < l0.length) = false := decide_eq_false hlt
      have hk : k = l0.length := by have := HK.out; omega
      have HN : Aside0 ((-1 : Int) = idxFrom69 p l0 0) := ⟨by have := HI.out; rw [hk, List.drop_length] at this; exact this⟩
      clear hk
      go_wp2
      go_ret
      exact ⟨by rw [← HN.out]; rfl, HB.out⟩

/-! ### api_Layer_41: function 41 (given by hand) -/
theorem idxFrom69_iff {α : Type} (p : α → Bool) : ∀ (l : List α) (i : Nat), 0 ≤ idxFrom69 p l i ↔ l.any p = true := by
  intro l
  induction l with
  | nil => intro i; simp [idxFrom69]
  | cons x r ih =>
    intro i
    by_cases h : p x = true
    · have e : idxFrom69 p (x :: r) i = (i : Int) := by simp only [idxFrom69]; rw [if_pos h]
      rw [e]
      simp [h]
    · have e : idxFrom69 p (x :: r) i = idxFrom69 p r (i + 1) := by simp only [idxFrom69]; rw [if_neg h]
      rw [e, ih, List.any_cons, Bool.eq_false_iff.mpr h, Bool.false_or]
theorem idxFrom69_any {α : Type} (p : α → Bool) (l : List α) (i : Nat) : decide (0 ≤ idxFrom69 p l i) = l.any p := by
  rw [Bool.eq_iff_iff, decide_eq_true_iff]
  exact idxFrom69_iff p l i
set_option maxHeartbeats 8000000 in
set_option maxRecDepth 100000 in
theorem has41_calls {α : Type} (d : Kd α) (hsz : d.sz = 3) (g : Nat) {fn : Func} (hfn : Try.prog.funcs[g]? = some fn) (hname : (fn.name == "runtime.NumGoroutine") = false) (hbody : fn.body.isSome = true) (lb : Array Value) (p : α → Bool)
    (A0 : Option Addr) (c0 : Nat) (l0 : List α) (w : World) (hr0 : Kd.C d w A0 l0.length l0)
    (hP : ∀ (x : α) (v0 v1 v2 : Value) (W : World), x ∈ l0 → d.K w x [v0, v1, v2] → Below w.heap.size w W → Calls Try.prog g (#[.agg #[v0, v1, v2]] ++ lb) W fun e w' => e = .returned (.bool (p x)) ∧ Below W.heap.size W w') :
    Calls Try.prog 41 #[.slice A0 l0.length c0, .func (.func g) #[] lb] w fun e w' => e = .returned (.bool (l0.any p)) ∧ Below w.heap.size w w' := by
  have HR0 := Aside0.mk hr0
  have HP := Aside0.mk hP
  clear hr0 hP
  have hd := idxFrom69_any p l0 0
  rw [← hd]
  clear hd
  generalize hi : idxFrom69 p l0 0 = i
  have HI := Aside0.mk hi
  clear hi
  cases hb : decide (0 ≤ i)
  · have hb' : decide (i ≥ 0) = false := hb
    go_enter Try.func41, Try.ntmps41
    go_wp2_with (go_at_call 69; refine (idx69_calls d hsz g hfn hname hbody lb p A0 c0 l0 _ HR0.out HP.out).mono ?_; rw [HI.out]; rintro e w' ⟨rfl, hbl⟩; have HB := Aside0.mk hbl; clear hbl)
    go_ret
    exact ⟨rfl, HB.out⟩
  · have hb' : decide (i ≥ 0) = true := hb
    go_enter Try.func41, Try.ntmps41
    go_wp2_with (go_at_call 69; refine (idx69_calls d hsz g hfn hname hbody lb p A0 c0 l0 _ HR0.out HP.out).mono ?_; rw [HI.out]; rintro e w' ⟨rfl, hbl⟩; have HB := Aside0.mk hbl; clear hbl)
    go_ret
    exact ⟨rfl, HB.out⟩

/-! ### api_Expert_99: function 99 (given by hand) -/
/-- The place of the first element for which p holds, counted from i on; -1: there is none. -/
def idxFrom99 {α : Type} (p : α → Bool) : List α → Nat → Int
  | [], _ => -1
  | x :: r, i => if p x = true then (i : Int) else idxFrom99 p r (i + 1)
theorem drop_at99 {α : Type} (l : List α) (k : Nat) (h : k < l.length) : l.drop k = l[k] :: l.drop (k + 1) := List.drop_eq_getElem_cons h
set_option maxHeartbeats 8000000 in
set_option maxRecDepth 100000 in
theorem idx99_calls {α : Type} (d : Kd α) (hsz : d.sz = 2) (g : Nat) {fn : Func} (hfn : Try.prog.funcs[g]? = some fn) (hname : (fn.name == "runtime.NumGoroutine") = false) (hbody : fn.body.isSome = true) (lb : Array Value) (p : α → Bool)
    (A0 : Option Addr) (c0 : Nat) (l0 : List α) (w : World) (hr0 : Kd.C d w A0 l0.length l0)
    (hP : ∀ (x : α) (v0 v1 : Value) (W : World), x ∈ l0 → d.K w x [v0, v1] → Below w.heap.size w W → Calls Try.prog g (#[.agg #[v0, v1]] ++ lb) W fun e w' => e = .returned (.bool (p x)) ∧ Below W.heap.size W w') :
    Calls Try.prog 99 #[.slice A0 l0.length c0, .func (.func g) #[] lb] w fun e w' => e = .returned (.int .i64 (idxFrom99 p l0 0)) ∧ Below w.heap.size w w' := by
  have HR0 := Aside0.mk hr0
  have HP := Aside0.mk hP
  clear hr0 hP
  have HB := Aside0.mk (Below.refl w.heap.size w)
  have hmax : l0.length ≤ 9223372036854775807 := HR0.out.2.1
  have eg : ∀ (args : Array Value) (w : World), (callFunc g args).run Try.prog w = .ok (.enter g args) w := fun args w => enters_ hfn hname hbody args w
  go_enter Try.func99, Try.ntmps99
  go_wp2
  go_loopw [8] (fun v8 w' => ∃ k : Nat, Aside0 (k ≤ l0.length) ∧ v8 = .int .i64 (k : Int) ∧ Aside0 (idxFrom99 p (l0.drop k) k = idxFrom99 p l0 0) ∧ Aside0 (Below w.heap.size w w')) (fun v8 _ => l0.length - (intOf v8).toNat)
  case atStart => exact ⟨0, ⟨Nat.zero_le _⟩, rfl, ⟨rfl⟩, HB⟩
  case round =>
    obtain ⟨k, HK, rfl, HI, HB⟩ := hrel
    by_cases hlt : k < l0.length
    · obtain ⟨ad, cs, hA, hcl, hKx, hcell⟩ := Kd.C_get HR0.out l0[k] (k : Int) (by omega) (by omega)
      cases hA
      have hget : l0.getD (k : Int).toNat l0[k] = l0[k] := by
        rw [Int.toNat_natCast, List.getD_eq_getElem?_getD, List.getElem?_eq_getElem hlt]
        rfl
      rw [hget] at hKx
      rw [hsz] at hcl
      obtain ⟨v0, v1, rfl⟩ : ∃ v0 v1, cs = [v0, v1] := by
        match cs, hcl with
        | [v0, v1], _ => exact ⟨v0, v1, rfl⟩
      have hx0 := hcell 0 v0 rfl
      rw [Int.toNat_natCast, hsz, Nat.add_zero] at hx0
      have hx1 := hcell 1 v1 rfl
      rw [Int.toNat_natCast, hsz, add_field _ _ 1 (by omega)] at hx1
      clear hcell
      replace hx0 := (HB.out.cell (World.block_lt_of_cell? w _ hx0)).trans hx0
      replace hx1 := (HB.out.cell (World.block_lt_of_cell? w _ hx1)).trans hx1
      have hc : decide (k < l0.length) = true := decide_eq_true hlt
      have HC := Aside0.mk (fun W => HP.out l0[k] v0 v1 W (List.getElem_mem hlt) hKx)
      have HD := Aside0.mk (drop_at99 l0 k hlt)
      clear hKx hget hcl
      cases hp : p l0[k]
      · have HC1 : Aside0 (∀ W : World, Below w.heap.size w W → Calls Try.prog g (#[.agg #[v0, v1]] ++ lb) W fun e w' => e = .returned (.bool false) ∧ Below W.heap.size W w') := ⟨fun W hW => by have := HC.out W hW; rwa [hp] at this⟩
        have HN : Aside0 (idxFrom99 p (l0.drop (k + 1)) (k + 1) = idxFrom99 p l0 0) := ⟨by have := HI.out; rw [HD.out] at this; simp only [idxFrom99, hp] at this; exact this⟩
        clear HC HI HD hp
        go_wp2_with (go_at_fn g; refine (HC1.out _ ?cb).mono ?_; (case cb => exact HB.out); rintro e w' ⟨rfl, hb0⟩; have n1_ := Aside0.mk (below_step HB.out hb0); clear hb0; clear HB; have HB := n1_; clear n1_)
        go_roundw
        case rel => exact ⟨k + 1, ⟨by omega⟩, by go_num, HN, HB⟩
        case measure => simp [intOf]; omega
      · have HC1 : Aside0 (∀ W : World, Below w.heap.size w W → Calls Try.prog g (#[.agg #[v0, v1]] ++ lb) W fun e w' => e = .returned (.bool true) ∧ Below W.heap.size W w') := ⟨fun W hW => by have := HC.out W hW; rwa [hp] at this⟩
        have HN : Aside0 (((k : Nat) : Int) = idxFrom99 p l0 0) := ⟨by have := HI.out; rw [HD.out] at this; simp only [idxFrom99, hp] at this; exact this⟩
        clear HC HI HD hp
        go_wp2_with (go_at_fn g; refine (HC1.out _ ?cb).mono ?_; (case cb => exact HB.out); rintro e w' ⟨rfl, hb0⟩; have n1_ := Aside0.mk (below_step HB.out hb0); clear hb0; clear HB; have HB := n1_; clear n1_)
        go_ret
        exact ⟨by rw [← HN.out]; rfl, HB.out⟩
    · have hc : decide (k < l0.length) = false := decide_eq_false hlt
      have hk : k = l0.length := by have := HK.out; omega
      have HN : Aside0 ((-1 : Int) = idxFrom99 p l0 0) := ⟨by have := HI.out; rw [hk, List.drop_length] at this; exact this⟩
      clear hk
      go_wp2
      go_ret
      exact ⟨by rw [← HN.out]; rfl, HB.out⟩

/-! ### api_Expert_70: function 70 (given by hand) -/
theorem idxFrom99_iff {α : Type} (p : α → Bool) : ∀ (l : List α) (i : Nat), 0 ≤ idxFrom99 p l i ↔ l.any p = true := by
  intro l
  induction l with
  | nil => intro i; simp [idxFrom99]
  | cons x r ih =>
    intro i
    by_cases h : p x = true
    · have e : idxFrom99 p (x :: r) i = (i : Int) := by simp only [idxFrom99]; rw [if_pos h]
      rw [e]
      simp [h]
    · have e : idxFrom99 p (x :: r) i = idxFrom99 p r (i + 1) := by simp only [idxFrom99]; rw [if_neg h]
      rw [e, ih, List.any_cons, Bool.eq_false_iff.mpr h, Bool.false_or]
theorem idxFrom99_any {α : Type} (p : α → Bool) (l : List α) (i : Nat) : decide (0 ≤ idxFrom99 p l i) = l.any p := by
  rw [Bool.eq_iff_iff, decide_eq_true_iff]
  exact idxFrom99_iff p l i
set_option maxHeartbeats 8000000 in
set_option maxRecDepth 100000 in
theorem has70_calls {α : Type} (d : Kd α) (hsz : d.sz = 2) (g : Nat) {fn : Func} (hfn : Try.prog.funcs[g]? = some fn) (hname : (fn.name == "runtime.NumGoroutine") = false) (hbody : fn.body.isSome = true) (lb : Array Value) (p : α → Bool)
    (A0 : Option Addr) (c0 : Nat) (l0 : List α) (w : World) (hr0 : Kd.C d w A0 l0.length l0)
    (hP : ∀ (x : α) (v0 v1 : Value) (W : World), x ∈ l0 → d.K w x [v0, v1] → Below w.heap.size w W → Calls Try.prog g (#[.agg #[v0, v1]] ++ lb) W fun e w' => e = .returned (.bool (p x)) ∧ Below W.heap.size W w') :
    Calls Try.prog 70 #[.slice A0 l0.length c0, .func (.func g) #[] lb] w fun e w' => e = .returned (.bool (l0.any p)) ∧ Below w.heap.size w w' := by
  have HR0 := Aside0.mk hr0
  have HP := Aside0.mk hP
  clear hr0 hP
  have hd := idxFrom99_any p l0 0
  rw [← hd]
  clear hd
  generalize hi : idxFrom99 p l0 0 = i
  have HI := Aside0.mk hi
  clear hi
  cases hb : decide (0 ≤ i)
  · have hb' : decide (i ≥ 0) = false := hb
    go_enter Try.func70, Try.ntmps70
    go_wp2_with (go_at_call 99; refine (idx99_calls d hsz g hfn hname hbody lb p A0 c0 l0 _ HR0.out HP.out).mono ?_; rw [HI.out]; rintro e w' ⟨rfl, hbl⟩; have HB := Aside0.mk hbl; clear hbl)
    go_ret
    exact ⟨rfl, HB.out⟩
  · have hb' : decide (i ≥ 0) = true := hb
    go_enter Try.func70, Try.ntmps70
    go_wp2_with (go_at_call 99; refine (idx99_calls d hsz g hfn hname hbody lb p A0 c0 l0 _ HR0.out HP.out).mono ?_; rw [HI.out]; rintro e w' ⟨rfl, hbl⟩; have HB := Aside0.mk hbl; clear hbl)
    go_ret
    exact ⟨rfl, HB.out⟩

/-! ### model_Right: function 27 (given by hand) -/
def matOk (l : List (List Int)) (a b : Int) : Bool := decide ((l.length : Int) = a) && !(l.any (rowWrong b))
theorem matOk_f (l : List (List Int)) (a b : Int) : mat_Right.f l a b = some (matOk l a b) := rfl
/-- Is an expert right? -/
def expOk (l0 l1 : List (List Int)) (n : Int) : Bool := (expert_Right.f l0 l1 n).getD false
theorem expOk_f (l0 l1 : List (List Int)) (n : Int) : expert_Right.f l0 l1 n = some (expOk l0 l1 n) := by
  unfold expOk expert_Right.f
  simp only [matOk_f, Option.bind_some]
  split
  · split
    · split
      · split
        · split <;> rfl
        · rfl
      · rfl
    · rfl
  · rfl
def expBad (n : Int) (x : S33) : Bool := !(expOk x.f0 x.f1 n)
set_option maxHeartbeats 8000000 in
set_option maxRecDepth 100000 in
theorem model_layer_1.calls (A0 : Option Addr) (c0 : Nat) (A1 : Option Addr) (c1 : Nat) (x : S33) (n : Int) (B : Nat) (W : World) (h0 : Kd.C (Kd.slice 3 (Kd.int .i64)) W A0 x.f0.length x.f0) (l0 : x.f0.length ≤ c0) (h1 : Kd.C (Kd.slice 3 (Kd.int .i64)) W A1 x.f1.length x.f1) (l1 : x.f1.length ≤ c1) (hx : W.cell? ⟨B, 0, none⟩ = some (.int .i64 n)) :
    Calls Try.prog 71 #[.agg #[.slice A0 x.f0.length c0, .slice A1 x.f1.length c1], .pointer (some ⟨B, 0, none⟩)] W fun e w' => e = .returned (.bool (expBad n x)) ∧ Below W.heap.size W w' := by
  have H0 := Aside0.mk h0
  have H1 := Aside0.mk h1
  have L0 := Aside0.mk l0
  have L1 := Aside0.mk l1
  have hx' : ∀ o, (W.alloc o).cell? ⟨B, 0, none⟩ = some (.int .i64 n) := fun o => Lib.cell?_alloc_some o hx
  have HF := Aside0.mk (expOk_f x.f0 x.f1 n)
  have hu := Try.underlying33
  clear h0 h1 l0 l1
  unfold expBad
  cases hb : expOk x.f0 x.f1 n
  · rw [hb] at HF
    clear hb
    go_enter Try.func71, Try.ntmps71
    go_wp2_with (go_at_call 19; refine (expert_Right.calls _ _ x.f0 _ _ x.f1 n false _ (Kd.C_alloc H0.out _) L0.out (Kd.C_alloc H1.out _) L1.out HF.out).mono ?_; rintro e w1 ⟨rfl, hb⟩; have HB := Aside0.mk hb; clear hb)
    go_ret
    exact ⟨rfl, (below_alloc (Below.refl _ _) _).trans (HB.out.mono (by simp))⟩
  · rw [hb] at HF
    clear hb
    go_enter Try.func71, Try.ntmps71
    go_wp2_with (go_at_call 19; refine (expert_Right.calls _ _ x.f0 _ _ x.f1 n true _ (Kd.C_alloc H0.out _) L0.out (Kd.C_alloc H1.out _) L1.out HF.out).mono ?_; rintro e w1 ⟨rfl, hb⟩; have HB := Aside0.mk hb; clear hb)
    go_ret
    exact ⟨rfl, (below_alloc (Below.refl _ _) _).trans (HB.out.mono (by simp))⟩
/-- Is a layer right? -/
def layerOk (l0 : List (List Int)) (l1 : List S33) (c n : Int) : Bool :=
  if (l1.length : Int) ≥ 1 then (if (l1.length : Int) ≤ 8 then (if matOk l0 (l1.length : Int) n = true then (if c ≥ 1 then (if c ≤ 32 then !(l1.any (expBad n)) else false) else false) else false) else false) else false
set_option maxHeartbeats 8000000 in
set_option maxRecDepth 100000 in
theorem model_layer.calls (A0 : Option Addr) (c0 : Nat) (l0 : List (List Int)) (A1 : Option Addr) (c1 : Nat) (l1 : List S33) (c n : Int) (w : World) (h0 : Kd.C (Kd.slice 3 (Kd.int .i64)) w A0 l0.length l0) (hl0 : l0.length ≤ c0) (h1 : Kd.C k33 w A1 l1.length l1) (hl1 : l1.length ≤ c1) :
    Calls Try.prog 43 #[.agg #[.slice A0 l0.length c0, .slice A1 l1.length c1, .int .i64 c], .int .i64 n] w fun e w' => e = .returned (.bool (layerOk l0 l1 c n)) ∧ Below w.heap.size w w' := by
  have hmf : ∀ (fn : Fn) (first cap : Array Value) (w : World), (Instr.makeFunc fn first cap).run Try.prog w = .ok (.func fn first cap) w := fun _ _ _ _ => rfl
  have hu := Try.underlying31
  have H0 := Aside0.mk h0
  have H1 := Aside0.mk h1
  have L0 := Aside0.mk hl0
  have L1 := Aside0.mk hl1
  clear h0 h1 hl0 hl1
  unfold layerOk
  have cell0 : ∀ o, ((w.alloc (.cells #[.slice A0 l0.length c0, .slice A1 l1.length c1, .int .i64 c] 31)).alloc o).cell? ⟨w.heap.size, 0, none⟩ = some (.slice A0 l0.length c0) := fun o => Lib.cell?_alloc_some o (by rw [World.cell?_alloc_at _ _ _ _ rfl]; rfl)
  have cell1 : ∀ o, ((w.alloc (.cells #[.slice A0 l0.length c0, .slice A1 l1.length c1, .int .i64 c] 31)).alloc o).cell? ⟨w.heap.size, 1, none⟩ = some (.slice A1 l1.length c1) := fun o => Lib.cell?_alloc_some o (by rw [World.cell?_alloc_at _ _ _ _ rfl]; rfl)
  have cell2 : ∀ o, ((w.alloc (.cells #[.slice A0 l0.length c0, .slice A1 l1.length c1, .int .i64 c] 31)).alloc o).cell? ⟨w.heap.size, 2, none⟩ = some (.int .i64 c) := fun o => Lib.cell?_alloc_some o (by rw [World.cell?_alloc_at _ _ _ _ rfl]; rfl)
  by_cases c1_ : (l1.length : Int) ≥ 1
  case neg =>
    rw [if_neg c1_]
    have k1 : decide (1 ≤ (l1.length : Int)) = false := decide_eq_false c1_
    have k1n : decide (1 ≤ l1.length) = false := decide_eq_false (by omega)
    clear c1_
    go_enter Try.func43, Try.ntmps43
    go_wp2
    go_ret
    exact ⟨rfl, below_alloc (below_alloc (Below.refl _ _) _) _⟩
  rw [if_pos c1_]
  have k1 : decide (1 ≤ (l1.length : Int)) = true := decide_eq_true c1_
  have k1n : decide (1 ≤ l1.length) = true := decide_eq_true (by omega)
  clear c1_
  by_cases c2_ : (l1.length : Int) ≤ 8
  case neg =>
    rw [if_neg c2_]
    have k2 : decide ((l1.length : Int) ≤ 8) = false := decide_eq_false c2_
    have k2n : decide (l1.length ≤ 8) = false := decide_eq_false (by omega)
    clear c2_
    go_enter Try.func43, Try.ntmps43
    go_wp2
    go_ret
    exact ⟨rfl, below_alloc (below_alloc (Below.refl _ _) _) _⟩
  rw [if_pos c2_]
  have k2 : decide ((l1.length : Int) ≤ 8) = true := decide_eq_true c2_
  have k2n : decide (l1.length ≤ 8) = true := decide_eq_true (by omega)
  clear c2_
  have hf := matOk_f l0 (l1.length : Int) n
  by_cases c3_ : matOk l0 (l1.length : Int) n = true
  case neg =>
    rw [if_neg c3_]
    rw [Bool.eq_false_iff.mpr c3_] at hf
    have HF := Aside0.mk hf
    clear c3_ hf
    go_enter Try.func43, Try.ntmps43
    go_wp2_with (go_at_call 38; refine (mat_Right.calls _ _ l0 (l1.length : Int) n false _ (Kd.C_alloc (Kd.C_alloc H0.out _) _) L0.out HF.out).mono ?_; rintro e w1 ⟨rfl, hb⟩; have HB := Aside0.mk hb; have hb0 := (hb.cell (p := ⟨w.heap.size, 0, none⟩) (by simp; omega)).trans (cell0 _); have hb1 := (hb.cell (p := ⟨w.heap.size, 1, none⟩) (by simp; omega)).trans (cell1 _); have hb2 := (hb.cell (p := ⟨w.heap.size, 2, none⟩) (by simp; omega)).trans (cell2 _); clear hb)
    go_ret
    exact ⟨rfl, (below_alloc (below_alloc (Below.refl _ _) _) _).trans (HB.out.mono (by simp; omega))⟩
  rw [if_pos c3_]
  rw [c3_] at hf
  have HF := Aside0.mk hf
  clear c3_ hf
  by_cases c4_ : c ≥ 1
  case neg =>
    rw [if_neg c4_]
    have k3 : decide (1 ≤ c) = false := decide_eq_false c4_
    clear c4_
    go_enter Try.func43, Try.ntmps43
    go_wp2_with (go_at_call 38; refine (mat_Right.calls _ _ l0 (l1.length : Int) n true _ (Kd.C_alloc (Kd.C_alloc H0.out _) _) L0.out HF.out).mono ?_; rintro e w1 ⟨rfl, hb⟩; have HB := Aside0.mk hb; have hb0 := (hb.cell (p := ⟨w.heap.size, 0, none⟩) (by simp; omega)).trans (cell0 _); have hb1 := (hb.cell (p := ⟨w.heap.size, 1, none⟩) (by simp; omega)).trans (cell1 _); have hb2 := (hb.cell (p := ⟨w.heap.size, 2, none⟩) (by simp; omega)).trans (cell2 _); clear hb)
    go_ret
    exact ⟨rfl, (below_alloc (below_alloc (Below.refl _ _) _) _).trans (HB.out.mono (by simp; omega))⟩
  rw [if_pos c4_]
  have k3 : decide (1 ≤ c) = true := decide_eq_true c4_
  clear c4_
  by_cases c5_ : c ≤ 32
  case neg =>
    rw [if_neg c5_]
    have k4 : decide (c ≤ 32) = false := decide_eq_false c5_
    clear c5_
    go_enter Try.func43, Try.ntmps43
    go_wp2_with (go_at_call 38; refine (mat_Right.calls _ _ l0 (l1.length : Int) n true _ (Kd.C_alloc (Kd.C_alloc H0.out _) _) L0.out HF.out).mono ?_; rintro e w1 ⟨rfl, hb⟩; have HB := Aside0.mk hb; have hb0 := (hb.cell (p := ⟨w.heap.size, 0, none⟩) (by simp; omega)).trans (cell0 _); have hb1 := (hb.cell (p := ⟨w.heap.size, 1, none⟩) (by simp; omega)).trans (cell1 _); have hb2 := (hb.cell (p := ⟨w.heap.size, 2, none⟩) (by simp; omega)).trans (cell2 _); clear hb)
    go_ret
    exact ⟨rfl, (below_alloc (below_alloc (Below.refl _ _) _) _).trans (HB.out.mono (by simp; omega))⟩
  rw [if_pos c5_]
  have k4 : decide (c ≤ 32) = true := decide_eq_true c5_
  clear c5_
  cases hany : l1.any (expBad n)
  all_goals
    have HANY := Aside0.mk hany
    clear hany
    go_enter Try.func43, Try.ntmps43
    go_wp2_with (first | (go_at_call 38; refine (mat_Right.calls _ _ l0 (l1.length : Int) n true _ (Kd.C_alloc (Kd.C_alloc H0.out _) _) L0.out HF.out).mono ?_; rintro e w1 ⟨rfl, hb⟩; have HB := Aside0.mk hb; have hb0 := (hb.cell (p := ⟨w.heap.size, 0, none⟩) (by simp; omega)).trans (cell0 _); have hb1 := (hb.cell (p := ⟨w.heap.size, 1, none⟩) (by simp; omega)).trans (cell1 _); have hb2 := (hb.cell (p := ⟨w.heap.size, 2, none⟩) (by simp; omega)).trans (cell2 _); clear hb) | (go_at_call 70; refine (has70_calls k33 rfl 71 Try.func71 rfl rfl #[.pointer (some ⟨w.heap.size + 1, 0, none⟩)] (expBad n) A1 c1 l1 _ ?s1 ?s2).mono ?_; (case s1 => exact Kd.C_below (Kd.C_alloc (Kd.C_alloc H1.out _) _) HB.out); (case s2 => (intro x v0 v1 W' _ hk hb; obtain ⟨B0, d0, B1, d1, hv, m0, g0, m1, g1⟩ := k33_open hk; obtain ⟨e0_, hv0_⟩ := List.cons.inj hv; obtain ⟨e1_, _⟩ := List.cons.inj hv0_; subst e0_; subst e1_; exact model_layer_1.calls B0 d0 B1 d1 x n (w.heap.size + 1) W' (Kd.C_below g0 hb) m0 (Kd.C_below g1 hb) m1 ((hb.cell (p := ⟨w.heap.size + 1, 0, none⟩) (by have := HB.out.size; simp at this; show w.heap.size + 1 < w1.heap.size; omega)).trans ((HB.out.cell (p := ⟨w.heap.size + 1, 0, none⟩) (by simp)).trans (by rw [World.cell?_alloc_at _ _ _ _ (by simp)]; rfl))))); rw [HANY.out]; rintro e w2 ⟨rfl, hb⟩; have HB2 := Aside0.mk hb; clear hb))
    go_ret
    exact ⟨rfl, ((below_alloc (below_alloc (Below.refl _ _) _) _).trans (HB.out.mono (by simp; omega))).trans (HB2.out.mono (by have := HB.out.size; simp at this; omega))⟩
def layBad (n : Int) (x : S31) : Bool := !(layerOk x.f0 x.f1 x.f2 n)
set_option maxHeartbeats 8000000 in
set_option maxRecDepth 100000 in
theorem model_Right_1.calls (A0 : Option Addr) (c0 : Nat) (A1 : Option Addr) (c1 : Nat) (x : S31) (n : Int) (B : Nat) (W : World) (h0 : Kd.C (Kd.slice 3 (Kd.int .i64)) W A0 x.f0.length x.f0) (l0 : x.f0.length ≤ c0) (h1 : Kd.C k33 W A1 x.f1.length x.f1) (l1 : x.f1.length ≤ c1) (hx : W.cell? ⟨B, 0, none⟩ = some (.int .i64 n)) :
    Calls Try.prog 42 #[.agg #[.slice A0 x.f0.length c0, .slice A1 x.f1.length c1, .int .i64 x.f2], .pointer (some ⟨B, 0, none⟩)] W fun e w' => e = .returned (.bool (layBad n x)) ∧ Below W.heap.size W w' := by
  have H0 := Aside0.mk h0
  have H1 := Aside0.mk h1
  have L0 := Aside0.mk l0
  have L1 := Aside0.mk l1
  have hx' : ∀ o, (W.alloc o).cell? ⟨B, 0, none⟩ = some (.int .i64 n) := fun o => Lib.cell?_alloc_some o hx
  have hu := Try.underlying31
  have hu2 := Try.underlying24
  clear h0 h1 l0 l1
  unfold layBad
  cases hb : layerOk x.f0 x.f1 x.f2 n
  all_goals
    have HBK := Aside0.mk hb
    clear hb
    go_enter Try.func42, Try.ntmps42
    go_wp2_with (go_at_call 43; refine (model_layer.calls _ _ x.f0 _ _ x.f1 x.f2 n _ (Kd.C_alloc H0.out _) L0.out (Kd.C_alloc H1.out _) L1.out).mono ?_; rw [HBK.out]; rintro e w1 ⟨rfl, hb⟩; have HB := Aside0.mk hb; clear hb)
    go_ret
    exact ⟨rfl, (below_alloc (Below.refl _ _) _).trans (HB.out.mono (by simp))⟩
/-- Is a model right? -/
def modelOk (n : Int) (l : List S31) : Bool :=
  if n ≥ 1 then (if n ≤ 8 then (if (l.length : Int) ≥ 1 then (if (l.length : Int) ≤ 4 then !(l.any (layBad n)) else false) else false) else false) else false
def model_Right.f (a0_0 : Int) (l0_1 : List S31) : Option Bool := some (modelOk a0_0 l0_1)
set_option maxHeartbeats 8000000 in
set_option maxRecDepth 100000 in
theorem model_Right.calls (a0_0 : Int) (A0_1 : Option Addr) (c0_1 : Nat) (l0_1 : List S31) (r : Bool) (w : World) (hr0_1 : Kd.C k31 w A0_1 l0_1.length l0_1) (hc0_1 : l0_1.length ≤ c0_1) (h : model_Right.f a0_0 l0_1 = some r) :
    Calls Try.prog 27 #[.agg #[.int .i64 a0_0, .slice A0_1 l0_1.length c0_1]] w fun e w' => e = .returned (.bool r) ∧ Below w.heap.size w w' := by
  have hmf : ∀ (fn : Fn) (first cap : Array Value) (w : World), (Instr.makeFunc fn first cap).run Try.prog w = .ok (.func fn first cap) w := fun _ _ _ _ => rfl
  have hu := Try.underlying24
  unfold model_Right.f at h
  obtain rfl := Option.some.inj h
  have H1 := Aside0.mk hr0_1
  have L1 := Aside0.mk hc0_1
  clear hr0_1 hc0_1 h
  unfold modelOk
  by_cases c0_ : a0_0 ≥ 1
  case neg =>
    rw [if_neg c0_]
    have k0_0 : decide (1 ≤ a0_0) = false := decide_eq_false (by omega); clear c0_
    go_enter Try.func27, Try.ntmps27
    go_wp2
    go_ret
    exact ⟨rfl, below_alloc (Below.refl _ _) _⟩
  rw [if_pos c0_]
  have k0_0 : decide (1 ≤ a0_0) = true := decide_eq_true (by omega); clear c0_
  by_cases c1_ : a0_0 ≤ 8
  case neg =>
    rw [if_neg c1_]
    have k1_0 : decide (a0_0 ≤ 8) = false := decide_eq_false (by omega); clear c1_
    go_enter Try.func27, Try.ntmps27
    go_wp2
    go_ret
    exact ⟨rfl, below_alloc (Below.refl _ _) _⟩
  rw [if_pos c1_]
  have k1_0 : decide (a0_0 ≤ 8) = true := decide_eq_true (by omega); clear c1_
  by_cases c2_ : (l0_1.length : Int) ≥ 1
  case neg =>
    rw [if_neg c2_]
    have k2_0 : decide (1 ≤ (l0_1.length : Int)) = false := decide_eq_false (by omega); have k2_1 : decide (1 ≤ l0_1.length) = false := decide_eq_false (by omega); clear c2_
    go_enter Try.func27, Try.ntmps27
    go_wp2
    go_ret
    exact ⟨rfl, below_alloc (Below.refl _ _) _⟩
  rw [if_pos c2_]
  have k2_0 : decide (1 ≤ (l0_1.length : Int)) = true := decide_eq_true (by omega); have k2_1 : decide (1 ≤ l0_1.length) = true := decide_eq_true (by omega); clear c2_
  by_cases c3_ : (l0_1.length : Int) ≤ 4
  case neg =>
    rw [if_neg c3_]
    have k3_0 : decide ((l0_1.length : Int) ≤ 4) = false := decide_eq_false (by omega); have k3_1 : decide (l0_1.length ≤ 4) = false := decide_eq_false (by omega); clear c3_
    go_enter Try.func27, Try.ntmps27
    go_wp2
    go_ret
    exact ⟨rfl, below_alloc (Below.refl _ _) _⟩
  rw [if_pos c3_]
  have k3_0 : decide ((l0_1.length : Int) ≤ 4) = true := decide_eq_true (by omega); have k3_1 : decide (l0_1.length ≤ 4) = true := decide_eq_true (by omega); clear c3_
  cases hany : l0_1.any (layBad a0_0)
  all_goals
    have HANY := Aside0.mk hany
    clear hany
    go_enter Try.func27, Try.ntmps27
    go_wp2_with (go_at_call 41; refine (has41_calls k31 rfl 42 Try.func42 rfl rfl #[.pointer (some ⟨w.heap.size, 0, none⟩)] (layBad a0_0) A0_1 c0_1 l0_1 _ ?s1 ?s2).mono ?_; (case s1 => exact Kd.C_alloc H1.out _); (case s2 => (intro x v0 v1 v2 W' _ hk hb; obtain ⟨B0, d0, B1, d1, hv, m0, g0, m1, g1⟩ := k31_open hk; obtain ⟨e0_, hv0_⟩ := List.cons.inj hv; obtain ⟨e1_, hv1_⟩ := List.cons.inj hv0_; obtain ⟨e2_, _⟩ := List.cons.inj hv1_; subst e0_; subst e1_; subst e2_; exact model_Right_1.calls B0 d0 B1 d1 x a0_0 w.heap.size W' (Kd.C_below g0 hb) m0 (Kd.C_below g1 hb) m1 ((hb.cell (p := ⟨w.heap.size, 0, none⟩) (by simp)).trans (by rw [World.cell?_alloc_at _ _ _ _ rfl]; rfl)))); rw [HANY.out]; rintro e w1 ⟨rfl, hb⟩; have HB := Aside0.mk hb; clear hb)
    go_ret
    exact ⟨rfl, (below_alloc (Below.refl _ _) _).trans (HB.out.mono (by simp))⟩

/-! ### model_Tokens: function 28 (given by hand) -/
set_option maxHeartbeats 8000000 in
set_option maxRecDepth 100000 in
theorem model_Tokens_1_1.calls (x : Int) (W : World) :
    Calls Try.prog 47 #[.int .i64 x] W fun e w' => e = .returned (.bool (notHeld x)) ∧ Below W.heap.size W w' := by
  unfold notHeld
  by_cases c : holdR x = x
  · have e : decide (¬ holdR x = x) = false := by simp [c]
    rw [e]
    have hq : (holdR x == x) = true := beq_iff_eq.2 c
    have hq2 : (holdR x != x) = false := by rw [bne, hq]; rfl
    clear c e
    go_enter Try.func47, Try.ntmps47
    go_wp2_with (go_at_call 48; refine (fix_Hold.calls x (holdR x) _ (holdR_f _)).mono ?_; rintro e w' ⟨rfl, hb⟩)
    go_ret
    exact ⟨rfl, hb⟩
  · have e : decide (¬ holdR x = x) = true := by simp [c]
    rw [e]
    have hq : (holdR x == x) = false := beq_eq_false_iff_ne.2 c
    have hq2 : (holdR x != x) = true := by rw [bne, hq]; rfl
    clear c e
    go_enter Try.func47, Try.ntmps47
    go_wp2_with (go_at_call 48; refine (fix_Hold.calls x (holdR x) _ (holdR_f _)).mono ?_; rintro e w' ⟨rfl, hb⟩)
    go_ret
    exact ⟨rfl, hb⟩
set_option maxHeartbeats 8000000 in
set_option maxRecDepth 100000 in
theorem model_Tokens_1.calls (A : Option Addr) (c : Nat) (r : List Int) (n : Int) (B : Nat) (W : World) (hr : Kd.C (Kd.int .i64) W A r.length r) (hx : W.cell? ⟨B, 0, none⟩ = some (.int .i64 n)) :
    Calls Try.prog 45 #[.slice A r.length c, .pointer (some ⟨B, 0, none⟩)] W fun e w' => e = .returned (.bool (rowWrong n r)) ∧ Below W.heap.size W w' := by
  have HR := Aside0.mk hr
  have hu2 := Try.underlying24
  clear hr
  unfold rowWrong
  by_cases k : (r.length : Int) = n
  · have e : decide (¬ ((r.length : Int) = n)) = false := by simp [k]
    rw [e, Bool.false_or]
    have hq : ((r.length : Int) == n) = true := beq_iff_eq.2 k
    have hq2 : ((r.length : Int) != n) = false := by rw [bne, hq]; rfl
    clear k e
    go_enter Try.func45, Try.ntmps45
    go_wp2_with (go_at_call 46; refine (has46_calls (Kd.int .i64) rfl 47 Try.func47 rfl rfl #[] notHeld A c r _ HR.out ?s2).mono ?_; (case s2 => (intro x v W' _ hk _; obtain rfl : v = .int .i64 x := (List.cons.inj hk).1; exact model_Tokens_1_1.calls x W')); rintro e w1 ⟨rfl, hb⟩; have HB := Aside0.mk hb; clear hb)
    go_ret
    exact ⟨rfl, HB.out⟩
  · have e : decide (¬ ((r.length : Int) = n)) = true := by simp [k]
    rw [e, Bool.true_or]
    have hq : ((r.length : Int) == n) = false := beq_eq_false_iff_ne.2 k
    have hq2 : ((r.length : Int) != n) = true := by rw [bne, hq]; rfl
    clear k e
    go_enter Try.func45, Try.ntmps45
    go_wp2
    go_ret
    exact ⟨rfl, Below.refl _ _⟩
/-- Are tokens right? -/
def tokOk (n : Int) (l : List (List Int)) : Bool := if (l.length : Int) ≥ 1 then (if (l.length : Int) ≤ 16 then !(l.any (rowWrong n)) else false) else false
def model_Tokens.f (a0_0 : Int) (l0_1 : List S31) (l1 : List (List Int)) : Option Bool := some (tokOk a0_0 l1)
set_option maxHeartbeats 8000000 in
set_option maxRecDepth 100000 in
theorem model_Tokens.calls (a0_0 : Int) (A0_1 : Option Addr) (c0_1 : Nat) (l0_1 : List S31) (A1 : Option Addr) (c1 : Nat) (l1 : List (List Int)) (r : Bool) (w : World) (hr0_1 : Kd.C k31 w A0_1 l0_1.length l0_1) (hc0_1 : l0_1.length ≤ c0_1) (hr1 : Kd.C (Kd.slice 3 (Kd.int .i64)) w A1 l1.length l1) (hc1 : l1.length ≤ c1) (h : model_Tokens.f a0_0 l0_1 l1 = some r) :
    Calls Try.prog 28 #[.agg #[.int .i64 a0_0, .slice A0_1 l0_1.length c0_1], .slice A1 l1.length c1] w fun e w' => e = .returned (.bool r) ∧ Below w.heap.size w w' := by
  have hmf : ∀ (fn : Fn) (first cap : Array Value) (w : World), (Instr.makeFunc fn first cap).run Try.prog w = .ok (.func fn first cap) w := fun _ _ _ _ => rfl
  have hu := Try.underlying24
  unfold model_Tokens.f at h
  obtain rfl := Option.some.inj h
  have H1 := Aside0.mk hr1
  have L1 := Aside0.mk hc1
  clear hr0_1 hc0_1 hr1 hc1 h
  unfold tokOk
  by_cases c0_ : (l1.length : Int) ≥ 1
  case neg =>
    rw [if_neg c0_]
    have k0_0 : decide (1 ≤ (l1.length : Int)) = false := decide_eq_false (by omega); have k0_1 : decide (1 ≤ l1.length) = false := decide_eq_false (by omega); clear c0_
    go_enter Try.func28, Try.ntmps28
    go_wp2
    go_ret
    exact ⟨rfl, below_alloc (Below.refl _ _) _⟩
  rw [if_pos c0_]
  have k0_0 : decide (1 ≤ (l1.length : Int)) = true := decide_eq_true (by omega); have k0_1 : decide (1 ≤ l1.length) = true := decide_eq_true (by omega); clear c0_
  by_cases c1_ : (l1.length : Int) ≤ 16
  case neg =>
    rw [if_neg c1_]
    have k1_0 : decide ((l1.length : Int) ≤ 16) = false := decide_eq_false (by omega); have k1_1 : decide (l1.length ≤ 16) = false := decide_eq_false (by omega); clear c1_
    go_enter Try.func28, Try.ntmps28
    go_wp2
    go_ret
    exact ⟨rfl, below_alloc (Below.refl _ _) _⟩
  rw [if_pos c1_]
  have k1_0 : decide ((l1.length : Int) ≤ 16) = true := decide_eq_true (by omega); have k1_1 : decide (l1.length ≤ 16) = true := decide_eq_true (by omega); clear c1_
  cases hany : l1.any (rowWrong a0_0)
  all_goals
    have HANY := Aside0.mk hany
    clear hany
    go_enter Try.func28, Try.ntmps28
    go_wp2_with (go_at_call 44; refine (has44_calls (Kd.slice 3 (Kd.int .i64)) rfl 45 Try.func45 rfl rfl #[.pointer (some ⟨w.heap.size, 0, none⟩)] (rowWrong a0_0) A1 c1 l1 _ ?s1 ?s2).mono ?_; (case s1 => exact Kd.C_alloc H1.out _); (case s2 => (intro x v W' _ hk hb; obtain ⟨A, c, hv, _, hc⟩ := hk; obtain rfl : v = .slice A x.length c := (List.cons.inj hv).1; exact model_Tokens_1.calls A c x a0_0 w.heap.size W' (Kd.C_below hc hb) ((hb.cell (p := ⟨w.heap.size, 0, none⟩) (by simp)).trans (by rw [World.cell?_alloc_at _ _ _ _ rfl]; rfl)))); rw [HANY.out]; rintro e w1 ⟨rfl, hb⟩; have HB := Aside0.mk hb; clear hb)
    go_ret
    exact ⟨rfl, (below_alloc (Below.refl _ _) _).trans (HB.out.mono (by simp))⟩

/-! ### fix_Add: function 80 -/
def fix_Add.f (a0 : Int) (a1 : Int) : Option (Int) := (fix_Hold.f a0).bind fun t113 => ((fix_Hold.f a1).bind fun t114 => ((fix_Hold.f (wrap64 (t113 + t114))).bind fun t115 => (some t115)))
set_option maxHeartbeats 8000000 in
set_option maxRecDepth 100000 in
theorem fix_Add.calls (a0 : Int) (a1 : Int) (r : Int) (w : World) (h : fix_Add.f a0 a1 = some r) :
    Calls Try.prog 80 #[.int .i64 a0, .int .i64 a1] w fun e w' => e = .returned (.int .i64 r) ∧ Below w.heap.size w w' := by
  have HB := Aside0.mk (Below.refl w.heap.size w)
  have H : ((fix_Hold.f a0).bind fun t113 => ((fix_Hold.f a1).bind fun t114 => ((fix_Hold.f (wrap64 (t113 + t114))).bind fun t115 => (some t115)))) = some r := h
  clear h
  replace H := Option.bind_eq_some_iff.mp H
  obtain ⟨t113, A30, H⟩ := H
  replace H : ((fix_Hold.f a1).bind fun t114 => ((fix_Hold.f (wrap64 (t113 + t114))).bind fun t115 => (some t115))) = some r := H
  have A3 := Aside0.mk A30
  clear A30
  replace H := Option.bind_eq_some_iff.mp H
  obtain ⟨t114, A40, H⟩ := H
  replace H : ((fix_Hold.f (wrap64 (t113 + t114))).bind fun t115 => (some t115)) = some r := H
  have A4 := Aside0.mk A40
  clear A40
  replace H := Option.bind_eq_some_iff.mp H
  obtain ⟨t115, A50, H⟩ := H
  replace H : (some t115) = some r := H
  have A5 := Aside0.mk A50
  clear A50
  obtain rfl := Option.some.inj H
  go_enter Try.func80, Try.ntmps80
  go_wp2_with (first | ((with_reducible refine gate_callee (f := 48) rfl ?_); refine goesL_ (some 6) rfl rfl Try.func48 (by kernel_rfl) rfl #[.int .i64 a0] rfl (by (try simp only [List.map_toArray, List.map_cons, List.map_nil]); first | done | rfl | (simp only [List.length_drop, List.length_take]; rfl)) ?_; (with_reducible refine (fix_Hold.calls a0 t113 _ A3.out).mono ?_); rintro e w6 ⟨rfl, hb⟩; refine ⟨_, rfl, ?_⟩; have n0_ := Aside0.mk (below_step (by repeat (first | (with_reducible first | exact HB.out | apply below_alloc | apply pw_below_drewN | apply below_drew1) | exact HB.out)) hb); clear HB; have HB := n0_; clear n0_; (try clear hb); (try clear hb2); (try clear hk); (try clear hi)) | ((with_reducible refine gate_callee (f := 48) rfl ?_); refine goesL_ (some 8) rfl rfl Try.func48 (by kernel_rfl) rfl #[.int .i64 a1] rfl (by (try simp only [List.map_toArray, List.map_cons, List.map_nil]); first | done | rfl | (simp only [List.length_drop, List.length_take]; rfl)) ?_; (with_reducible refine (fix_Hold.calls a1 t114 _ A4.out).mono ?_); rintro e w7 ⟨rfl, hb⟩; refine ⟨_, rfl, ?_⟩; have n0_ := Aside0.mk (below_step (by repeat (first | (with_reducible first | exact HB.out | apply below_alloc | apply pw_below_drewN | apply below_drew1) | exact HB.out)) hb); clear HB; have HB := n0_; clear n0_; (try clear hb); (try clear hb2); (try clear hk); (try clear hi)) | ((with_reducible refine gate_callee (f := 48) rfl ?_); refine goesL_ (some 10) rfl rfl Try.func48 (by kernel_rfl) rfl #[.int .i64 (wrap64 (t113 + t114))] rfl (by (try simp only [List.map_toArray, List.map_cons, List.map_nil]); first | done | rfl | (simp only [List.length_drop, List.length_take]; rfl)) ?_; (with_reducible refine (fix_Hold.calls (wrap64 (t113 + t114)) t115 _ A5.out).mono ?_); rintro e w8 ⟨rfl, hb⟩; refine ⟨_, rfl, ?_⟩; have n0_ := Aside0.mk (below_step (by repeat (first | (with_reducible first | exact HB.out | apply below_alloc | apply pw_below_drewN | apply below_drew1) | exact HB.out)) hb); clear HB; have HB := n0_; clear n0_; (try clear hb); (try clear hb2); (try clear hk); (try clear hi)))
  go_ret
  exact ⟨by first | rfl | (simp [errW_none, errW_some] <;> rfl) | (simp [*, errW_none, errW_some] <;> rfl), by repeat (first | (with_reducible first | exact HB.out | apply below_alloc | apply pw_below_drewN | apply below_drew1) | exact HB.out)⟩

/-! ### fix_Mul: function 82 -/
def fix_Mul.f (a0 : Int) (a1 : Int) : Option (Int) := (fix_Hold.f a0).bind fun t116 => ((fix_Hold.f a1).bind fun t117 => ((fix_Hold.f (wrap64 (Int.tdiv (wrap64 (t116 * t117)) 65536))).bind fun t118 => (some t118)))
set_option maxHeartbeats 8000000 in
set_option maxRecDepth 100000 in
theorem fix_Mul.calls (a0 : Int) (a1 : Int) (r : Int) (w : World) (h : fix_Mul.f a0 a1 = some r) :
    Calls Try.prog 82 #[.int .i64 a0, .int .i64 a1] w fun e w' => e = .returned (.int .i64 r) ∧ Below w.heap.size w w' := by
  have HB := Aside0.mk (Below.refl w.heap.size w)
  have H : ((fix_Hold.f a0).bind fun t116 => ((fix_Hold.f a1).bind fun t117 => ((fix_Hold.f (wrap64 (Int.tdiv (wrap64 (t116 * t117)) 65536))).bind fun t118 => (some t118)))) = some r := h
  clear h
  replace H := Option.bind_eq_some_iff.mp H
  obtain ⟨t116, A30, H⟩ := H
  replace H : ((fix_Hold.f a1).bind fun t117 => ((fix_Hold.f (wrap64 (Int.tdiv (wrap64 (t116 * t117)) 65536))).bind fun t118 => (some t118))) = some r := H
  have A3 := Aside0.mk A30
  clear A30
  replace H := Option.bind_eq_some_iff.mp H
  obtain ⟨t117, A40, H⟩ := H
  replace H : ((fix_Hold.f (wrap64 (Int.tdiv (wrap64 (t116 * t117)) 65536))).bind fun t118 => (some t118)) = some r := H
  have A4 := Aside0.mk A40
  clear A40
  replace H := Option.bind_eq_some_iff.mp H
  obtain ⟨t118, A50, H⟩ := H
  replace H : (some t118) = some r := H
  have A5 := Aside0.mk A50
  clear A50
  obtain rfl := Option.some.inj H
  go_enter Try.func82, Try.ntmps82
  go_wp2_with (first | ((with_reducible refine gate_callee (f := 48) rfl ?_); refine goesL_ (some 6) rfl rfl Try.func48 (by kernel_rfl) rfl #[.int .i64 a0] rfl (by (try simp only [List.map_toArray, List.map_cons, List.map_nil]); first | done | rfl | (simp only [List.length_drop, List.length_take]; rfl)) ?_; (with_reducible refine (fix_Hold.calls a0 t116 _ A3.out).mono ?_); rintro e w6 ⟨rfl, hb⟩; refine ⟨_, rfl, ?_⟩; have n0_ := Aside0.mk (below_step (by repeat (first | (with_reducible first | exact HB.out | apply below_alloc | apply pw_below_drewN | apply below_drew1) | exact HB.out)) hb); clear HB; have HB := n0_; clear n0_; (try clear hb); (try clear hb2); (try clear hk); (try clear hi)) | ((with_reducible refine gate_callee (f := 48) rfl ?_); refine goesL_ (some 8) rfl rfl Try.func48 (by kernel_rfl) rfl #[.int .i64 a1] rfl (by (try simp only [List.map_toArray, List.map_cons, List.map_nil]); first | done | rfl | (simp only [List.length_drop, List.length_take]; rfl)) ?_; (with_reducible refine (fix_Hold.calls a1 t117 _ A4.out).mono ?_); rintro e w7 ⟨rfl, hb⟩; refine ⟨_, rfl, ?_⟩; have n0_ := Aside0.mk (below_step (by repeat (first | (with_reducible first | exact HB.out | apply below_alloc | apply pw_below_drewN | apply below_drew1) | exact HB.out)) hb); clear HB; have HB := n0_; clear n0_; (try clear hb); (try clear hb2); (try clear hk); (try clear hi)) | ((with_reducible refine gate_callee (f := 48) rfl ?_); refine goesL_ (some 11) rfl rfl Try.func48 (by kernel_rfl) rfl #[.int .i64 (wrap64 (Int.tdiv (wrap64 (t116 * t117)) 65536))] rfl (by (try simp only [List.map_toArray, List.map_cons, List.map_nil]); first | done | rfl | (simp only [List.length_drop, List.length_take]; rfl)) ?_; (with_reducible refine (fix_Hold.calls (wrap64 (Int.tdiv (wrap64 (t116 * t117)) 65536)) t118 _ A5.out).mono ?_); rintro e w8 ⟨rfl, hb⟩; refine ⟨_, rfl, ?_⟩; have n0_ := Aside0.mk (below_step (by repeat (first | (with_reducible first | exact HB.out | apply below_alloc | apply pw_below_drewN | apply below_drew1) | exact HB.out)) hb); clear HB; have HB := n0_; clear n0_; (try clear hb); (try clear hb2); (try clear hk); (try clear hi)))
  go_ret
  exact ⟨by first | rfl | (simp [errW_none, errW_some] <;> rfl) | (simp [*, errW_none, errW_some] <;> rfl), by repeat (first | (with_reducible first | exact HB.out | apply below_alloc | apply pw_below_drewN | apply below_drew1) | exact HB.out)⟩

end Go.Proofs.Ytfipiohchnaglaa.Pu
