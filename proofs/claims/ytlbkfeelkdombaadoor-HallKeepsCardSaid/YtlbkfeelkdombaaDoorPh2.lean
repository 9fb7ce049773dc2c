-- Laid by wip/xprint.py, a program of this session that runs the kit's print with some contracts given by hand; not a text of print.sh. Lean checks it.
import Derived.Test.YtlbkfeelkdombaaDoorPh0
import Derived.Test.YtlbkfeelkdombaaDoorPh1
namespace Go.Proofs.YtlbkfeelkdombaaDoor.Ph
open Go.RowKit Go.Proofs.YtlbkfeelkdombaaDoorW.PrintWords Go.Proofs.YtlbkfeelkdombaaDoorW.PrintLast Go.Proofs.YtlbkfeelkdombaaDoorW.PrintMore
attribute [local go_sem] max2_int min2_int max_two min_two max_three min_three max_four min_four   -- for this text's walks alone
set_option linter.unusedVariables false
set_option linter.unusedSimpArgs false

/-! ### mat_Right: function 54 (given by hand) -/
def holdR (x : Int) : Int := mx (-2147483647) (mn 2147483647 x)
def notHeld (x : Int) : Bool := decide (¬ holdR x = x)
def rowWrong (n : Int) (r : List Int) : Bool := decide (¬ ((r.length : Int) = n)) || r.any notHeld
theorem holdR_f (x : Int) : fix_Hold.f x = some (holdR x) := rfl
set_option maxHeartbeats 8000000 in
set_option maxRecDepth 100000 in
theorem mat_Right_1_1.calls (x : Int) (W : World) :
    Calls Tryd.prog 61 #[.int .i64 x] W fun e w' => e = .returned (.bool (notHeld x)) ∧ Below W.heap.size W w' := by
  unfold notHeld
  by_cases c : holdR x = x
  · have e : decide (¬ holdR x = x) = false := by simp [c]
    rw [e]
    have hq : (holdR x == x) = true := beq_iff_eq.2 c
    have hq2 : (holdR x != x) = false := by rw [bne, hq]; rfl
    clear c e
    go_enter Tryd.func61, Tryd.ntmps61
    go_wp2_with (go_at_call 50; refine (fix_Hold.calls x (holdR x) _ (holdR_f _)).mono ?_; rintro e w' ⟨rfl, hb⟩)
    go_ret
    exact ⟨rfl, hb⟩
  · have e : decide (¬ holdR x = x) = true := by simp [c]
    rw [e]
    have hq : (holdR x == x) = false := beq_eq_false_iff_ne.2 c
    have hq2 : (holdR x != x) = true := by rw [bne, hq]; rfl
    clear c e
    go_enter Tryd.func61, Tryd.ntmps61
    go_wp2_with (go_at_call 50; refine (fix_Hold.calls x (holdR x) _ (holdR_f _)).mono ?_; rintro e w' ⟨rfl, hb⟩)
    go_ret
    exact ⟨rfl, hb⟩
set_option maxHeartbeats 8000000 in
set_option maxRecDepth 100000 in
theorem mat_Right_1.calls (A : Option Addr) (c : Nat) (r : List Int) (n : Int) (B : Nat) (W : World) (hr : Kd.C (Kd.int .i64) W A r.length r) (hx : W.cell? ⟨B, 0, none⟩ = some (.int .i64 n)) :
    Calls Tryd.prog 60 #[.slice A r.length c, .pointer (some ⟨B, 0, none⟩)] W fun e w' => e = .returned (.bool (rowWrong n r)) ∧ Below W.heap.size W w' := by
  have HR := Aside0.mk hr
  clear hr
  unfold rowWrong
  by_cases k : (r.length : Int) = n
  · have e : decide (¬ ((r.length : Int) = n)) = false := by simp [k]
    rw [e, Bool.false_or]
    have hq : ((r.length : Int) == n) = true := beq_iff_eq.2 k
    have hq2 : ((r.length : Int) != n) = false := by rw [bne, hq]; rfl
    clear k e
    go_enter Tryd.func60, Tryd.ntmps60
    go_wp2_with (go_at_call 48; refine (has48_calls (Kd.int .i64) rfl 61 Tryd.func61 rfl rfl #[] notHeld A c r _ HR.out ?s2).mono ?_; (case s2 => (intro x v W' _ hk _; obtain rfl : v = .int .i64 x := (List.cons.inj hk).1; exact mat_Right_1_1.calls x W')); rintro e w1 ⟨rfl, hb⟩; have HB := Aside0.mk hb; clear hb)
    go_ret
    exact ⟨rfl, HB.out⟩
  · have e : decide (¬ ((r.length : Int) = n)) = true := by simp [k]
    rw [e, Bool.true_or]
    have hq : ((r.length : Int) == n) = false := beq_eq_false_iff_ne.2 k
    have hq2 : ((r.length : Int) != n) = true := by rw [bne, hq]; rfl
    clear k e
    go_enter Tryd.func60, Tryd.ntmps60
    go_wp2
    go_ret
    exact ⟨rfl, Below.refl _ _⟩
def mat_Right.f (l0 : List (List Int)) (a1 : Int) (a2 : Int) : Option Bool := some (decide ((l0.length : Int) = a1) && !(l0.any (rowWrong a2)))
set_option maxHeartbeats 8000000 in
set_option maxRecDepth 100000 in
theorem mat_Right.calls (A0 : Option Addr) (c0 : Nat) (l0 : List (List Int)) (a1 : Int) (a2 : Int) (r : Bool) (w : World) (hr0 : Kd.C (Kd.slice 3 (Kd.int .i64)) w A0 l0.length l0) (hc0 : l0.length ≤ c0) (h : mat_Right.f l0 a1 a2 = some r) :
    Calls Tryd.prog 54 #[.slice A0 l0.length c0, .int .i64 a1, .int .i64 a2] w fun e w' => e = .returned (.bool r) ∧ Below w.heap.size w w' := by
  have hmf : ∀ (fn : Fn) (first cap : Array Value) (w : World), (Instr.makeFunc fn first cap).run Tryd.prog w = .ok (.func fn first cap) w := fun _ _ _ _ => rfl
  unfold mat_Right.f at h
  simp only [Option.some.injEq] at h
  subst h
  have HR0 := Aside0.mk hr0
  have HC0 := Aside0.mk hc0
  clear hr0 hc0
  by_cases k : (l0.length : Int) = a1
  · have e : decide ((l0.length : Int) = a1) = true := decide_eq_true k
    rw [e, Bool.true_and]
    have hq : ((l0.length : Int) == a1) = true := beq_iff_eq.2 k
    clear k e
    go_enter Tryd.func54, Tryd.ntmps54
    go_wp2_with (go_at_call 46; refine (has46_calls (Kd.slice 3 (Kd.int .i64)) rfl 60 Tryd.func60 rfl rfl #[.pointer (some ⟨w.heap.size, 0, none⟩)] (rowWrong a2) A0 c0 l0 _ ?s1 ?s2).mono ?_; (case s1 => exact Kd.C_alloc HR0.out _); (case s2 => (intro x v W' _ hk hb; obtain ⟨A, c, hv, _, hc⟩ := hk; obtain rfl : v = .slice A x.length c := (List.cons.inj hv).1; exact mat_Right_1.calls A c x a2 w.heap.size W' (Kd.C_below hc hb) ((hb.cell (p := ⟨w.heap.size, 0, none⟩) (by simp)).trans (by rw [World.cell?_alloc_at _ _ _ _ rfl]; rfl)))); rintro e w1 ⟨rfl, hb⟩; have HB := Aside0.mk hb; clear hb)
    go_ret
    exact ⟨rfl, (below_alloc (Below.refl _ _) _).trans (HB.out.mono (by simp))⟩
  · have e : decide ((l0.length : Int) = a1) = false := decide_eq_false k
    rw [e, Bool.false_and]
    have hq : ((l0.length : Int) == a1) = false := beq_eq_false_iff_ne.2 k
    clear k e
    go_enter Tryd.func54, Tryd.ntmps54
    go_wp2
    go_ret
    exact ⟨rfl, below_alloc (Below.refl _ _) _⟩

/-! ### api_Expert_62: function 62 (given by hand) -/
/-- The place of the first element for which p holds, counted from i on; -1: there is none. -/
def idxFrom62 {α : Type} (p : α → Bool) : List α → Nat → Int
  | [], _ => -1
  | x :: r, i => if p x = true then (i : Int) else idxFrom62 p r (i + 1)
theorem drop_at62 {α : Type} (l : List α) (k : Nat) (h : k < l.length) : l.drop k = l[k] :: l.drop (k + 1) := List.drop_eq_getElem_cons h
set_option maxHeartbeats 8000000 in
set_option maxRecDepth 100000 in
theorem idx62_calls {α : Type} (d : Kd α) (hsz : d.sz = 2) (g : Nat) {fn : Func} (hfn : Tryd.prog.funcs[g]? = some fn) (hname : (fn.name == "runtime.NumGoroutine") = false) (hbody : fn.body.isSome = true) (lb : Array Value) (p : α → Bool)
    (A0 : Option Addr) (c0 : Nat) (l0 : List α) (w : World) (hr0 : Kd.C d w A0 l0.length l0)
    (hP : ∀ (x : α) (v0 v1 : Value) (W : World), x ∈ l0 → d.K w x [v0, v1] → Below w.heap.size w W → Calls Tryd.prog g (#[.agg #[v0, v1]] ++ lb) W fun e w' => e = .returned (.bool (p x)) ∧ Below W.heap.size W w') :
    Calls Tryd.prog 62 #[.slice A0 l0.length c0, .func (.func g) #[] lb] w fun e w' => e = .returned (.int .i64 (idxFrom62 p l0 0)) ∧ Below w.heap.size w w' := by
  have HR0 := Aside0.mk hr0
  have HP := Aside0.mk hP
  clear hr0 hP
  have HB := Aside0.mk (Below.refl w.heap.size w)
  have hmax : l0.length ≤ 9223372036854775807 := HR0.out.2.1
  have eg : ∀ (args : Array Value) (w : World), (callFunc g args).run Tryd.prog w = .ok (.enter g args) w := fun args w => enters_ hfn hname hbody args w
  go_enter Tryd.func62, Tryd.ntmps62
  go_wp2
  go_loopw [8] (fun v8 w' => ∃ k : Nat, Aside0 (k ≤ l0.length) ∧ v8 = .int .i64 (k : Int) ∧ Aside0 (idxFrom62 p (l0.drop k) k = idxFrom62 p l0 0) ∧ Aside0 (Below w.heap.size w w')) (fun v8 _ => l0.length - (intOf v8).toNat)
  case atStart => exact ⟨0, ⟨Nat.zero_le _⟩, rfl, ⟨rfl⟩, HB⟩
  case round =>
    obtain ⟨k, HK, rfl, HI, HB⟩ := hrel
    by_cases hlt : k < l0.length
    · obtain ⟨ad, cs, hA, hcl, hKx, hcell⟩ := Kd.C_get HR0.out l0[k] (k : Int) (by omega) (by omega)
      cases hA
      have hget : l0.getD (k : Int).toNat l0[k] = l0[k] := by
        rw [Int.toNat_natCast, List.getD_eq_getElem?_getD, List.getElem?_eq_getElem hlt]
        rfl
      rw [hget] at hKx
      rw [hsz] at hcl
      obtain ⟨v0, v1, rfl⟩ : ∃ v0 v1, cs = [v0, v1] := by
        match cs, hcl with
        | [v0, v1], _ => exact ⟨v0, v1, rfl⟩
      have hx0 := hcell 0 v0 rfl
      rw [Int.toNat_natCast, hsz, Nat.add_zero] at hx0
      have hx1 := hcell 1 v1 rfl
      rw [Int.toNat_natCast, hsz, add_field _ _ 1 (by omega)] at hx1
      clear hcell
      replace hx0 := (HB.out.cell (World.block_lt_of_cell? w _ hx0)).trans hx0
      replace hx1 := (HB.out.cell (World.block_lt_of_cell? w _ hx1)).trans hx1
      have hc : decide (k < l0.length) = true := decide_eq_true hlt
      have HC := Aside0.mk (fun W => HP.out l0[k] v0 v1 W (List.getElem_mem hlt) hKx)
      have HD := Aside0.mk (drop_at62 l0 k hlt)
      clear hKx hget hcl
      cases hp : p l0[k]
      · have HC1 : Aside0 (∀ W : World, Below w.heap.size w W → Calls Tryd.prog g (#[.agg #[v0, v1]] ++ lb) W fun e w' => e = .returned (.bool false) ∧ Below W.heap.size W w') := ⟨fun W hW => by have := HC.out W hW; rwa [hp] at this⟩
        have HN : Aside0 (idxFrom62 p (l0.drop (k + 1)) (k + 1) = idxFrom62 p l0 0) := ⟨by have := HI.out; rw [HD.out] at this; simp only [idxFrom62, hp] at this; exact this⟩
        clear HC HI HD hp
        go_wp2_with (go_at_fn g; refine (HC1.out _ ?cb).mono ?_; (case cb => exact HB.out); rintro e w' ⟨rfl, hb0⟩; have n1_ := Aside0.mk (below_step HB.out hb0); clear hb0; clear HB; have HB := n1_; clear n1_)
        go_roundw
        case rel => exact ⟨k + 1, ⟨by omega⟩, by go_num, HN, HB⟩
        case measure => simp [intOf]; omega
      · have HC1 : Aside0 (∀ W : World, Below w.heap.size w W → Calls Tryd.prog g (#[.agg #[v0, v1]] ++ lb) W fun e w' => e = .returned (.bool true) ∧ Below W.heap.size W w') := ⟨fun W hW => by have := HC.out W hW; rwa [hp] at this⟩
        have HN : Aside0 (((k : Nat) : Int) = idxFrom62 p l0 0) := ⟨by have := HI.out; rw [HD.out] at this; simp only [idxFrom62, hp] at this; exact this⟩
        clear HC HI HD hp
        go_wp2_with (go_at_fn g; refine (HC1.out _ ?cb).mono ?_; (case cb => exact HB.out); rintro e w' ⟨rfl, hb0⟩; have n1_ := Aside0.mk (below_step HB.out hb0); clear hb0; clear HB; have HB := n1_; clear n1_)
        go_ret
        exact ⟨by rw [← HN.out]; rfl, HB.out⟩
    · have hc : decide (k < l0.length) = false := decide_eq_false hlt
      have hk : k = l0.length := by have := HK.out; omega
      have HN : Aside0 ((-1 : Int) = idxFrom62 p l0 0) := ⟨by have := HI.out; rw [hk, List.drop_length] at this; exact this⟩
      clear hk
      go_wp2
      go_ret
      exact ⟨by rw [← HN.out]; rfl, HB.out⟩

/-! ### api_Expert_55: function 55 (given by hand) -/
theorem idxFrom62_iff {α : Type} (p : α → Bool) : ∀ (l : List α) (i : Nat), 0 ≤ idxFrom62 p l i ↔ l.any p = true := by
  intro l
  induction l with
  | nil => intro i; simp [idxFrom62]
  | cons x r ih =>
    intro i
    by_cases h : p x = true
    · have e : idxFrom62 p (x :: r) i = (i : Int) := by simp only [idxFrom62]; rw [if_pos h]
      rw [e]
      simp [h]
    · have e : idxFrom62 p (x :: r) i = idxFrom62 p r (i + 1) := by simp only [idxFrom62]; rw [if_neg h]
      rw [e, ih, List.any_cons, Bool.eq_false_iff.mpr h, Bool.false_or]
theorem idxFrom62_any {α : Type} (p : α → Bool) (l : List α) (i : Nat) : decide (0 ≤ idxFrom62 p l i) = l.any p := by
  rw [Bool.eq_iff_iff, decide_eq_true_iff]
  exact idxFrom62_iff p l i
set_option maxHeartbeats 8000000 in
set_option maxRecDepth 100000 in
theorem has55_calls {α : Type} (d : Kd α) (hsz : d.sz = 2) (g : Nat) {fn : Func} (hfn : Tryd.prog.funcs[g]? = some fn) (hname : (fn.name == "runtime.NumGoroutine") = false) (hbody : fn.body.isSome = true) (lb : Array Value) (p : α → Bool)
    (A0 : Option Addr) (c0 : Nat) (l0 : List α) (w : World) (hr0 : Kd.C d w A0 l0.length l0)
    (hP : ∀ (x : α) (v0 v1 : Value) (W : World), x ∈ l0 → d.K w x [v0, v1] → Below w.heap.size w W → Calls Tryd.prog g (#[.agg #[v0, v1]] ++ lb) W fun e w' => e = .returned (.bool (p x)) ∧ Below W.heap.size W w') :
    Calls Tryd.prog 55 #[.slice A0 l0.length c0, .func (.func g) #[] lb] w fun e w' => e = .returned (.bool (l0.any p)) ∧ Below w.heap.size w w' := by
  have HR0 := Aside0.mk hr0
  have HP := Aside0.mk hP
  clear hr0 hP
  have hd := idxFrom62_any p l0 0
  rw [← hd]
  clear hd
  generalize hi : idxFrom62 p l0 0 = i
  have HI := Aside0.mk hi
  clear hi
  cases hb : decide (0 ≤ i)
  · have hb' : decide (i ≥ 0) = false := hb
    go_enter Tryd.func55, Tryd.ntmps55
    go_wp2_with (go_at_call 62; refine (idx62_calls d hsz g hfn hname hbody lb p A0 c0 l0 _ HR0.out HP.out).mono ?_; rw [HI.out]; rintro e w' ⟨rfl, hbl⟩; have HB := Aside0.mk hbl; clear hbl)
    go_ret
    exact ⟨rfl, HB.out⟩
  · have hb' : decide (i ≥ 0) = true := hb
    go_enter Tryd.func55, Tryd.ntmps55
    go_wp2_with (go_at_call 62; refine (idx62_calls d hsz g hfn hname hbody lb p A0 c0 l0 _ HR0.out HP.out).mono ?_; rw [HI.out]; rintro e w' ⟨rfl, hbl⟩; have HB := Aside0.mk hbl; clear hbl)
    go_ret
    exact ⟨rfl, HB.out⟩

/-! ### expert_Right: function 57 -/
def expert_Right.f (l0_0 : List (List Int)) (l0_1 : List (List Int)) (a1 : Int) : Option (Bool) := if a1 ≥ 1 then (if a1 ≤ 8 then (if (l0_0.length : Int) ≥ 1 then (if (l0_0.length : Int) ≤ 8 then ((mat_Right.f l0_0 (l0_0.length : Int) a1).bind fun t140 => (if t140 = true then ((mat_Right.f l0_1 a1 (l0_0.length : Int)).bind fun t141 => (some t141)) else (some false))) else (some false)) else (some false)) else (some false)) else (some false)
set_option maxHeartbeats 8000000 in
set_option maxRecDepth 100000 in
theorem expert_Right.calls (A0_0 : Option Addr) (c0_0 : Nat) (l0_0 : List (List Int)) (A0_1 : Option Addr) (c0_1 : Nat) (l0_1 : List (List Int)) (a1 : Int) (r : Bool) (w : World) (hr0_0 : Kd.C (Kd.slice 3 (Kd.int .i64)) w A0_0 l0_0.length l0_0) (hc0_0 : l0_0.length ≤ c0_0) (hr0_1 : Kd.C (Kd.slice 3 (Kd.int .i64)) w A0_1 l0_1.length l0_1) (hc0_1 : l0_1.length ≤ c0_1) (h : expert_Right.f l0_0 l0_1 a1 = some r) :
    Calls Tryd.prog 57 #[.agg #[.slice A0_0 l0_0.length c0_0, .slice A0_1 l0_1.length c0_1], .int .i64 a1] w fun e w' => e = .returned (.bool r) ∧ Below w.heap.size w w' := by
  have hu70 := Tryd.underlying70
  have HR0_0 := Aside0.mk hr0_0
  have HC0_0 := Aside0.mk hc0_0
  clear hr0_0 hc0_0
  have HR0_1 := Aside0.mk hr0_1
  have HC0_1 := Aside0.mk hc0_1
  clear hr0_1 hc0_1
  have HB := Aside0.mk (Below.refl w.heap.size w)
  have H : (if a1 ≥ 1 then (if a1 ≤ 8 then (if (l0_0.length : Int) ≥ 1 then (if (l0_0.length : Int) ≤ 8 then ((mat_Right.f l0_0 (l0_0.length : Int) a1).bind fun t140 => (if t140 = true then ((mat_Right.f l0_1 a1 (l0_0.length : Int)).bind fun t141 => (some t141)) else (some false))) else (some false)) else (some false)) else (some false)) else (some false)) = some r := h
  clear h
  by_cases c3 : a1 ≥ 1
  · rw [if_pos c3] at H
    have c3b0 : decide (1 ≤ a1) = true := decide_eq_true c3
    clear c3
    by_cases c4 : a1 ≤ 8
    · rw [if_pos c4] at H
      have c4b0 : decide (a1 ≤ 8) = true := decide_eq_true c4
      clear c4
      by_cases c5 : (l0_0.length : Int) ≥ 1
      · rw [if_pos c5] at H
        have c5b0 : decide (1 ≤ (l0_0.length : Int)) = true := decide_eq_true c5
        have c5b1 : decide (1 ≤ l0_0.length) = true := decide_eq_true (by omega)
        clear c5
        by_cases c6 : (l0_0.length : Int) ≤ 8
        · rw [if_pos c6] at H
          have c6b0 : decide ((l0_0.length : Int) ≤ 8) = true := decide_eq_true c6
          have c6b1 : decide (l0_0.length ≤ 8) = true := decide_eq_true (by omega)
          clear c6
          replace H := Option.bind_eq_some_iff.mp H
          obtain ⟨t140, A70, H⟩ := H
          replace H : (if t140 = true then ((mat_Right.f l0_1 a1 (l0_0.length : Int)).bind fun t141 => (some t141)) else (some false)) = some r := H
          have A7 := Aside0.mk A70
          clear A70
          by_cases c8 : t140 = true
          · subst c8
            have H1 : ((mat_Right.f l0_1 a1 (l0_0.length : Int)).bind fun t141 => (some t141)) = some r := by rw [if_pos rfl] at H; exact H
            clear H
            have H := H1
            clear H1
            replace H := Option.bind_eq_some_iff.mp H
            obtain ⟨t141, A90, H⟩ := H
            replace H : (some t141) = some r := H
            have A9 := Aside0.mk A90
            clear A90
            obtain rfl := Option.some.inj H
            go_enter Tryd.func57, Tryd.ntmps57
            go_wp2_with (first | ((with_reducible refine gate_dst (N := 2) rfl ?_); refine box_event ?hg (N := 2) ?hd (cs := #[.slice A0_0 l0_0.length c0_0, .slice A0_1 l0_1.length c0_1]) (t := 70) ?hr ?_; (case hd => rfl); (case hg => rfl); (case hr => first | (go_simp; done) | (go_simp; rfl)); intro gb139 hg w10 hbox hb; have n0_ := Aside0.mk (below_step (by repeat (first | (with_reducible first | exact HB.out | apply below_alloc | apply pw_below_drewN | apply below_drew1) | exact HB.out)) hb); have n1_ := Aside0.mk (hbox); have n2_ := Aside0.mk ((by rw [hg]; exact (below_size (by repeat (first | (with_reducible first | exact HB.out | apply below_alloc | apply pw_below_drewN | apply below_drew1) | exact HB.out))) : w.heap.size ≤ gb139)); have n3_ := Aside0.mk ((by rw [hg]; exact (below_size (by repeat (first | (with_reducible first | exact HB.out | apply below_alloc | apply pw_below_drewN | apply below_drew1) | exact HB.out))) : w.heap.size ≤ gb139)); clear HB; have HB := n0_; have BK139 := n1_; have GW139 := n2_; have GE139 := n3_; clear n0_ n1_ n2_ n3_; clear hb hbox hg; have hcz11_0 : w10.cell? ⟨gb139, 0, none⟩ = some (.slice A0_0 l0_0.length c0_0) := (blk_cell BK139.out 0).trans rfl; have hcz11_1 : w10.cell? ⟨gb139, 1, none⟩ = some (.slice A0_1 l0_1.length c0_1) := (blk_cell BK139.out 1).trans rfl; have hfz11_0 := blk_frozen BK139.out 0; have hfz11_1 := blk_frozen BK139.out 1) | (go_at_call 54; (with_reducible refine (mat_Right.calls _ _ l0_0 (l0_0.length : Int) a1 true _ ?side1 ?side2 A7.out).mono ?_); (case side1 => repeat (first | exact (Kd.C_below HR0_0.out HB.out) | (with_reducible refine Kd.C_alloc ?_ _) | (with_reducible refine Kd.C_drewN ?_ _) | (with_reducible refine Kd.C_drew ?_))); (case side2 => exact HC0_0.out); rintro e w12 ⟨rfl, hb⟩; have n0_ := Aside0.mk (blk_below (g := gb139) (o := .cells #[.slice A0_0 l0_0.length c0_0, .slice A0_1 l0_1.length c0_1] 70 (0, 0)) (by (with_reducible repeat (first | refine blk_drewN ?_ _ | refine blk_drew ?_ | refine blk_alloc ?_ _)); exact BK139.out) hb); have n1_ := Aside0.mk (below_step (by repeat (first | (with_reducible first | exact HB.out | apply below_alloc | apply pw_below_drewN | apply below_drew1 | refine below_set ?_ GE139.out) | exact HB.out)) hb); clear BK139; clear HB; have BK139 := n0_; have HB := n1_; clear n0_ n1_; (try clear hb); (try clear hb2); (try clear hk); (try clear hi); have hcz13_0 : w12.cell? ⟨gb139, 0, none⟩ = some (.slice A0_0 l0_0.length c0_0) := (blk_cell BK139.out 0).trans rfl; have hcz13_1 : w12.cell? ⟨gb139, 1, none⟩ = some (.slice A0_1 l0_1.length c0_1) := (blk_cell BK139.out 1).trans rfl; have hfz13_0 := blk_frozen BK139.out 0; have hfz13_1 := blk_frozen BK139.out 1) | (go_at_call 54; (with_reducible refine (mat_Right.calls _ _ l0_1 a1 (l0_0.length : Int) t141 _ ?side1 ?side2 A9.out).mono ?_); (case side1 => repeat (first | exact (Kd.C_below HR0_1.out HB.out) | (with_reducible refine Kd.C_alloc ?_ _) | (with_reducible refine Kd.C_drewN ?_ _) | (with_reducible refine Kd.C_drew ?_))); (case side2 => exact HC0_1.out); rintro e w14 ⟨rfl, hb⟩; have n0_ := Aside0.mk (blk_below (g := gb139) (o := .cells #[.slice A0_0 l0_0.length c0_0, .slice A0_1 l0_1.length c0_1] 70 (0, 0)) (by (with_reducible repeat (first | refine blk_drewN ?_ _ | refine blk_drew ?_ | refine blk_alloc ?_ _)); exact BK139.out) hb); have n1_ := Aside0.mk (below_step (by repeat (first | (with_reducible first | exact HB.out | apply below_alloc | apply pw_below_drewN | apply below_drew1 | refine below_set ?_ GE139.out) | exact HB.out)) hb); clear BK139; clear HB; have BK139 := n0_; have HB := n1_; clear n0_ n1_; (try clear hb); (try clear hb2); (try clear hk); (try clear hi)))
            go_ret
            exact ⟨by first | rfl | (simp [errW_none, errW_some] <;> rfl) | (simp [*, errW_none, errW_some] <;> rfl), by repeat (first | (with_reducible first | exact HB.out | apply below_alloc | apply pw_below_drewN | apply below_drew1 | refine below_set ?_ GE139.out) | exact HB.out)⟩
          · replace c8 := Bool.eq_false_iff.mpr c8
            subst c8
            have H1 : (some false) = some r := by rw [if_neg (show ¬ (false = true) by decide)] at H; exact H
            clear H
            have H := H1
            clear H1
            obtain rfl := Option.some.inj H
            go_enter Tryd.func57, Tryd.ntmps57
            go_wp2_with (first | ((with_reducible refine gate_dst (N := 2) rfl ?_); refine box_event ?hg (N := 2) ?hd (cs := #[.slice A0_0 l0_0.length c0_0, .slice A0_1 l0_1.length c0_1]) (t := 70) ?hr ?_; (case hd => rfl); (case hg => rfl); (case hr => first | (go_simp; done) | (go_simp; rfl)); intro gb139 hg w15 hbox hb; have n0_ := Aside0.mk (below_step (by repeat (first | (with_reducible first | exact HB.out | apply below_alloc | apply pw_below_drewN | apply below_drew1) | exact HB.out)) hb); have n1_ := Aside0.mk (hbox); have n2_ := Aside0.mk ((by rw [hg]; exact (below_size (by repeat (first | (with_reducible first | exact HB.out | apply below_alloc | apply pw_below_drewN | apply below_drew1) | exact HB.out))) : w.heap.size ≤ gb139)); have n3_ := Aside0.mk ((by rw [hg]; exact (below_size (by repeat (first | (with_reducible first | exact HB.out | apply below_alloc | apply pw_below_drewN | apply below_drew1) | exact HB.out))) : w.heap.size ≤ gb139)); clear HB; have HB := n0_; have BK139 := n1_; have GW139 := n2_; have GE139 := n3_; clear n0_ n1_ n2_ n3_; clear hb hbox hg; have hcz16_0 : w15.cell? ⟨gb139, 0, none⟩ = some (.slice A0_0 l0_0.length c0_0) := (blk_cell BK139.out 0).trans rfl; have hcz16_1 : w15.cell? ⟨gb139, 1, none⟩ = some (.slice A0_1 l0_1.length c0_1) := (blk_cell BK139.out 1).trans rfl; have hfz16_0 := blk_frozen BK139.out 0; have hfz16_1 := blk_frozen BK139.out 1) | (go_at_call 54; (with_reducible refine (mat_Right.calls _ _ l0_0 (l0_0.length : Int) a1 false _ ?side1 ?side2 A7.out).mono ?_); (case side1 => repeat (first | exact (Kd.C_below HR0_0.out HB.out) | (with_reducible refine Kd.C_alloc ?_ _) | (with_reducible refine Kd.C_drewN ?_ _) | (with_reducible refine Kd.C_drew ?_))); (case side2 => exact HC0_0.out); rintro e w17 ⟨rfl, hb⟩; have n0_ := Aside0.mk (blk_below (g := gb139) (o := .cells #[.slice A0_0 l0_0.length c0_0, .slice A0_1 l0_1.length c0_1] 70 (0, 0)) (by (with_reducible repeat (first | refine blk_drewN ?_ _ | refine blk_drew ?_ | refine blk_alloc ?_ _)); exact BK139.out) hb); have n1_ := Aside0.mk (below_step (by repeat (first | (with_reducible first | exact HB.out | apply below_alloc | apply pw_below_drewN | apply below_drew1 | refine below_set ?_ GE139.out) | exact HB.out)) hb); clear BK139; clear HB; have BK139 := n0_; have HB := n1_; clear n0_ n1_; (try clear hb); (try clear hb2); (try clear hk); (try clear hi)))
            go_ret
            exact ⟨by first | rfl | (simp [errW_none, errW_some] <;> rfl) | (simp [*, errW_none, errW_some] <;> rfl), by repeat (first | (with_reducible first | exact HB.out | apply below_alloc | apply pw_below_drewN | apply below_drew1 | refine below_set ?_ GE139.out) | exact HB.out)⟩
        · rw [if_neg c6] at H
          have c6b0 : decide ((l0_0.length : Int) ≤ 8) = false := decide_eq_false c6
          have c6b1 : decide (l0_0.length ≤ 8) = false := decide_eq_false (by omega)
          clear c6
          obtain rfl := Option.some.inj H
          go_enter Tryd.func57, Tryd.ntmps57
          go_wp2_with (first | ((with_reducible refine gate_dst (N := 2) rfl ?_); refine box_event ?hg (N := 2) ?hd (cs := #[.slice A0_0 l0_0.length c0_0, .slice A0_1 l0_1.length c0_1]) (t := 70) ?hr ?_; (case hd => rfl); (case hg => rfl); (case hr => first | (go_simp; done) | (go_simp; rfl)); intro gb139 hg w18 hbox hb; have n0_ := Aside0.mk (below_step (by repeat (first | (with_reducible first | exact HB.out | apply below_alloc | apply pw_below_drewN | apply below_drew1) | exact HB.out)) hb); have n1_ := Aside0.mk (hbox); have n2_ := Aside0.mk ((by rw [hg]; exact (below_size (by repeat (first | (with_reducible first | exact HB.out | apply below_alloc | apply pw_below_drewN | apply below_drew1) | exact HB.out))) : w.heap.size ≤ gb139)); have n3_ := Aside0.mk ((by rw [hg]; exact (below_size (by repeat (first | (with_reducible first | exact HB.out | apply below_alloc | apply pw_below_drewN | apply below_drew1) | exact HB.out))) : w.heap.size ≤ gb139)); clear HB; have HB := n0_; have BK139 := n1_; have GW139 := n2_; have GE139 := n3_; clear n0_ n1_ n2_ n3_; clear hb hbox hg; have hcz19_0 : w18.cell? ⟨gb139, 0, none⟩ = some (.slice A0_0 l0_0.length c0_0) := (blk_cell BK139.out 0).trans rfl; have hcz19_1 : w18.cell? ⟨gb139, 1, none⟩ = some (.slice A0_1 l0_1.length c0_1) := (blk_cell BK139.out 1).trans rfl; have hfz19_0 := blk_frozen BK139.out 0; have hfz19_1 := blk_frozen BK139.out 1))
          go_ret
          exact ⟨by first | rfl | (simp [errW_none, errW_some] <;> rfl) | (simp [*, errW_none, errW_some] <;> rfl), by repeat (first | (with_reducible first | exact HB.out | apply below_alloc | apply pw_below_drewN | apply below_drew1 | refine below_set ?_ GE139.out) | exact HB.out)⟩
      · rw [if_neg c5] at H
        have c5b0 : decide (1 ≤ (l0_0.length : Int)) = false := decide_eq_false c5
        have c5b1 : decide (1 ≤ l0_0.length) = false := decide_eq_false (by omega)
        clear c5
        obtain rfl := Option.some.inj H
        go_enter Tryd.func57, Tryd.ntmps57
        go_wp2_with (first | ((with_reducible refine gate_dst (N := 2) rfl ?_); refine box_event ?hg (N := 2) ?hd (cs := #[.slice A0_0 l0_0.length c0_0, .slice A0_1 l0_1.length c0_1]) (t := 70) ?hr ?_; (case hd => rfl); (case hg => rfl); (case hr => first | (go_simp; done) | (go_simp; rfl)); intro gb139 hg w20 hbox hb; have n0_ := Aside0.mk (below_step (by repeat (first | (with_reducible first | exact HB.out | apply below_alloc | apply pw_below_drewN | apply below_drew1) | exact HB.out)) hb); have n1_ := Aside0.mk (hbox); have n2_ := Aside0.mk ((by rw [hg]; exact (below_size (by repeat (first | (with_reducible first | exact HB.out | apply below_alloc | apply pw_below_drewN | apply below_drew1) | exact HB.out))) : w.heap.size ≤ gb139)); have n3_ := Aside0.mk ((by rw [hg]; exact (below_size (by repeat (first | (with_reducible first | exact HB.out | apply below_alloc | apply pw_below_drewN | apply below_drew1) | exact HB.out))) : w.heap.size ≤ gb139)); clear HB; have HB := n0_; have BK139 := n1_; have GW139 := n2_; have GE139 := n3_; clear n0_ n1_ n2_ n3_; clear hb hbox hg; have hcz21_0 : w20.cell? ⟨gb139, 0, none⟩ = some (.slice A0_0 l0_0.length c0_0) := (blk_cell BK139.out 0).trans rfl; have hcz21_1 : w20.cell? ⟨gb139, 1, none⟩ = some (.slice A0_1 l0_1.length c0_1) := (blk_cell BK139.out 1).trans rfl; have hfz21_0 := blk_frozen BK139.out 0; have hfz21_1 := blk_frozen BK139.out 1))
        go_ret
        exact ⟨by first | rfl | (simp [errW_none, errW_some] <;> rfl) | (simp [*, errW_none, errW_some] <;> rfl), by repeat (first | (with_reducible first | exact HB.out | apply below_alloc | apply pw_below_drewN | apply below_drew1 | refine below_set ?_ GE139.out) | exact HB.out)⟩
    · rw [if_neg c4] at H
      have c4b0 : decide (a1 ≤ 8) = false := decide_eq_false c4
      clear c4
      obtain rfl := Option.some.inj H
      go_enter Tryd.func57, Tryd.ntmps57
      go_wp2_with (first | ((with_reducible refine gate_dst (N := 2) rfl ?_); refine box_event ?hg (N := 2) ?hd (cs := #[.slice A0_0 l0_0.length c0_0, .slice A0_1 l0_1.length c0_1]) (t := 70) ?hr ?_; (case hd => rfl); (case hg => rfl); (case hr => first | (go_simp; done) | (go_simp; rfl)); intro gb139 hg w22 hbox hb; have n0_ := Aside0.mk (below_step (by repeat (first | (with_reducible first | exact HB.out | apply below_alloc | apply pw_below_drewN | apply below_drew1) | exact HB.out)) hb); have n1_ := Aside0.mk (hbox); have n2_ := Aside0.mk ((by rw [hg]; exact (below_size (by repeat (first | (with_reducible first | exact HB.out | apply below_alloc | apply pw_below_drewN | apply below_drew1) | exact HB.out))) : w.heap.size ≤ gb139)); have n3_ := Aside0.mk ((by rw [hg]; exact (below_size (by repeat (first | (with_reducible first | exact HB.out | apply below_alloc | apply pw_below_drewN | apply below_drew1) | exact HB.out))) : w.heap.size ≤ gb139)); clear HB; have HB := n0_; have BK139 := n1_; have GW139 := n2_; have GE139 := n3_; clear n0_ n1_ n2_ n3_; clear hb hbox hg; have hcz23_0 : w22.cell? ⟨gb139, 0, none⟩ = some (.slice A0_0 l0_0.length c0_0) := (blk_cell BK139.out 0).trans rfl; have hcz23_1 : w22.cell? ⟨gb139, 1, none⟩ = some (.slice A0_1 l0_1.length c0_1) := (blk_cell BK139.out 1).trans rfl; have hfz23_0 := blk_frozen BK139.out 0; have hfz23_1 := blk_frozen BK139.out 1))
      go_ret
      exact ⟨by first | rfl | (simp [errW_none, errW_some] <;> rfl) | (simp [*, errW_none, errW_some] <;> rfl), by repeat (first | (with_reducible first | exact HB.out | apply below_alloc | apply pw_below_drewN | apply below_drew1 | refine below_set ?_ GE139.out) | exact HB.out)⟩
  · rw [if_neg c3] at H
    have c3b0 : decide (1 ≤ a1) = false := decide_eq_false c3
    clear c3
    obtain rfl := Option.some.inj H
    go_enter Tryd.func57, Tryd.ntmps57
    go_wp2_with (first | ((with_reducible refine gate_dst (N := 2) rfl ?_); refine box_event ?hg (N := 2) ?hd (cs := #[.slice A0_0 l0_0.length c0_0, .slice A0_1 l0_1.length c0_1]) (t := 70) ?hr ?_; (case hd => rfl); (case hg => rfl); (case hr => first | (go_simp; done) | (go_simp; rfl)); intro gb139 hg w24 hbox hb; have n0_ := Aside0.mk (below_step (by repeat (first | (with_reducible first | exact HB.out | apply below_alloc | apply pw_below_drewN | apply below_drew1) | exact HB.out)) hb); have n1_ := Aside0.mk (hbox); have n2_ := Aside0.mk ((by rw [hg]; exact (below_size (by repeat (first | (with_reducible first | exact HB.out | apply below_alloc | apply pw_below_drewN | apply below_drew1) | exact HB.out))) : w.heap.size ≤ gb139)); have n3_ := Aside0.mk ((by rw [hg]; exact (below_size (by repeat (first | (with_reducible first | exact HB.out | apply below_alloc | apply pw_below_drewN | apply below_drew1) | exact HB.out))) : w.heap.size ≤ gb139)); clear HB; have HB := n0_; have BK139 := n1_; have GW139 := n2_; have GE139 := n3_; clear n0_ n1_ n2_ n3_; clear hb hbox hg; have hcz25_0 : w24.cell? ⟨gb139, 0, none⟩ = some (.slice A0_0 l0_0.length c0_0) := (blk_cell BK139.out 0).trans rfl; have hcz25_1 : w24.cell? ⟨gb139, 1, none⟩ = some (.slice A0_1 l0_1.length c0_1) := (blk_cell BK139.out 1).trans rfl; have hfz25_0 := blk_frozen BK139.out 0; have hfz25_1 := blk_frozen BK139.out 1))
    go_ret
    exact ⟨by first | rfl | (simp [errW_none, errW_some] <;> rfl) | (simp [*, errW_none, errW_some] <;> rfl), by repeat (first | (with_reducible first | exact HB.out | apply below_alloc | apply pw_below_drewN | apply below_drew1 | refine below_set ?_ GE139.out) | exact HB.out)⟩

/-! ### model_Right: function 35 (given by hand) -/
def matOk (l : List (List Int)) (a b : Int) : Bool := decide ((l.length : Int) = a) && !(l.any (rowWrong b))
theorem matOk_f (l : List (List Int)) (a b : Int) : mat_Right.f l a b = some (matOk l a b) := rfl
/-- Is an expert right? -/
def expOk (l0 l1 : List (List Int)) (n : Int) : Bool := (expert_Right.f l0 l1 n).getD false
theorem expOk_f (l0 l1 : List (List Int)) (n : Int) : expert_Right.f l0 l1 n = some (expOk l0 l1 n) := by
  unfold expOk expert_Right.f
  simp only [matOk_f, Option.bind_some]
  split
  · split
    · split
      · split
        · split <;> rfl
        · rfl
      · rfl
    · rfl
  · rfl
def expBad (n : Int) (x : S70) : Bool := !(expOk x.f0 x.f1 n)
set_option maxHeartbeats 8000000 in
set_option maxRecDepth 100000 in
theorem model_layer_1.calls (A0 : Option Addr) (c0 : Nat) (A1 : Option Addr) (c1 : Nat) (x : S70) (n : Int) (B : Nat) (W : World) (h0 : Kd.C (Kd.slice 3 (Kd.int .i64)) W A0 x.f0.length x.f0) (l0 : x.f0.length ≤ c0) (h1 : Kd.C (Kd.slice 3 (Kd.int .i64)) W A1 x.f1.length x.f1) (l1 : x.f1.length ≤ c1) (hx : W.cell? ⟨B, 0, none⟩ = some (.int .i64 n)) :
    Calls Tryd.prog 56 #[.agg #[.slice A0 x.f0.length c0, .slice A1 x.f1.length c1], .pointer (some ⟨B, 0, none⟩)] W fun e w' => e = .returned (.bool (expBad n x)) ∧ Below W.heap.size W w' := by
  have H0 := Aside0.mk h0
  have H1 := Aside0.mk h1
  have L0 := Aside0.mk l0
  have L1 := Aside0.mk l1
  have hx' : ∀ o, (W.alloc o).cell? ⟨B, 0, none⟩ = some (.int .i64 n) := fun o => Lib.cell?_alloc_some o hx
  have HF := Aside0.mk (expOk_f x.f0 x.f1 n)
  have hu := Tryd.underlying70
  clear h0 h1 l0 l1
  unfold expBad
  cases hb : expOk x.f0 x.f1 n
  · rw [hb] at HF
    clear hb
    go_enter Tryd.func56, Tryd.ntmps56
    go_wp2_with (go_at_call 57; refine (expert_Right.calls _ _ x.f0 _ _ x.f1 n false _ (Kd.C_alloc H0.out _) L0.out (Kd.C_alloc H1.out _) L1.out HF.out).mono ?_; rintro e w1 ⟨rfl, hb⟩; have HB := Aside0.mk hb; clear hb)
    go_ret
    exact ⟨rfl, (below_alloc (Below.refl _ _) _).trans (HB.out.mono (by simp))⟩
  · rw [hb] at HF
    clear hb
    go_enter Tryd.func56, Tryd.ntmps56
    go_wp2_with (go_at_call 57; refine (expert_Right.calls _ _ x.f0 _ _ x.f1 n true _ (Kd.C_alloc H0.out _) L0.out (Kd.C_alloc H1.out _) L1.out HF.out).mono ?_; rintro e w1 ⟨rfl, hb⟩; have HB := Aside0.mk hb; clear hb)
    go_ret
    exact ⟨rfl, (below_alloc (Below.refl _ _) _).trans (HB.out.mono (by simp))⟩
/-- Is a layer right? -/
def layerOk (l0 : List (List Int)) (l1 : List S70) (c n : Int) : Bool :=
  if (l1.length : Int) ≥ 1 then (if (l1.length : Int) ≤ 8 then (if matOk l0 (l1.length : Int) n = true then (if c ≥ 1 then (if c ≤ 32 then !(l1.any (expBad n)) else false) else false) else false) else false) else false
set_option maxHeartbeats 8000000 in
set_option maxRecDepth 100000 in
theorem model_layer.calls (A0 : Option Addr) (c0 : Nat) (l0 : List (List Int)) (A1 : Option Addr) (c1 : Nat) (l1 : List S70) (c n : Int) (w : World) (h0 : Kd.C (Kd.slice 3 (Kd.int .i64)) w A0 l0.length l0) (hl0 : l0.length ≤ c0) (h1 : Kd.C k70 w A1 l1.length l1) (hl1 : l1.length ≤ c1) :
    Calls Tryd.prog 45 #[.agg #[.slice A0 l0.length c0, .slice A1 l1.length c1, .int .i64 c], .int .i64 n] w fun e w' => e = .returned (.bool (layerOk l0 l1 c n)) ∧ Below w.heap.size w w' := by
  have hmf : ∀ (fn : Fn) (first cap : Array Value) (w : World), (Instr.makeFunc fn first cap).run Tryd.prog w = .ok (.func fn first cap) w := fun _ _ _ _ => rfl
  have hu := Tryd.underlying73
  have H0 := Aside0.mk h0
  have H1 := Aside0.mk h1
  have L0 := Aside0.mk hl0
  have L1 := Aside0.mk hl1
  clear h0 h1 hl0 hl1
  unfold layerOk
  have cell0 : ∀ o, ((w.alloc (.cells #[.slice A0 l0.length c0, .slice A1 l1.length c1, .int .i64 c] 73)).alloc o).cell? ⟨w.heap.size, 0, none⟩ = some (.slice A0 l0.length c0) := fun o => Lib.cell?_alloc_some o (by rw [World.cell?_alloc_at _ _ _ _ rfl]; rfl)
  have cell1 : ∀ o, ((w.alloc (.cells #[.slice A0 l0.length c0, .slice A1 l1.length c1, .int .i64 c] 73)).alloc o).cell? ⟨w.heap.size, 1, none⟩ = some (.slice A1 l1.length c1) := fun o => Lib.cell?_alloc_some o (by rw [World.cell?_alloc_at _ _ _ _ rfl]; rfl)
  have cell2 : ∀ o, ((w.alloc (.cells #[.slice A0 l0.length c0, .slice A1 l1.length c1, .int .i64 c] 73)).alloc o).cell? ⟨w.heap.size, 2, none⟩ = some (.int .i64 c) := fun o => Lib.cell?_alloc_some o (by rw [World.cell?_alloc_at _ _ _ _ rfl]; rfl)
  by_cases c1_ : (l1.length : Int) ≥ 1
  case neg =>
    rw [if_neg c1_]
    have k1 : decide (1 ≤ (l1.length : Int)) = false := decide_eq_false c1_
    have k1n : decide (1 ≤ l1.length) = false := decide_eq_false (by omega)
    clear c1_
    go_enter Tryd.func45, Tryd.ntmps45
    go_wp2
    go_ret
    exact ⟨rfl, below_alloc (below_alloc (Below.refl _ _) _) _⟩
  rw [if_pos c1_]
  have k1 : decide (1 ≤ (l1.length : Int)) = true := decide_eq_true c1_
  have k1n : decide (1 ≤ l1.length) = true := decide_eq_true (by omega)
  clear c1_
  by_cases c2_ : (l1.length : Int) ≤ 8
  case neg =>
    rw [if_neg c2_]
    have k2 : decide ((l1.length : Int) ≤ 8) = false := decide_eq_false c2_
    have k2n : decide (l1.length ≤ 8) = false := decide_eq_false (by omega)
    clear c2_
    go_enter Tryd.func45, Tryd.ntmps45
    go_wp2
    go_ret
    exact ⟨rfl, below_alloc (below_alloc (Below.refl _ _) _) _⟩
  rw [if_pos c2_]
  have k2 : decide ((l1.length : Int) ≤ 8) = true := decide_eq_true c2_
  have k2n : decide (l1.length ≤ 8) = true := decide_eq_true (by omega)
  clear c2_
  have hf := matOk_f l0 (l1.length : Int) n
  by_cases c3_ : matOk l0 (l1.length : Int) n = true
  case neg =>
    rw [if_neg c3_]
    rw [Bool.eq_false_iff.mpr c3_] at hf
    have HF := Aside0.mk hf
    clear c3_ hf
    go_enter Tryd.func45, Tryd.ntmps45
    go_wp2_with (go_at_call 54; refine (mat_Right.calls _ _ l0 (l1.length : Int) n false _ (Kd.C_alloc (Kd.C_alloc H0.out _) _) L0.out HF.out).mono ?_; rintro e w1 ⟨rfl, hb⟩; have HB := Aside0.mk hb; have hb0 := (hb.cell (p := ⟨w.heap.size, 0, none⟩) (by simp; omega)).trans (cell0 _); have hb1 := (hb.cell (p := ⟨w.heap.size, 1, none⟩) (by simp; omega)).trans (cell1 _); have hb2 := (hb.cell (p := ⟨w.heap.size, 2, none⟩) (by simp; omega)).trans (cell2 _); clear hb)
    go_ret
    exact ⟨rfl, (below_alloc (below_alloc (Below.refl _ _) _) _).trans (HB.out.mono (by simp; omega))⟩
  rw [if_pos c3_]
  rw [c3_] at hf
  have HF := Aside0.mk hf
  clear c3_ hf
  by_cases c4_ : c ≥ 1
  case neg =>
    rw [if_neg c4_]
    have k3 : decide (1 ≤ c) = false := decide_eq_false c4_
    clear c4_
    go_enter Tryd.func45, Tryd.ntmps45
    go_wp2_with (go_at_call 54; refine (mat_Right.calls _ _ l0 (l1.length : Int) n true _ (Kd.C_alloc (Kd.C_alloc H0.out _) _) L0.out HF.out).mono ?_; rintro e w1 ⟨rfl, hb⟩; have HB := Aside0.mk hb; have hb0 := (hb.cell (p := ⟨w.heap.size, 0, none⟩) (by simp; omega)).trans (cell0 _); have hb1 := (hb.cell (p := ⟨w.heap.size, 1, none⟩) (by simp; omega)).trans (cell1 _); have hb2 := (hb.cell (p := ⟨w.heap.size, 2, none⟩) (by simp; omega)).trans (cell2 _); clear hb)
    go_ret
    exact ⟨rfl, (below_alloc (below_alloc (Below.refl _ _) _) _).trans (HB.out.mono (by simp; omega))⟩
  rw [if_pos c4_]
  have k3 : decide (1 ≤ c) = true := decide_eq_true c4_
  clear c4_
  by_cases c5_ : c ≤ 32
  case neg =>
    rw [if_neg c5_]
    have k4 : decide (c ≤ 32) = false := decide_eq_false c5_
    clear c5_
    go_enter Tryd.func45, Tryd.ntmps45
    go_wp2_with (go_at_call 54; refine (mat_Right.calls _ _ l0 (l1.length : Int) n true _ (Kd.C_alloc (Kd.C_alloc H0.out _) _) L0.out HF.out).mono ?_; rintro e w1 ⟨rfl, hb⟩; have HB := Aside0.mk hb; have hb0 := (hb.cell (p := ⟨w.heap.size, 0, none⟩) (by simp; omega)).trans (cell0 _); have hb1 := (hb.cell (p := ⟨w.heap.size, 1, none⟩) (by simp; omega)).trans (cell1 _); have hb2 := (hb.cell (p := ⟨w.heap.size, 2, none⟩) (by simp; omega)).trans (cell2 _); clear hb)
    go_ret
    exact ⟨rfl, (below_alloc (below_alloc (Below.refl _ _) _) _).trans (HB.out.mono (by simp; omega))⟩
  rw [if_pos c5_]
  have k4 : decide (c ≤ 32) = true := decide_eq_true c5_
  clear c5_
  cases hany : l1.any (expBad n)
  all_goals
    have HANY := Aside0.mk hany
    clear hany
    go_enter Tryd.func45, Tryd.ntmps45
    go_wp2_with (first | (go_at_call 54; refine (mat_Right.calls _ _ l0 (l1.length : Int) n true _ (Kd.C_alloc (Kd.C_alloc H0.out _) _) L0.out HF.out).mono ?_; rintro e w1 ⟨rfl, hb⟩; have HB := Aside0.mk hb; have hb0 := (hb.cell (p := ⟨w.heap.size, 0, none⟩) (by simp; omega)).trans (cell0 _); have hb1 := (hb.cell (p := ⟨w.heap.size, 1, none⟩) (by simp; omega)).trans (cell1 _); have hb2 := (hb.cell (p := ⟨w.heap.size, 2, none⟩) (by simp; omega)).trans (cell2 _); clear hb) | (go_at_call 55; refine (has55_calls k70 rfl 56 Tryd.func56 rfl rfl #[.pointer (some ⟨w.heap.size + 1, 0, none⟩)] (expBad n) A1 c1 l1 _ ?s1 ?s2).mono ?_; (case s1 => exact Kd.C_below (Kd.C_alloc (Kd.C_alloc H1.out _) _) HB.out); (case s2 => (intro x v0 v1 W' _ hk hb; obtain ⟨B0, d0, B1, d1, hv, m0, g0, m1, g1⟩ := k70_open hk; obtain ⟨e0_, hv0_⟩ := List.cons.inj hv; obtain ⟨e1_, _⟩ := List.cons.inj hv0_; subst e0_; subst e1_; exact model_layer_1.calls B0 d0 B1 d1 x n (w.heap.size + 1) W' (Kd.C_below g0 hb) m0 (Kd.C_below g1 hb) m1 ((hb.cell (p := ⟨w.heap.size + 1, 0, none⟩) (by have := HB.out.size; simp at this; show w.heap.size + 1 < w1.heap.size; omega)).trans ((HB.out.cell (p := ⟨w.heap.size + 1, 0, none⟩) (by simp)).trans (by rw [World.cell?_alloc_at _ _ _ _ (by simp)]; rfl))))); rw [HANY.out]; rintro e w2 ⟨rfl, hb⟩; have HB2 := Aside0.mk hb; clear hb))
    go_ret
    exact ⟨rfl, ((below_alloc (below_alloc (Below.refl _ _) _) _).trans (HB.out.mono (by simp; omega))).trans (HB2.out.mono (by have := HB.out.size; simp at this; omega))⟩
def layBad (n : Int) (x : S73) : Bool := !(layerOk x.f0 x.f1 x.f2 n)
set_option maxHeartbeats 8000000 in
set_option maxRecDepth 100000 in
theorem model_Right_1.calls (A0 : Option Addr) (c0 : Nat) (A1 : Option Addr) (c1 : Nat) (x : S73) (n : Int) (B : Nat) (W : World) (h0 : Kd.C (Kd.slice 3 (Kd.int .i64)) W A0 x.f0.length x.f0) (l0 : x.f0.length ≤ c0) (h1 : Kd.C k70 W A1 x.f1.length x.f1) (l1 : x.f1.length ≤ c1) (hx : W.cell? ⟨B, 0, none⟩ = some (.int .i64 n)) :
    Calls Tryd.prog 44 #[.agg #[.slice A0 x.f0.length c0, .slice A1 x.f1.length c1, .int .i64 x.f2], .pointer (some ⟨B, 0, none⟩)] W fun e w' => e = .returned (.bool (layBad n x)) ∧ Below W.heap.size W w' := by
  have H0 := Aside0.mk h0
  have H1 := Aside0.mk h1
  have L0 := Aside0.mk l0
  have L1 := Aside0.mk l1
  have hx' : ∀ o, (W.alloc o).cell? ⟨B, 0, none⟩ = some (.int .i64 n) := fun o => Lib.cell?_alloc_some o hx
  have hu := Tryd.underlying73
  have hu2 := Tryd.underlying55
  clear h0 h1 l0 l1
  unfold layBad
  cases hb : layerOk x.f0 x.f1 x.f2 n
  all_goals
    have HBK := Aside0.mk hb
    clear hb
    go_enter Tryd.func44, Tryd.ntmps44
    go_wp2_with (go_at_call 45; refine (model_layer.calls _ _ x.f0 _ _ x.f1 x.f2 n _ (Kd.C_alloc H0.out _) L0.out (Kd.C_alloc H1.out _) L1.out).mono ?_; rw [HBK.out]; rintro e w1 ⟨rfl, hb⟩; have HB := Aside0.mk hb; clear hb)
    go_ret
    exact ⟨rfl, (below_alloc (Below.refl _ _) _).trans (HB.out.mono (by simp))⟩
/-- Is a model right? -/
def modelOk (n : Int) (l : List S73) : Bool :=
  if n ≥ 1 then (if n ≤ 8 then (if (l.length : Int) ≥ 1 then (if (l.length : Int) ≤ 4 then !(l.any (layBad n)) else false) else false) else false) else false
def model_Right.f (a0_0 : Int) (l0_1 : List S73) : Option Bool := some (modelOk a0_0 l0_1)
set_option maxHeartbeats 8000000 in
set_option maxRecDepth 100000 in
theorem model_Right.calls (a0_0 : Int) (A0_1 : Option Addr) (c0_1 : Nat) (l0_1 : List S73) (r : Bool) (w : World) (hr0_1 : Kd.C k73 w A0_1 l0_1.length l0_1) (hc0_1 : l0_1.length ≤ c0_1) (h : model_Right.f a0_0 l0_1 = some r) :
    Calls Tryd.prog 35 #[.agg #[.int .i64 a0_0, .slice A0_1 l0_1.length c0_1]] w fun e w' => e = .returned (.bool r) ∧ Below w.heap.size w w' := by
  have hmf : ∀ (fn : Fn) (first cap : Array Value) (w : World), (Instr.makeFunc fn first cap).run Tryd.prog w = .ok (.func fn first cap) w := fun _ _ _ _ => rfl
  have hu := Tryd.underlying55
  unfold model_Right.f at h
  obtain rfl := Option.some.inj h
  have H1 := Aside0.mk hr0_1
  have L1 := Aside0.mk hc0_1
  clear hr0_1 hc0_1 h
  unfold modelOk
  by_cases c0_ : a0_0 ≥ 1
  case neg =>
    rw [if_neg c0_]
    have k0_0 : decide (1 ≤ a0_0) = false := decide_eq_false (by omega); clear c0_
    go_enter Tryd.func35, Tryd.ntmps35
    go_wp2
    go_ret
    exact ⟨rfl, below_alloc (Below.refl _ _) _⟩
  rw [if_pos c0_]
  have k0_0 : decide (1 ≤ a0_0) = true := decide_eq_true (by omega); clear c0_
  by_cases c1_ : a0_0 ≤ 8
  case neg =>
    rw [if_neg c1_]
    have k1_0 : decide (a0_0 ≤ 8) = false := decide_eq_false (by omega); clear c1_
    go_enter Tryd.func35, Tryd.ntmps35
    go_wp2
    go_ret
    exact ⟨rfl, below_alloc (Below.refl _ _) _⟩
  rw [if_pos c1_]
  have k1_0 : decide (a0_0 ≤ 8) = true := decide_eq_true (by omega); clear c1_
  by_cases c2_ : (l0_1.length : Int) ≥ 1
  case neg =>
    rw [if_neg c2_]
    have k2_0 : decide (1 ≤ (l0_1.length : Int)) = false := decide_eq_false (by omega); have k2_1 : decide (1 ≤ l0_1.length) = false := decide_eq_false (by omega); clear c2_
    go_enter Tryd.func35, Tryd.ntmps35
    go_wp2
    go_ret
    exact ⟨rfl, below_alloc (Below.refl _ _) _⟩
  rw [if_pos c2_]
  have k2_0 : decide (1 ≤ (l0_1.length : Int)) = true := decide_eq_true (by omega); have k2_1 : decide (1 ≤ l0_1.length) = true := decide_eq_true (by omega); clear c2_
  by_cases c3_ : (l0_1.length : Int) ≤ 4
  case neg =>
    rw [if_neg c3_]
    have k3_0 : decide ((l0_1.length : Int) ≤ 4) = false := decide_eq_false (by omega); have k3_1 : decide (l0_1.length ≤ 4) = false := decide_eq_false (by omega); clear c3_
    go_enter Tryd.func35, Tryd.ntmps35
    go_wp2
    go_ret
    exact ⟨rfl, below_alloc (Below.refl _ _) _⟩
  rw [if_pos c3_]
  have k3_0 : decide ((l0_1.length : Int) ≤ 4) = true := decide_eq_true (by omega); have k3_1 : decide (l0_1.length ≤ 4) = true := decide_eq_true (by omega); clear c3_
  cases hany : l0_1.any (layBad a0_0)
  all_goals
    have HANY := Aside0.mk hany
    clear hany
    go_enter Tryd.func35, Tryd.ntmps35
    go_wp2_with (go_at_call 43; refine (has43_calls k73 rfl 44 Tryd.func44 rfl rfl #[.pointer (some ⟨w.heap.size, 0, none⟩)] (layBad a0_0) A0_1 c0_1 l0_1 _ ?s1 ?s2).mono ?_; (case s1 => exact Kd.C_alloc H1.out _); (case s2 => (intro x v0 v1 v2 W' _ hk hb; obtain ⟨B0, d0, B1, d1, hv, m0, g0, m1, g1⟩ := k73_open hk; obtain ⟨e0_, hv0_⟩ := List.cons.inj hv; obtain ⟨e1_, hv1_⟩ := List.cons.inj hv0_; obtain ⟨e2_, _⟩ := List.cons.inj hv1_; subst e0_; subst e1_; subst e2_; exact model_Right_1.calls B0 d0 B1 d1 x a0_0 w.heap.size W' (Kd.C_below g0 hb) m0 (Kd.C_below g1 hb) m1 ((hb.cell (p := ⟨w.heap.size, 0, none⟩) (by simp)).trans (by rw [World.cell?_alloc_at _ _ _ _ rfl]; rfl)))); rw [HANY.out]; rintro e w1 ⟨rfl, hb⟩; have HB := Aside0.mk hb; clear hb)
    go_ret
    exact ⟨rfl, (below_alloc (Below.refl _ _) _).trans (HB.out.mono (by simp))⟩

/-! ### model_Tokens: function 36 (given by hand) -/
set_option maxHeartbeats 8000000 in
set_option maxRecDepth 100000 in
theorem model_Tokens_1_1.calls (x : Int) (W : World) :
    Calls Tryd.prog 49 #[.int .i64 x] W fun e w' => e = .returned (.bool (notHeld x)) ∧ Below W.heap.size W w' := by
  unfold notHeld
  by_cases c : holdR x = x
  · have e : decide (¬ holdR x = x) = false := by simp [c]
    rw [e]
    have hq : (holdR x == x) = true := beq_iff_eq.2 c
    have hq2 : (holdR x != x) = false := by rw [bne, hq]; rfl
    clear c e
    go_enter Tryd.func49, Tryd.ntmps49
    go_wp2_with (go_at_call 50; refine (fix_Hold.calls x (holdR x) _ (holdR_f _)).mono ?_; rintro e w' ⟨rfl, hb⟩)
    go_ret
    exact ⟨rfl, hb⟩
  · have e : decide (¬ holdR x = x) = true := by simp [c]
    rw [e]
    have hq : (holdR x == x) = false := beq_eq_false_iff_ne.2 c
    have hq2 : (holdR x != x) = true := by rw [bne, hq]; rfl
    clear c e
    go_enter Tryd.func49, Tryd.ntmps49
    go_wp2_with (go_at_call 50; refine (fix_Hold.calls x (holdR x) _ (holdR_f _)).mono ?_; rintro e w' ⟨rfl, hb⟩)
    go_ret
    exact ⟨rfl, hb⟩
set_option maxHeartbeats 8000000 in
set_option maxRecDepth 100000 in
theorem model_Tokens_1.calls (A : Option Addr) (c : Nat) (r : List Int) (n : Int) (B : Nat) (W : World) (hr : Kd.C (Kd.int .i64) W A r.length r) (hx : W.cell? ⟨B, 0, none⟩ = some (.int .i64 n)) :
    Calls Tryd.prog 47 #[.slice A r.length c, .pointer (some ⟨B, 0, none⟩)] W fun e w' => e = .returned (.bool (rowWrong n r)) ∧ Below W.heap.size W w' := by
  have HR := Aside0.mk hr
  have hu2 := Tryd.underlying55
  clear hr
  unfold rowWrong
  by_cases k : (r.length : Int) = n
  · have e : decide (¬ ((r.length : Int) = n)) = false := by simp [k]
    rw [e, Bool.false_or]
    have hq : ((r.length : Int) == n) = true := beq_iff_eq.2 k
    have hq2 : ((r.length : Int) != n) = false := by rw [bne, hq]; rfl
    clear k e
    go_enter Tryd.func47, Tryd.ntmps47
    go_wp2_with (go_at_call 48; refine (has48_calls (Kd.int .i64) rfl 49 Tryd.func49 rfl rfl #[] notHeld A c r _ HR.out ?s2).mono ?_; (case s2 => (intro x v W' _ hk _; obtain rfl : v = .int .i64 x := (List.cons.inj hk).1; exact model_Tokens_1_1.calls x W')); rintro e w1 ⟨rfl, hb⟩; have HB := Aside0.mk hb; clear hb)
    go_ret
    exact ⟨rfl, HB.out⟩
  · have e : decide (¬ ((r.length : Int) = n)) = true := by simp [k]
    rw [e, Bool.true_or]
    have hq : ((r.length : Int) == n) = false := beq_eq_false_iff_ne.2 k
    have hq2 : ((r.length : Int) != n) = true := by rw [bne, hq]; rfl
    clear k e
    go_enter Tryd.func47, Tryd.ntmps47
    go_wp2
    go_ret
    exact ⟨rfl, Below.refl _ _⟩
/-- Are tokens right? -/
def tokOk (n : Int) (l : List (List Int)) : Bool := if (l.length : Int) ≥ 1 then (if (l.length : Int) ≤ 16 then !(l.any (rowWrong n)) else false) else false
def model_Tokens.f (a0_0 : Int) (l0_1 : List S73) (l1 : List (List Int)) : Option Bool := some (tokOk a0_0 l1)
set_option maxHeartbeats 8000000 in
set_option maxRecDepth 100000 in
theorem model_Tokens.calls (a0_0 : Int) (A0_1 : Option Addr) (c0_1 : Nat) (l0_1 : List S73) (A1 : Option Addr) (c1 : Nat) (l1 : List (List Int)) (r : Bool) (w : World) (hr0_1 : Kd.C k73 w A0_1 l0_1.length l0_1) (hc0_1 : l0_1.length ≤ c0_1) (hr1 : Kd.C (Kd.slice 3 (Kd.int .i64)) w A1 l1.length l1) (hc1 : l1.length ≤ c1) (h : model_Tokens.f a0_0 l0_1 l1 = some r) :
    Calls Tryd.prog 36 #[.agg #[.int .i64 a0_0, .slice A0_1 l0_1.length c0_1], .slice A1 l1.length c1] w fun e w' => e = .returned (.bool r) ∧ Below w.heap.size w w' := by
  have hmf : ∀ (fn : Fn) (first cap : Array Value) (w : World), (Instr.makeFunc fn first cap).run Tryd.prog w = .ok (.func fn first cap) w := fun _ _ _ _ => rfl
  have hu := Tryd.underlying55
  unfold model_Tokens.f at h
  obtain rfl := Option.some.inj h
  have H1 := Aside0.mk hr1
  have L1 := Aside0.mk hc1
  clear hr0_1 hc0_1 hr1 hc1 h
  unfold tokOk
  by_cases c0_ : (l1.length : Int) ≥ 1
  case neg =>
    rw [if_neg c0_]
    have k0_0 : decide (1 ≤ (l1.length : Int)) = false := decide_eq_false (by omega); have k0_1 : decide (1 ≤ l1.length) = false := decide_eq_false (by omega); clear c0_
    go_enter Tryd.func36, Tryd.ntmps36
    go_wp2
    go_ret
    exact ⟨rfl, below_alloc (Below.refl _ _) _⟩
  rw [if_pos c0_]
  have k0_0 : decide (1 ≤ (l1.length : Int)) = true := decide_eq_true (by omega); have k0_1 : decide (1 ≤ l1.length) = true := decide_eq_true (by omega); clear c0_
  by_cases c1_ : (l1.length : Int) ≤ 16
  case neg =>
    rw [if_neg c1_]
    have k1_0 : decide ((l1.length : Int) ≤ 16) = false := decide_eq_false (by omega); have k1_1 : decide (l1.length ≤ 16) = false := decide_eq_false (by omega); clear c1_
    go_enter Tryd.func36, Tryd.ntmps36
    go_wp2
    go_ret
    exact ⟨rfl, below_alloc (Below.refl _ _) _⟩
  rw [if_pos c1_]
  have k1_0 : decide ((l1.length : Int) ≤ 16) = true := decide_eq_true (by omega); have k1_1 : decide (l1.length ≤ 16) = true := decide_eq_true (by omega); clear c1_
  cases hany : l1.any (rowWrong a0_0)
  all_goals
    have HANY := Aside0.mk hany
    clear hany
    go_enter Tryd.func36, Tryd.ntmps36
    go_wp2_with (go_at_call 46; refine (has46_calls (Kd.slice 3 (Kd.int .i64)) rfl 47 Tryd.func47 rfl rfl #[.pointer (some ⟨w.heap.size, 0, none⟩)] (rowWrong a0_0) A1 c1 l1 _ ?s1 ?s2).mono ?_; (case s1 => exact Kd.C_alloc H1.out _); (case s2 => (intro x v W' _ hk hb; obtain ⟨A, c, hv, _, hc⟩ := hk; obtain rfl : v = .slice A x.length c := (List.cons.inj hv).1; exact model_Tokens_1.calls A c x a0_0 w.heap.size W' (Kd.C_below hc hb) ((hb.cell (p := ⟨w.heap.size, 0, none⟩) (by simp)).trans (by rw [World.cell?_alloc_at _ _ _ _ rfl]; rfl)))); rw [HANY.out]; rintro e w1 ⟨rfl, hb⟩; have HB := Aside0.mk hb; clear hb)
    go_ret
    exact ⟨rfl, (below_alloc (Below.refl _ _) _).trans (HB.out.mono (by simp))⟩

-- NOT PRINTED: function 30 (hall_check)

/-! ### hall_Reason: function 23 (given by hand) -/
/-- Why tokens are refused, where they are not: told of right ones alone. -/
def hall_Reason.f (a0_0 : Int) (l0_1 : List S73) (l1 : List (List Int)) : Option Int := if modelOk a0_0 l0_1 = true ∧ tokOk a0_0 l1 = true ∧ 1 ≤ l1.length ∧ l1.length ≤ 16 then some 0 else none
set_option maxHeartbeats 8000000 in
set_option maxRecDepth 100000 in
theorem hall_check.calls (a0_0 : Int) (A0_1 : Option Addr) (c0_1 : Nat) (l0_1 : List S73) (A1 : Option Addr) (c1 : Nat) (l1 : List (List Int)) (w : World) (hr0_1 : Kd.C k73 w A0_1 l0_1.length l0_1) (hc0_1 : l0_1.length ≤ c0_1) (hr1 : Kd.C (Kd.slice 3 (Kd.int .i64)) w A1 l1.length l1) (hc1 : l1.length ≤ c1) (h1 : modelOk a0_0 l0_1 = true) (h2 : tokOk a0_0 l1 = true) (h3 : 1 ≤ l1.length) (h4 : l1.length ≤ 16) :
    Calls Tryd.prog 30 #[.agg #[.int .i64 a0_0, .slice A0_1 l0_1.length c0_1], .slice A1 l1.length c1] w fun e w' => e = .returned .nilIface ∧ Below w.heap.size w w' := by
  have hu := Tryd.underlying55
  have HR := Aside0.mk hr0_1
  have HC := Aside0.mk hc0_1
  have HR1 := Aside0.mk hr1
  have HC1 := Aside0.mk hc1
  have H1 := Aside0.mk (show model_Right.f a0_0 l0_1 = some true by unfold model_Right.f; rw [h1])
  have H2 := Aside0.mk (show model_Tokens.f a0_0 l0_1 l1 = some true by unfold model_Tokens.f; rw [h2])
  have e0 : ((l1.length : Int) == 0) = false := beq_eq_false_iff_ne.2 (by omega)
  have e1 : decide (16 < (l1.length : Int)) = false := decide_eq_false (by omega)
  have e0n : (l1.length == 0) = false := beq_eq_false_iff_ne.2 (by omega)
  have e0m : decide (l1.length = 0) = false := decide_eq_false (by omega)
  have e1n : decide (16 < l1.length) = false := decide_eq_false (by omega)
  clear hr0_1 hc0_1 hr1 hc1 h1 h2 h3 h4
  go_enter Tryd.func30, Tryd.ntmps30
  go_wp2_with (first
    | (go_at_call 35; refine (model_Right.calls a0_0 _ c0_1 l0_1 true _ (Kd.C_below HR.out (below_alloc (Below.refl _ _) _)) HC.out H1.out).mono ?_; rintro e w1 ⟨rfl, hb⟩; have HB := Aside0.mk (below_step (below_alloc (Below.refl w.heap.size w) _) hb); have hx0 : w1.cell? ⟨w.heap.size, 0, none⟩ = some (.int .i64 a0_0) := (hb.cell (by simp)).trans (by simp); have hx1 : w1.cell? ⟨w.heap.size, 1, none⟩ = some (.slice A0_1 l0_1.length c0_1) := (hb.cell (by simp)).trans (by simp); clear hb)
    | (go_at_call 36; refine (model_Tokens.calls a0_0 _ c0_1 l0_1 _ c1 l1 true _ (Kd.C_below HR.out HB.out) HC.out (Kd.C_below HR1.out HB.out) HC1.out H2.out).mono ?_; rintro e w2 ⟨rfl, hb⟩; have HB2 := Aside0.mk (below_step HB.out hb); clear hb hx0 hx1))
  go_ret
  exact ⟨rfl, HB2.out⟩
theorem hall_number.calls (w : World) : Calls Tryd.prog 29 #[.nilIface] w fun e w' => e = .returned (.int .i64 0) ∧ Below w.heap.size w w' := by
  go_enter Tryd.func29, Tryd.ntmps29
  go_wp2
  go_ret
  exact ⟨rfl, below_alloc (Below.refl _ _) _⟩
set_option maxHeartbeats 8000000 in
set_option maxRecDepth 100000 in
theorem hall_Reason.calls (a0_0 : Int) (A0_1 : Option Addr) (c0_1 : Nat) (l0_1 : List S73) (A1 : Option Addr) (c1 : Nat) (l1 : List (List Int)) (r : Int) (w : World) (hr0_1 : Kd.C k73 w A0_1 l0_1.length l0_1) (hc0_1 : l0_1.length ≤ c0_1) (hr1 : Kd.C (Kd.slice 3 (Kd.int .i64)) w A1 l1.length l1) (hc1 : l1.length ≤ c1) (h : hall_Reason.f a0_0 l0_1 l1 = some r) :
    Calls Tryd.prog 23 #[.agg #[.int .i64 a0_0, .slice A0_1 l0_1.length c0_1], .slice A1 l1.length c1] w fun e w' => e = .returned (.int .i64 r) ∧ Below w.heap.size w w' := by
  have hu := Tryd.underlying55
  have HR := Aside0.mk hr0_1
  have HC := Aside0.mk hc0_1
  have HR1 := Aside0.mk hr1
  have HC1 := Aside0.mk hc1
  unfold hall_Reason.f at h
  split at h
  case isFalse => cases h
  rename_i hh
  obtain rfl := Option.some.inj h
  have HH := Aside0.mk hh
  clear hr0_1 hc0_1 hr1 hc1 hh h
  go_enter Tryd.func23, Tryd.ntmps23
  go_wp2_with (first
    | (go_at_call 30; refine (hall_check.calls a0_0 _ c0_1 l0_1 _ c1 l1 _ (Kd.C_below HR.out (below_alloc (Below.refl _ _) _)) HC.out (Kd.C_below HR1.out (below_alloc (Below.refl _ _) _)) HC1.out HH.out.1 HH.out.2.1 HH.out.2.2.1 HH.out.2.2.2).mono ?_; rintro e w1 ⟨rfl, hb⟩; have HB := Aside0.mk (below_step (below_alloc (Below.refl w.heap.size w) _) hb); clear hb)
    | (go_at_call 29; refine (hall_number.calls _).mono ?_; rintro e w2 ⟨rfl, hb⟩; have HB2 := Aside0.mk (below_step HB.out hb); clear hb))
  go_ret
  exact ⟨rfl, HB2.out⟩

/-! ### hall_Admit: function 18 -/
def hall_Admit.j0 : Nat → Int → List (List Int) → Bool → List (S44) → Int → List (S73) → Option ((List (S44)) × Int)
  | 0, _, _, _, _, _, _ => none
  | k + 1, x2, x3, x16, x145000, x146000, x146001 => if x16 = true then (some (x145000, 1)) else ((hall_find.f x145000 x2 false).bind fun t147 => (if t147 ≥ 0 then (some (x145000, 5)) else ((hall_Reason.f x146000 x146001 x3).bind fun t148 => (if t148 = 0 then ((hall_Open.f k x145000).bind fun t149 => (if (t149.length : Int) ≥ 4 then (some (x145000, 8)) else ((hall_Entry_25.f x145000).bind fun t152 => ((slices_Clone_int_int.f x3).bind fun t155 => (if t152.length < 2199023255552 then (some ((t152 ++ [(⟨x2, t155, false, ([] : List (List Int))⟩ : S44)]), 0)) else (none)))))) else (some (x145000, t148))))))
def hall_Admit.f (k : Nat) (l0_0 : List (S44)) (a1_0 : Int) (l1_1 : List (S73)) (a2 : Int) (l3 : List (List Int)) : Option ((List (S44)) × Int) := if a2 < 1 then (hall_Admit.j0 k a2 l3 true l0_0 a1_0 l1_1) else (hall_Admit.j0 k a2 l3 (decide (a2 > 2147483647)) l0_0 a1_0 l1_1)
theorem hall_Admit.mono_l : ∀ k, (∀ y0 y1 y2 y3 y4 y5, LeO (hall_Admit.j0 k y0 y1 y2 y3 y4 y5) (hall_Admit.j0 (k + 1) y0 y1 y2 y3 y4 y5))
  | 0 => fun _ _ _ _ _ _ r h => by simp [hall_Admit.j0] at h
  | k + 1 => by
    have ih0 := hall_Admit.mono_l k
    · intro y0 y1 y2 y3 y4 y5
      unfold hall_Admit.j0
      repeat' first
      | (with_reducible exact ih0 _ _ _ _ _ _)
      | (with_reducible exact hall_Open.mono _ _)
      | (with_reducible exact LeO.refl _)
      | (with_reducible exact LeO.none _)
      | (with_reducible refine LeO.ite ?_ ?_)
      | (with_reducible refine LeO.bind ?_ (fun _ => ?_))
      | exact ih0 _ _ _ _ _ _
      | exact hall_Open.mono _ _
      | exact LeO.none _
      | refine LeO.ite ?_ ?_
      | refine LeO.bind ?_ (fun _ => ?_)
theorem hall_Admit.mono : ∀ a0 a1 a2 a3 a4 k, LeO (hall_Admit.f k a0 a1 a2 a3 a4) (hall_Admit.f (k + 1) a0 a1 a2 a3 a4) := by
  intro a0 a1 a2 a3 a4 k
  have ih0 := hall_Admit.mono_l k
  unfold hall_Admit.f
  repeat' first
      | (with_reducible exact ih0 _ _ _ _ _ _)
      | (with_reducible exact hall_Open.mono _ _)
      | (with_reducible exact LeO.refl _)
      | (with_reducible exact LeO.none _)
      | (with_reducible refine LeO.ite ?_ ?_)
      | (with_reducible refine LeO.bind ?_ (fun _ => ?_))
      | exact ih0 _ _ _ _ _ _
      | exact hall_Open.mono _ _
      | exact LeO.none _
      | refine LeO.ite ?_ ?_
      | refine LeO.bind ?_ (fun _ => ?_)
set_option maxHeartbeats 8000000 in
set_option maxRecDepth 100000 in
theorem hall_Admit.calls (k : Nat) (P0_0_ : Nat → Prop) (A0_0 : Option Addr) (c0_0 : Nat) (l0_0 : List (S44)) (a1_0 : Int) (A1_1 : Option Addr) (c1_1 : Nat) (l1_1 : List (S73)) (a2 : Int) (P3_ : Nat → Prop) (A3 : Option Addr) (c3 : Nat) (l3 : List (List Int)) (r1 : List (S44)) (r2 : Int) (w : World) (hs0_0 : Kd.V k44 44 w w.heap.size (fun k_ => P0_0_ k_) (.slice A0_0 l0_0.length c0_0) l0_0) (hr1_1 : Kd.C k73 w A1_1 l1_1.length l1_1) (hc1_1 : l1_1.length ≤ c1_1) (hs3 : Kd.V (Kd.slice 3 (Kd.int .i64)) 42 w w.heap.size (fun k_ => P3_ k_) (.slice A3 l3.length c3) l3) (h : hall_Admit.f k l0_0 a1_0 l1_1 a2 l3 = some (r1, r2)) :
    Calls Tryd.prog 18 #[.agg #[.slice A0_0 l0_0.length c0_0], .agg #[.int .i64 a1_0, .slice A1_1 l1_1.length c1_1], .int .i64 a2, .slice A3 l3.length c3] w fun e w' => ∃ v0_ : Value, e = .returned (.tuple #[.agg #[v0_], .int .i64 r2]) ∧ Kd.V k44 44 w' w.heap.size (fun k_ => ((P0_0_ k_ ∨ P3_ k_) ∨ w.heap.size ≤ k_)) v0_ r1 ∧ Below w.heap.size w w' := by
  have hu24 := Tryd.underlying24
  have hu55 := Tryd.underlying55
  have hu44 := Tryd.underlying44
  have HO0_0 := Aside0.mk (show Kd.V k44 44 w w.heap.size (fun k_ => ((P0_0_ k_ ∨ P3_ k_) ∨ w.heap.size ≤ k_)) (.slice A0_0 l0_0.length c0_0) l0_0 from Kd.V_mono hs0_0 (fun k_ hk => .inl (.inl hk)))
  have HR1_1 := Aside0.mk hr1_1
  have HC1_1 := Aside0.mk hc1_1
  clear hr1_1 hc1_1
  have HO3 := Aside0.mk (show Kd.V (Kd.slice 3 (Kd.int .i64)) 42 w w.heap.size (fun k_ => ((P0_0_ k_ ∨ P3_ k_) ∨ w.heap.size ≤ k_)) (.slice A3 l3.length c3) l3 from Kd.V_mono hs3 (fun k_ hk => .inl (.inr hk)))
  have HB := Aside0.mk (Below.refl w.heap.size w)
  have H : (if a2 < 1 then (hall_Admit.j0 k a2 l3 true l0_0 a1_0 l1_1) else (hall_Admit.j0 k a2 l3 (decide (a2 > 2147483647)) l0_0 a1_0 l1_1)) = some (r1, r2) := h
  clear h
  have HC5 := Aside0.mk H
  clear H
  go_enter Tryd.func18, Tryd.ntmps18
  go_upto_region 1 with (first | ((with_reducible refine gate_dst (N := 4) rfl ?_); refine box_event ?hg (N := 4) ?hd (cs := #[.slice A0_0 l0_0.length c0_0]) (t := 24) ?hr ?_; (case hd => rfl); (case hg => rfl); (case hr => first | (go_simp; done) | (go_simp; rfl)); intro gb144 hg w6 hbox hb; have n0_ := Aside0.mk (Kd.V_below (Kd.V_elderB (by (with_reducible repeat (first | apply Kd.V_alloc | apply Kd.V_drewN | apply Kd.V_drew)); exact HO0_0.out) gb144 (Nat.le_of_eq hg.symm)) hb); have n1_ := Aside0.mk (Kd.V_below (Kd.V_elderB (by (with_reducible repeat (first | apply Kd.V_alloc | apply Kd.V_drewN | apply Kd.V_drew)); exact HO3.out) gb144 (Nat.le_of_eq hg.symm)) hb); have n2_ := Aside0.mk (below_step (by repeat (first | (with_reducible first | exact HB.out | apply below_alloc | apply pw_below_drewN | apply below_drew1) | exact HB.out)) hb); have n3_ := Aside0.mk (hbox); have n4_ := Aside0.mk ((by rw [hg]; exact (below_size (by repeat (first | (with_reducible first | exact HB.out | apply below_alloc | apply pw_below_drewN | apply below_drew1) | exact HB.out))) : w.heap.size ≤ gb144)); have n5_ := Aside0.mk ((by rw [hg]; exact (below_size (by repeat (first | (with_reducible first | exact HB.out | apply below_alloc | apply pw_below_drewN | apply below_drew1) | exact HB.out))) : w.heap.size ≤ gb144)); clear HO0_0; clear HO3; clear HB; have HO0_0 := n0_; have HO3 := n1_; have HB := n2_; have BK144 := n3_; have GW144 := n4_; have GE144 := n5_; clear n0_ n1_ n2_ n3_ n4_ n5_; clear hb hbox hg) | ((with_reducible refine gate_dst (N := 5) rfl ?_); refine box_event ?hg (N := 5) ?hd (cs := #[.int .i64 a1_0, .slice A1_1 l1_1.length c1_1]) (t := 55) ?hr ?_; (case hd => rfl); (case hg => rfl); (case hr => first | (go_simp; done) | (go_simp; rfl)); intro gb145 hg w7 hbox hb; have n0_ := Aside0.mk (Kd.V_below (Kd.V_elderB (by (with_reducible repeat (first | apply Kd.V_alloc | apply Kd.V_drewN | apply Kd.V_drew)); exact HO0_0.out) gb145 (Nat.le_of_eq hg.symm)) hb); have n1_ := Aside0.mk (Kd.V_below (Kd.V_elderB (by (with_reducible repeat (first | apply Kd.V_alloc | apply Kd.V_drewN | apply Kd.V_drew)); exact HO3.out) gb145 (Nat.le_of_eq hg.symm)) hb); have n2_ := Aside0.mk (blk_below (g := gb144) (o := .cells #[.slice A0_0 l0_0.length c0_0] 24 (0, 0)) (by (with_reducible repeat (first | refine blk_drewN ?_ _ | refine blk_drew ?_ | refine blk_alloc ?_ _)); exact BK144.out) hb); have n3_ := Aside0.mk (below_step (by repeat (first | (with_reducible first | exact HB.out | apply below_alloc | apply pw_below_drewN | apply below_drew1 | refine below_set ?_ GE144.out) | exact HB.out)) hb); have n4_ := Aside0.mk (hbox); have n5_ := Aside0.mk ((by rw [hg]; exact (below_size (by repeat (first | (with_reducible first | exact HB.out | apply below_alloc | apply pw_below_drewN | apply below_drew1 | refine below_set ?_ GE144.out) | exact HB.out))) : w.heap.size ≤ gb145)); have n6_ := Aside0.mk ((by rw [hg]; exact (below_size (by repeat (first | (with_reducible first | exact HB.out | apply below_alloc | apply pw_below_drewN | apply below_drew1 | refine below_set ?_ GE144.out) | exact HB.out))) : w.heap.size ≤ gb145)); have n7_ := Aside0.mk ((by rw [hg]; exact Nat.ne_of_lt (blk_lt (g := gb144) (o := .cells #[.slice A0_0 l0_0.length c0_0] 24 (0, 0)) (by (with_reducible repeat (first | refine blk_drewN ?_ _ | refine blk_drew ?_ | refine blk_alloc ?_ _)); exact BK144.out)) : gb144 ≠ gb145)); have n8_ := Aside0.mk ((by rw [hg]; exact Nat.ne_of_gt (blk_lt (g := gb144) (o := .cells #[.slice A0_0 l0_0.length c0_0] 24 (0, 0)) (by (with_reducible repeat (first | refine blk_drewN ?_ _ | refine blk_drew ?_ | refine blk_alloc ?_ _)); exact BK144.out)) : gb145 ≠ gb144)); clear HO0_0; clear HO3; clear BK144; clear HB; have HO0_0 := n0_; have HO3 := n1_; have BK144 := n2_; have HB := n3_; have BK145 := n4_; have GW145 := n5_; have GE145 := n6_; have NB144_145 := n7_; have NB145_144 := n8_; clear n0_ n1_ n2_ n3_ n4_ n5_ n6_ n7_ n8_; clear hb hbox hg) | ((with_reducible refine gate_dst (N := 8) rfl ?_); refine box_event ?hg (N := 8) ?hd (cs := #[.slice none 0 0]) (t := 24) ?hr ?_; (case hd => rfl); (case hg => rfl); (case hr => first | (go_simp; done) | (go_simp; rfl)); intro gb146 hg w8 hbox hb; have n0_ := Aside0.mk (Kd.V_below (Kd.V_elderB (by (with_reducible repeat (first | apply Kd.V_alloc | apply Kd.V_drewN | apply Kd.V_drew)); exact HO0_0.out) gb146 (Nat.le_of_eq hg.symm)) hb); have n1_ := Aside0.mk (Kd.V_below (Kd.V_elderB (by (with_reducible repeat (first | apply Kd.V_alloc | apply Kd.V_drewN | apply Kd.V_drew)); exact HO3.out) gb146 (Nat.le_of_eq hg.symm)) hb); have n2_ := Aside0.mk (blk_below (g := gb144) (o := .cells #[.slice A0_0 l0_0.length c0_0] 24 (0, 0)) (by (with_reducible repeat (first | refine blk_drewN ?_ _ | refine blk_drew ?_ | refine blk_alloc ?_ _)); exact BK144.out) hb); have n3_ := Aside0.mk (blk_below (g := gb145) (o := .cells #[.int .i64 a1_0, .slice A1_1 l1_1.length c1_1] 55 (0, 0)) (by (with_reducible repeat (first | refine blk_drewN ?_ _ | refine blk_drew ?_ | refine blk_alloc ?_ _)); exact BK145.out) hb); have n4_ := Aside0.mk (below_step (by repeat (first | (with_reducible first | exact HB.out | apply below_alloc | apply pw_below_drewN | apply below_drew1 | refine below_set ?_ GE144.out | refine below_set ?_ GE145.out) | exact HB.out)) hb); have n5_ := Aside0.mk (hbox); have n6_ := Aside0.mk ((by rw [hg]; exact (below_size (by repeat (first | (with_reducible first | exact HB.out | apply below_alloc | apply pw_below_drewN | apply below_drew1 | refine below_set ?_ GE144.out | refine below_set ?_ GE145.out) | exact HB.out))) : w.heap.size ≤ gb146)); have n7_ := Aside0.mk ((by rw [hg]; exact (below_size (by repeat (first | (with_reducible first | exact HB.out | apply below_alloc | apply pw_below_drewN | apply below_drew1 | refine below_set ?_ GE144.out | refine below_set ?_ GE145.out) | exact HB.out))) : w.heap.size ≤ gb146)); have n8_ := Aside0.mk ((by rw [hg]; exact Nat.ne_of_lt (blk_lt (g := gb144) (o := .cells #[.slice A0_0 l0_0.length c0_0] 24 (0, 0)) (by (with_reducible repeat (first | refine blk_drewN ?_ _ | refine blk_drew ?_ | refine blk_alloc ?_ _)); exact BK144.out)) : gb144 ≠ gb146)); have n9_ := Aside0.mk ((by rw [hg]; exact Nat.ne_of_gt (blk_lt (g := gb144) (o := .cells #[.slice A0_0 l0_0.length c0_0] 24 (0, 0)) (by (with_reducible repeat (first | refine blk_drewN ?_ _ | refine blk_drew ?_ | refine blk_alloc ?_ _)); exact BK144.out)) : gb146 ≠ gb144)); have n10_ := Aside0.mk ((by rw [hg]; exact Nat.ne_of_lt (blk_lt (g := gb145) (o := .cells #[.int .i64 a1_0, .slice A1_1 l1_1.length c1_1] 55 (0, 0)) (by (with_reducible repeat (first | refine blk_drewN ?_ _ | refine blk_drew ?_ | refine blk_alloc ?_ _)); exact BK145.out)) : gb145 ≠ gb146)); have n11_ := Aside0.mk ((by rw [hg]; exact Nat.ne_of_gt (blk_lt (g := gb145) (o := .cells #[.int .i64 a1_0, .slice A1_1 l1_1.length c1_1] 55 (0, 0)) (by (with_reducible repeat (first | refine blk_drewN ?_ _ | refine blk_drew ?_ | refine blk_alloc ?_ _)); exact BK145.out)) : gb146 ≠ gb145)); clear HO0_0; clear HO3; clear BK144; clear BK145; clear HB; have HO0_0 := n0_; have HO3 := n1_; have BK144 := n2_; have BK145 := n3_; have HB := n4_; have BK146 := n5_; have GW146 := n6_; have GE146 := n7_; have NB144_146 := n8_; have NB146_144 := n9_; have NB145_146 := n10_; have NB146_145 := n11_; clear n0_ n1_ n2_ n3_ n4_ n5_ n6_ n7_ n8_ n9_ n10_ n11_; clear hb hbox hg))
  (try simp only [Act.put, List.setIfInBounds_toArray, List.set_cons_zero, List.set_cons_succ])
  go_cut [16] (fun v16 wc => ∃ (kq : Nat) (x16_4 : Bool), v16 = .bool x16_4 ∧ Aside0 (hall_Admit.j0 kq a2 l3 x16_4 l0_0 a1_0 l1_1 = some (r1, r2)) ∧ Aside0 (kq ≤ k) ∧ Aside0 (Kd.V (Kd.slice 3 (Kd.int .i64)) 42 wc w.heap.size (fun k_ => ((P0_0_ k_ ∨ P3_ k_) ∨ w.heap.size ≤ k_) ∧ k_ ≠ gb144 ∧ k_ ≠ gb145 ∧ k_ ≠ gb146) (.slice A3 l3.length c3) l3) ∧ Aside0 (Kd.V k44 44 wc w.heap.size (fun k_ => ((P0_0_ k_ ∨ P3_ k_) ∨ w.heap.size ≤ k_) ∧ k_ ≠ gb144 ∧ k_ ≠ gb145 ∧ k_ ≠ gb146) (.slice A0_0 l0_0.length c0_0) l0_0) ∧ Aside0 (wc.heap[gb144]? = some (.cells #[(.slice A0_0 l0_0.length c0_0)] 24 (0, 0))) ∧ Aside0 (wc.heap[gb145]? = some (.cells #[.int .i64 a1_0, (.slice A1_1 l1_1.length c1_1)] 55 (0, 0))) ∧ Aside0 (wc.heap[gb146]? = some (.cells #[(.slice none 0 0)] 24 (0, 0))) ∧ Aside0 (Below w.heap.size w wc))
  case first =>
    have H := HC5.out
    clear HC5
    by_cases c9 : a2 < 1
    · rw [if_pos c9] at H
      have c9b0 : decide (a2 < 1) = true := decide_eq_true c9
      clear c9
      (first | rw [c9b0] | (simp only [i64_w, i32_w]; rw [c9b0]) | skip)
      have H' := Aside0.mk H
      clear H
      go_wp2
      go_meet
      case rel => exact ⟨_, (true), (by first | rfl | (simp; done) | (simp [*]; done)), H', ⟨by first | omega | exact Nat.le_refl _⟩, ⟨by (with_reducible repeat (first | apply Kd.V_alloc | apply Kd.V_drewN | apply Kd.V_drew)); exact Kd.V_mono HO3.out (fun _ hk => ⟨hk.1.1.1, ⟨hk.1.1.2, ⟨hk.1.2, hk.2⟩⟩⟩)⟩, ⟨by (with_reducible repeat (first | apply Kd.V_alloc | apply Kd.V_drewN | apply Kd.V_drew)); exact Kd.V_mono HO0_0.out (fun _ hk => ⟨hk.1.1.1, ⟨hk.1.1.2, ⟨hk.1.2, hk.2⟩⟩⟩)⟩, ⟨by (with_reducible repeat (first | refine blk_drewN ?_ _ | refine blk_drew ?_ | refine blk_alloc ?_ _)); exact BK144.out⟩, ⟨by (with_reducible repeat (first | refine blk_drewN ?_ _ | refine blk_drew ?_ | refine blk_alloc ?_ _)); exact BK145.out⟩, ⟨by (with_reducible repeat (first | refine blk_drewN ?_ _ | refine blk_drew ?_ | refine blk_alloc ?_ _)); exact BK146.out⟩, ⟨by repeat (first | (with_reducible first | exact HB.out | apply below_alloc | apply pw_below_drewN | apply below_drew1 | refine below_set ?_ GE144.out | refine below_set ?_ GE145.out | refine below_set ?_ GE146.out) | exact HB.out)⟩⟩
    · rw [if_neg c9] at H
      have c9b0 : decide (a2 < 1) = false := decide_eq_false c9
      clear c9
      (first | rw [c9b0] | (simp only [i64_w, i32_w]; rw [c9b0]) | skip)
      have H' := Aside0.mk H
      clear H
      go_wp2
      go_meet
      case rel => exact ⟨_, (decide (a2 > 2147483647)), (by first | rfl | (simp; done) | (simp [*]; done)), H', ⟨by first | omega | exact Nat.le_refl _⟩, ⟨by (with_reducible repeat (first | apply Kd.V_alloc | apply Kd.V_drewN | apply Kd.V_drew)); exact Kd.V_mono HO3.out (fun _ hk => ⟨hk.1.1.1, ⟨hk.1.1.2, ⟨hk.1.2, hk.2⟩⟩⟩)⟩, ⟨by (with_reducible repeat (first | apply Kd.V_alloc | apply Kd.V_drewN | apply Kd.V_drew)); exact Kd.V_mono HO0_0.out (fun _ hk => ⟨hk.1.1.1, ⟨hk.1.1.2, ⟨hk.1.2, hk.2⟩⟩⟩)⟩, ⟨by (with_reducible repeat (first | refine blk_drewN ?_ _ | refine blk_drew ?_ | refine blk_alloc ?_ _)); exact BK144.out⟩, ⟨by (with_reducible repeat (first | refine blk_drewN ?_ _ | refine blk_drew ?_ | refine blk_alloc ?_ _)); exact BK145.out⟩, ⟨by (with_reducible repeat (first | refine blk_drewN ?_ _ | refine blk_drew ?_ | refine blk_alloc ?_ _)); exact BK146.out⟩, ⟨by repeat (first | (with_reducible first | exact HB.out | apply below_alloc | apply pw_below_drewN | apply below_drew1 | refine below_set ?_ GE144.out | refine below_set ?_ GE145.out | refine below_set ?_ GE146.out) | exact HB.out)⟩⟩
  case rest =>
    clear HC5
    try clear c1
    try clear p2
    try clear c3
    try clear c9
    try clear c9b0
    obtain ⟨kq, x16_4, rfl, HA, HJ4, HO_3, HO_145000, BK144, BK145, BK146, HB⟩ := hcut
    cases kq with
    | zero => exact absurd HA.out (by simp [hall_Admit.j0])
    | succ kj4 =>
      have H := HA.out
      clear HA
      simp only [hall_Admit.j0] at H
      by_cases c10 : x16_4 = true
      · subst c10
        have H1 : (some (l0_0, 1)) = some (r1, r2) := by rw [if_pos rfl] at H; exact H
        clear H
        have H := H1
        clear H1
        simp only [Option.some.injEq, Prod.mk.injEq] at H
        obtain ⟨rfl, rfl⟩ := H
        have hnb11 := NB144_145.out
        have hnc11 := NB145_144.out
        have hnb12 := NB144_146.out
        have hnc12 := NB146_144.out
        have hcz13_0 : wc.cell? ⟨gb144, 0, none⟩ = some (.slice A0_0 l0_0.length c0_0) := (blk_cell BK144.out 0).trans rfl
        have hfz13_0 := blk_frozen BK144.out 0
        have hnb14 := NB146_145.out
        have hnc14 := NB145_146.out
        have hcz15_0 : wc.cell? ⟨gb146, 0, none⟩ = some (.slice none 0 0) := (blk_cell BK146.out 0).trans rfl
        have hfz15_0 := blk_frozen BK146.out 0
        go_wp2
        refine bodyPost_ret (results_ct rfl _ _ gb146 24 #[.slice A0_0 l0_0.length c0_0] (0, 0) _ rfl (by (with_reducible repeat (first | refine blk_drewN ?_ _ | refine blk_drew ?_ | refine blk_alloc ?_ _)); refine blk_put (cs := #[.slice none 0 0]) ?_ 0 _ rfl; (with_reducible repeat (first | refine blk_drewN ?_ _ | refine blk_drew ?_ | refine blk_alloc ?_ _)); exact BK146.out) Tryd.underlying24 rfl (by kernel_rfl)) rfl ?_
        exact ⟨_, by first | rfl | (simp [errW_none, errW_some] <;> rfl) | (simp [*, errW_none, errW_some] <;> rfl), by (with_reducible repeat (first | apply Kd.V_alloc | apply Kd.V_drewN | apply Kd.V_drew)); exact Kd.V_mono (Kd.V_far (p := ⟨gb146, 0, none⟩) (Kd.V_mono HO_145000.out (fun k_ hk => (⟨hk, hk.2.2.2⟩ : _ ∧ k_ ≠ gb146))) (fun _ hk => hk.2) (.slice A0_0 l0_0.length c0_0)) (fun _ hk => hk.1.1), by repeat (first | (with_reducible first | exact HB.out | apply below_alloc | apply pw_below_drewN | apply below_drew1 | refine below_set ?_ GE144.out | refine below_set ?_ GE145.out | refine below_set ?_ GE146.out) | exact HB.out)⟩
      · replace c10 := Bool.eq_false_iff.mpr c10
        subst c10
        have H1 : ((hall_find.f l0_0 a2 false).bind fun t147 => (if t147 ≥ 0 then (some (l0_0, 5)) else ((hall_Reason.f a1_0 l1_1 l3).bind fun t148 => (if t148 = 0 then ((hall_Open.f kj4 l0_0).bind fun t149 => (if (t149.length : Int) ≥ 4 then (some (l0_0, 8)) else ((hall_Entry_25.f l0_0).bind fun t152 => ((slices_Clone_int_int.f l3).bind fun t155 => (if t152.length < 2199023255552 then (some ((t152 ++ [(⟨a2, t155, false, ([] : List (List Int))⟩ : S44)]), 0)) else (none)))))) else (some (l0_0, t148)))))) = some (r1, r2) := by rw [if_neg (show ¬ (false = true) by decide)] at H; exact H
        clear H
        have H := H1
        clear H1
        replace H := Option.bind_eq_some_iff.mp H
        obtain ⟨t147, A160, H⟩ := H
        replace H : (if t147 ≥ 0 then (some (l0_0, 5)) else ((hall_Reason.f a1_0 l1_1 l3).bind fun t148 => (if t148 = 0 then ((hall_Open.f kj4 l0_0).bind fun t149 => (if (t149.length : Int) ≥ 4 then (some (l0_0, 8)) else ((hall_Entry_25.f l0_0).bind fun t152 => ((slices_Clone_int_int.f l3).bind fun t155 => (if t152.length < 2199023255552 then (some ((t152 ++ [(⟨a2, t155, false, ([] : List (List Int))⟩ : S44)]), 0)) else (none)))))) else (some (l0_0, t148))))) = some (r1, r2) := H
        have A16 := Aside0.mk A160
        clear A160
        by_cases c17 : t147 ≥ 0
        · rw [if_pos c17] at H
          have c17b0 : decide (0 ≤ t147) = true := decide_eq_true c17
          clear c17
          simp only [Option.some.injEq, Prod.mk.injEq] at H
          obtain ⟨rfl, rfl⟩ := H
          have hnb18 := NB144_145.out
          have hnc18 := NB145_144.out
          have hnb19 := NB144_146.out
          have hnc19 := NB146_144.out
          have hcz20_0 : wc.cell? ⟨gb144, 0, none⟩ = some (.slice A0_0 l0_0.length c0_0) := (blk_cell BK144.out 0).trans rfl
          have hfz20_0 := blk_frozen BK144.out 0
          go_wp2_with (first | ((with_reducible refine gate_callee (f := 24) rfl ?_); refine goesL_ (some 20) rfl rfl Tryd.func24 (by kernel_rfl) rfl #[.agg #[.slice A0_0 l0_0.length c0_0], .int .i64 a2, .bool false] rfl (by (try simp only [List.map_toArray, List.map_cons, List.map_nil]); first | done | rfl | (simp only [List.length_drop, List.length_take]; rfl)) ?_; (with_reducible refine (hall_find.calls _ _ l0_0 a2 false t147 _ ?side1 ?side2 A16.out).mono ?_); (case side1 => repeat (first | exact (Kd.V_reads' HO_145000.out).2.2 | (with_reducible refine Kd.C_alloc ?_ _) | (with_reducible refine Kd.C_drewN ?_ _) | (with_reducible refine Kd.C_drew ?_))); (case side2 => exact (Kd.V_reads' HO_145000.out).2.1); rintro e w21 ⟨rfl, hb⟩; refine ⟨_, rfl, ?_⟩; have n0_ := Aside0.mk (Kd.V_below (by (with_reducible repeat (first | apply Kd.V_alloc | apply Kd.V_drewN | apply Kd.V_drew)); exact HO_3.out) hb); have n1_ := Aside0.mk (Kd.V_below (by (with_reducible repeat (first | apply Kd.V_alloc | apply Kd.V_drewN | apply Kd.V_drew)); exact HO_145000.out) hb); have n2_ := Aside0.mk (blk_below (g := gb144) (o := .cells #[.slice A0_0 l0_0.length c0_0] 24 (0, 0)) (by (with_reducible repeat (first | refine blk_drewN ?_ _ | refine blk_drew ?_ | refine blk_alloc ?_ _)); exact BK144.out) hb); have n3_ := Aside0.mk (blk_below (g := gb145) (o := .cells #[.int .i64 a1_0, .slice A1_1 l1_1.length c1_1] 55 (0, 0)) (by (with_reducible repeat (first | refine blk_drewN ?_ _ | refine blk_drew ?_ | refine blk_alloc ?_ _)); exact BK145.out) hb); have n4_ := Aside0.mk (blk_below (g := gb146) (o := .cells #[.slice none 0 0] 24 (0, 0)) (by (with_reducible repeat (first | refine blk_drewN ?_ _ | refine blk_drew ?_ | refine blk_alloc ?_ _)); exact BK146.out) hb); have n5_ := Aside0.mk (below_step (by repeat (first | (with_reducible first | exact HB.out | apply below_alloc | apply pw_below_drewN | apply below_drew1 | refine below_set ?_ GE144.out | refine below_set ?_ GE145.out | refine below_set ?_ GE146.out) | exact HB.out)) hb); clear HO_3; clear HO_145000; clear BK144; clear BK145; clear BK146; clear HB; have HO_3 := n0_; have HO_145000 := n1_; have BK144 := n2_; have BK145 := n3_; have BK146 := n4_; have HB := n5_; clear n0_ n1_ n2_ n3_ n4_ n5_; (try clear hb); (try clear hb2); (try clear hk); (try clear hi); have hcz22_0 : w21.cell? ⟨gb144, 0, none⟩ = some (.slice A0_0 l0_0.length c0_0) := (blk_cell BK144.out 0).trans rfl; have hfz22_0 := blk_frozen BK144.out 0; have hnb23 := NB146_145.out; have hnc23 := NB145_146.out; have hcz24_0 : w21.cell? ⟨gb146, 0, none⟩ = some (.slice none 0 0) := (blk_cell BK146.out 0).trans rfl; have hfz24_0 := blk_frozen BK146.out 0))
          refine bodyPost_ret (results_ct rfl _ _ gb146 24 #[.slice A0_0 l0_0.length c0_0] (0, 0) _ rfl (by (with_reducible repeat (first | refine blk_drewN ?_ _ | refine blk_drew ?_ | refine blk_alloc ?_ _)); refine blk_put (cs := #[.slice none 0 0]) ?_ 0 _ rfl; (with_reducible repeat (first | refine blk_drewN ?_ _ | refine blk_drew ?_ | refine blk_alloc ?_ _)); exact BK146.out) Tryd.underlying24 rfl (by kernel_rfl)) rfl ?_
          exact ⟨_, by first | rfl | (simp [errW_none, errW_some] <;> rfl) | (simp [*, errW_none, errW_some] <;> rfl), by (with_reducible repeat (first | apply Kd.V_alloc | apply Kd.V_drewN | apply Kd.V_drew)); exact Kd.V_mono (Kd.V_far (p := ⟨gb146, 0, none⟩) (Kd.V_mono HO_145000.out (fun k_ hk => (⟨hk, hk.2.2.2⟩ : _ ∧ k_ ≠ gb146))) (fun _ hk => hk.2) (.slice A0_0 l0_0.length c0_0)) (fun _ hk => hk.1.1), by repeat (first | (with_reducible first | exact HB.out | apply below_alloc | apply pw_below_drewN | apply below_drew1 | refine below_set ?_ GE144.out | refine below_set ?_ GE145.out | refine below_set ?_ GE146.out) | exact HB.out)⟩
        · rw [if_neg c17] at H
          have c17b0 : decide (0 ≤ t147) = false := decide_eq_false c17
          clear c17
          replace H := Option.bind_eq_some_iff.mp H
          obtain ⟨t148, A250, H⟩ := H
          replace H : (if t148 = 0 then ((hall_Open.f kj4 l0_0).bind fun t149 => (if (t149.length : Int) ≥ 4 then (some (l0_0, 8)) else ((hall_Entry_25.f l0_0).bind fun t152 => ((slices_Clone_int_int.f l3).bind fun t155 => (if t152.length < 2199023255552 then (some ((t152 ++ [(⟨a2, t155, false, ([] : List (List Int))⟩ : S44)]), 0)) else (none)))))) else (some (l0_0, t148))) = some (r1, r2) := H
          have A25 := Aside0.mk A250
          clear A250
          by_cases c26 : t148 = 0
          · rw [if_pos c26] at H
            have c26b0 : (t148 == 0) = true := beq_iff_eq.mpr c26
            have c26b1 : (t148 != 0) = false := bne_eq_false_iff_eq.mpr c26
            clear c26
            replace H := Option.bind_eq_some_iff.mp H
            obtain ⟨t149, A270, H⟩ := H
            replace H : (if (t149.length : Int) ≥ 4 then (some (l0_0, 8)) else ((hall_Entry_25.f l0_0).bind fun t152 => ((slices_Clone_int_int.f l3).bind fun t155 => (if t152.length < 2199023255552 then (some ((t152 ++ [(⟨a2, t155, false, ([] : List (List Int))⟩ : S44)]), 0)) else (none))))) = some (r1, r2) := H
            have A27 := Aside0.mk A270
            clear A270
            by_cases c28 : (t149.length : Int) ≥ 4
            · rw [if_pos c28] at H
              have c28b0 : decide (4 ≤ (t149.length : Int)) = true := decide_eq_true c28
              have c28b1 : decide (4 ≤ t149.length) = true := decide_eq_true (by omega)
              clear c28
              simp only [Option.some.injEq, Prod.mk.injEq] at H
              obtain ⟨rfl, rfl⟩ := H
              have hnb29 := NB144_145.out
              have hnc29 := NB145_144.out
              have hnb30 := NB144_146.out
              have hnc30 := NB146_144.out
              have hcz31_0 : wc.cell? ⟨gb144, 0, none⟩ = some (.slice A0_0 l0_0.length c0_0) := (blk_cell BK144.out 0).trans rfl
              have hfz31_0 := blk_frozen BK144.out 0
              go_wp2_with (first | ((with_reducible refine gate_callee (f := 24) rfl ?_); refine goesL_ (some 20) rfl rfl Tryd.func24 (by kernel_rfl) rfl #[.agg #[.slice A0_0 l0_0.length c0_0], .int .i64 a2, .bool false] rfl (by (try simp only [List.map_toArray, List.map_cons, List.map_nil]); first | done | rfl | (simp only [List.length_drop, List.length_take]; rfl)) ?_; (with_reducible refine (hall_find.calls _ _ l0_0 a2 false t147 _ ?side1 ?side2 A16.out).mono ?_); (case side1 => repeat (first | exact (Kd.V_reads' HO_145000.out).2.2 | (with_reducible refine Kd.C_alloc ?_ _) | (with_reducible refine Kd.C_drewN ?_ _) | (with_reducible refine Kd.C_drew ?_))); (case side2 => exact (Kd.V_reads' HO_145000.out).2.1); rintro e w32 ⟨rfl, hb⟩; refine ⟨_, rfl, ?_⟩; have n0_ := Aside0.mk (Kd.V_below (by (with_reducible repeat (first | apply Kd.V_alloc | apply Kd.V_drewN | apply Kd.V_drew)); exact HO_3.out) hb); have n1_ := Aside0.mk (Kd.V_below (by (with_reducible repeat (first | apply Kd.V_alloc | apply Kd.V_drewN | apply Kd.V_drew)); exact HO_145000.out) hb); have n2_ := Aside0.mk (blk_below (g := gb144) (o := .cells #[.slice A0_0 l0_0.length c0_0] 24 (0, 0)) (by (with_reducible repeat (first | refine blk_drewN ?_ _ | refine blk_drew ?_ | refine blk_alloc ?_ _)); exact BK144.out) hb); have n3_ := Aside0.mk (blk_below (g := gb145) (o := .cells #[.int .i64 a1_0, .slice A1_1 l1_1.length c1_1] 55 (0, 0)) (by (with_reducible repeat (first | refine blk_drewN ?_ _ | refine blk_drew ?_ | refine blk_alloc ?_ _)); exact BK145.out) hb); have n4_ := Aside0.mk (blk_below (g := gb146) (o := .cells #[.slice none 0 0] 24 (0, 0)) (by (with_reducible repeat (first | refine blk_drewN ?_ _ | refine blk_drew ?_ | refine blk_alloc ?_ _)); exact BK146.out) hb); have n5_ := Aside0.mk (below_step (by repeat (first | (with_reducible first | exact HB.out | apply below_alloc | apply pw_below_drewN | apply below_drew1 | refine below_set ?_ GE144.out | refine below_set ?_ GE145.out | refine below_set ?_ GE146.out) | exact HB.out)) hb); clear HO_3; clear HO_145000; clear BK144; clear BK145; clear BK146; clear HB; have HO_3 := n0_; have HO_145000 := n1_; have BK144 := n2_; have BK145 := n3_; have BK146 := n4_; have HB := n5_; clear n0_ n1_ n2_ n3_ n4_ n5_; (try clear hb); (try clear hb2); (try clear hk); (try clear hi); have hnb33 := NB145_146.out; have hnc33 := NB146_145.out; have hcz34_0 : w32.cell? ⟨gb145, 0, none⟩ = some (.int .i64 a1_0) := (blk_cell BK145.out 0).trans rfl; have hcz34_1 : w32.cell? ⟨gb145, 1, none⟩ = some (.slice A1_1 l1_1.length c1_1) := (blk_cell BK145.out 1).trans rfl; have hfz34_0 := blk_frozen BK145.out 0; have hfz34_1 := blk_frozen BK145.out 1) | ((with_reducible refine gate_callee (f := 23) rfl ?_); refine goesL_ (some 25) rfl rfl Tryd.func23 (by kernel_rfl) rfl #[.agg #[.int .i64 a1_0, .slice A1_1 l1_1.length c1_1], .slice A3 l3.length c3] rfl (by (try simp only [List.map_toArray, List.map_cons, List.map_nil]); first | done | rfl | (simp only [List.length_drop, List.length_take]; rfl)) ?_; (with_reducible refine (hall_Reason.calls a1_0 _ _ l1_1 _ _ l3 t148 _ ?side1 ?side2 ?side3 ?side4 A25.out).mono ?_); (case side1 => repeat (first | exact (Kd.C_below HR1_1.out HB.out) | (with_reducible refine Kd.C_alloc ?_ _) | (with_reducible refine Kd.C_drewN ?_ _) | (with_reducible refine Kd.C_drew ?_))); (case side2 => exact HC1_1.out); (case side3 => repeat (first | exact (Kd.V_reads' HO_3.out).2.2 | (with_reducible refine Kd.C_alloc ?_ _) | (with_reducible refine Kd.C_drewN ?_ _) | (with_reducible refine Kd.C_drew ?_))); (case side4 => exact (Kd.V_reads' HO_3.out).2.1); rintro e w35 ⟨rfl, hb⟩; refine ⟨_, rfl, ?_⟩; have n0_ := Aside0.mk (Kd.V_below (by (with_reducible repeat (first | apply Kd.V_alloc | apply Kd.V_drewN | apply Kd.V_drew)); exact HO_3.out) hb); have n1_ := Aside0.mk (Kd.V_below (by (with_reducible repeat (first | apply Kd.V_alloc | apply Kd.V_drewN | apply Kd.V_drew)); exact HO_145000.out) hb); have n2_ := Aside0.mk (blk_below (g := gb144) (o := .cells #[.slice A0_0 l0_0.length c0_0] 24 (0, 0)) (by (with_reducible repeat (first | refine blk_drewN ?_ _ | refine blk_drew ?_ | refine blk_alloc ?_ _)); exact BK144.out) hb); have n3_ := Aside0.mk (blk_below (g := gb145) (o := .cells #[.int .i64 a1_0, .slice A1_1 l1_1.length c1_1] 55 (0, 0)) (by (with_reducible repeat (first | refine blk_drewN ?_ _ | refine blk_drew ?_ | refine blk_alloc ?_ _)); exact BK145.out) hb); have n4_ := Aside0.mk (blk_below (g := gb146) (o := .cells #[.slice none 0 0] 24 (0, 0)) (by (with_reducible repeat (first | refine blk_drewN ?_ _ | refine blk_drew ?_ | refine blk_alloc ?_ _)); exact BK146.out) hb); have n5_ := Aside0.mk (below_step (by repeat (first | (with_reducible first | exact HB.out | apply below_alloc | apply pw_below_drewN | apply below_drew1 | refine below_set ?_ GE144.out | refine below_set ?_ GE145.out | refine below_set ?_ GE146.out) | exact HB.out)) hb); clear HO_3; clear HO_145000; clear BK144; clear BK145; clear BK146; clear HB; have HO_3 := n0_; have HO_145000 := n1_; have BK144 := n2_; have BK145 := n3_; have BK146 := n4_; have HB := n5_; clear n0_ n1_ n2_ n3_ n4_ n5_; (try clear hb); (try clear hb2); (try clear hk); (try clear hi); have hcz36_0 : w35.cell? ⟨gb144, 0, none⟩ = some (.slice A0_0 l0_0.length c0_0) := (blk_cell BK144.out 0).trans rfl; have hfz36_0 := blk_frozen BK144.out 0) | ((with_reducible refine gate_callee (f := 17) rfl ?_); refine goesL_ (some 31) rfl rfl Tryd.func17 (by kernel_rfl) rfl #[.agg #[.slice A0_0 l0_0.length c0_0]] rfl (by (try simp only [List.map_toArray, List.map_cons, List.map_nil]); first | done | rfl | (simp only [List.length_drop, List.length_take]; rfl)) ?_; (with_reducible refine (hall_Open.calls kj4 _ _ l0_0 t149 _ ?side1 ?side2 A27.out).mono ?_); (case side1 => repeat (first | exact (Kd.V_reads' HO_145000.out).2.2 | (with_reducible refine Kd.C_alloc ?_ _) | (with_reducible refine Kd.C_drewN ?_ _) | (with_reducible refine Kd.C_drew ?_))); (case side2 => exact (Kd.V_reads' HO_145000.out).2.1); rintro e w37 ⟨v150, rfl, ho0, hb⟩; refine ⟨_, rfl, ?_⟩; have n0_ := Aside0.mk (Kd.V_elder' (by (with_reducible repeat (first | apply Kd.V_alloc | apply Kd.V_drewN | apply Kd.V_drew)); exact HO_3.out) (Kd.R_base ho0) hb); have n1_ := Aside0.mk (Kd.V_elder' (by (with_reducible repeat (first | apply Kd.V_alloc | apply Kd.V_drewN | apply Kd.V_drew)); exact HO_145000.out) (Kd.R_base ho0) hb); have n2_ := Aside0.mk (Kd.R_lower (Kd.R_newM (M := fun k_ => (w.heap.size ≤ k_)) ho0 (below_size (by repeat (first | (with_reducible first | exact HB.out | apply below_alloc | apply pw_below_drewN | apply below_drew1 | refine below_set ?_ GE144.out | refine below_set ?_ GE145.out | refine below_set ?_ GE146.out) | exact HB.out))) (fun k_ h_ => h_)) (below_size (by repeat (first | (with_reducible first | exact HB.out | apply below_alloc | apply pw_below_drewN | apply below_drew1 | refine below_set ?_ GE144.out | refine below_set ?_ GE145.out | refine below_set ?_ GE146.out) | exact HB.out)))); have n3_ := Aside0.mk (blk_below (g := gb144) (o := .cells #[.slice A0_0 l0_0.length c0_0] 24 (0, 0)) (by (with_reducible repeat (first | refine blk_drewN ?_ _ | refine blk_drew ?_ | refine blk_alloc ?_ _)); exact BK144.out) hb); have n4_ := Aside0.mk (blk_below (g := gb145) (o := .cells #[.int .i64 a1_0, .slice A1_1 l1_1.length c1_1] 55 (0, 0)) (by (with_reducible repeat (first | refine blk_drewN ?_ _ | refine blk_drew ?_ | refine blk_alloc ?_ _)); exact BK145.out) hb); have n5_ := Aside0.mk (blk_below (g := gb146) (o := .cells #[.slice none 0 0] 24 (0, 0)) (by (with_reducible repeat (first | refine blk_drewN ?_ _ | refine blk_drew ?_ | refine blk_alloc ?_ _)); exact BK146.out) hb); have n6_ := Aside0.mk (below_step (by repeat (first | (with_reducible first | exact HB.out | apply below_alloc | apply pw_below_drewN | apply below_drew1 | refine below_set ?_ GE144.out | refine below_set ?_ GE145.out | refine below_set ?_ GE146.out) | exact HB.out)) hb); clear HO_3; clear HO_145000; clear BK144; clear BK145; clear BK146; clear HB; have HO_3 := n0_; have HO_145000 := n1_; have HO151 := n2_; have BK144 := n3_; have BK145 := n4_; have BK146 := n5_; have HB := n6_; clear n0_ n1_ n2_ n3_ n4_ n5_ n6_; (try clear hb); (try clear hb2); (try clear hk); (try clear hi); (try clear ho0); obtain ⟨Ao38, co38, eo38⟩ := Kd.R_slice HO151.out; subst eo38; have hcz39_0 : w37.cell? ⟨gb144, 0, none⟩ = some (.slice A0_0 l0_0.length c0_0) := (blk_cell BK144.out 0).trans rfl; have hfz39_0 := blk_frozen BK144.out 0; have hcz40_0 : w37.cell? ⟨gb146, 0, none⟩ = some (.slice none 0 0) := (blk_cell BK146.out 0).trans rfl; have hfz40_0 := blk_frozen BK146.out 0))
              refine bodyPost_ret (results_ct rfl _ _ gb146 24 #[.slice A0_0 l0_0.length c0_0] (0, 0) _ rfl (by (with_reducible repeat (first | refine blk_drewN ?_ _ | refine blk_drew ?_ | refine blk_alloc ?_ _)); refine blk_put (cs := #[.slice none 0 0]) ?_ 0 _ rfl; (with_reducible repeat (first | refine blk_drewN ?_ _ | refine blk_drew ?_ | refine blk_alloc ?_ _)); exact BK146.out) Tryd.underlying24 rfl (by kernel_rfl)) rfl ?_
              exact ⟨_, by first | rfl | (simp [errW_none, errW_some] <;> rfl) | (simp [*, errW_none, errW_some] <;> rfl), by (with_reducible repeat (first | apply Kd.V_alloc | apply Kd.V_drewN | apply Kd.V_drew)); exact Kd.V_mono (Kd.V_far (p := ⟨gb146, 0, none⟩) (Kd.V_mono HO_145000.out (fun k_ hk => (⟨hk, hk.1.2.2.2⟩ : _ ∧ k_ ≠ gb146))) (fun _ hk => hk.2) (.slice A0_0 l0_0.length c0_0)) (fun _ hk => hk.1.1.1), by repeat (first | (with_reducible first | exact HB.out | apply below_alloc | apply pw_below_drewN | apply below_drew1 | refine below_set ?_ GE144.out | refine below_set ?_ GE145.out | refine below_set ?_ GE146.out) | exact HB.out)⟩
            · rw [if_neg c28] at H
              have c28b0 : decide (4 ≤ (t149.length : Int)) = false := decide_eq_false c28
              have c28b1 : decide (4 ≤ t149.length) = false := decide_eq_false (by omega)
              clear c28
              replace H := Option.bind_eq_some_iff.mp H
              obtain ⟨t152, A410, H⟩ := H
              replace H : ((slices_Clone_int_int.f l3).bind fun t155 => (if t152.length < 2199023255552 then (some ((t152 ++ [(⟨a2, t155, false, ([] : List (List Int))⟩ : S44)]), 0)) else (none))) = some (r1, r2) := H
              have A41 := Aside0.mk A410
              clear A410
              replace H := Option.bind_eq_some_iff.mp H
              obtain ⟨t155, A420, H⟩ := H
              replace H : (if t152.length < 2199023255552 then (some ((t152 ++ [(⟨a2, t155, false, ([] : List (List Int))⟩ : S44)]), 0)) else (none)) = some (r1, r2) := H
              have A42 := Aside0.mk A420
              clear A420
              by_cases c43 : t152.length < 2199023255552
              · rw [if_pos c43] at H
                have LMc43 := Aside0.mk c43
                clear c43
                obtain ⟨y158, hy158⟩ : ∃ y_ : List (S44), y_ = (t152 ++ [(⟨a2, t155, false, ([] : List (List Int))⟩ : S44)]) := ⟨_, rfl⟩
                replace H : (some (y158, 0)) = some (r1, r2) := by first | (rw [hy158]; with_reducible exact H) | (have H2_ := (Option.bind_some _ _).symm.trans H; rw [hy158]; with_reducible exact H2_) | (have H2_ := (Option.bind_some _ _).symm.trans H; with_reducible exact H2_) | with_reducible exact H | (rw [hy158]; exact H) | exact H
                have Ny158 := Aside0.mk hy158
                clear hy158
                simp only [Option.some.injEq, Prod.mk.injEq] at H
                obtain ⟨rfl, rfl⟩ := H
                have hnb44 := NB144_145.out
                have hnc44 := NB145_144.out
                have hnb45 := NB144_146.out
                have hnc45 := NB146_144.out
                have hcz46_0 : wc.cell? ⟨gb144, 0, none⟩ = some (.slice A0_0 l0_0.length c0_0) := (blk_cell BK144.out 0).trans rfl
                have hfz46_0 := blk_frozen BK144.out 0
                go_wp2_with (first | ((with_reducible refine gate_callee (f := 24) rfl ?_); refine goesL_ (some 20) rfl rfl Tryd.func24 (by kernel_rfl) rfl #[.agg #[.slice A0_0 l0_0.length c0_0], .int .i64 a2, .bool false] rfl (by (try simp only [List.map_toArray, List.map_cons, List.map_nil]); first | done | rfl | (simp only [List.length_drop, List.length_take]; rfl)) ?_; (with_reducible refine (hall_find.calls _ _ l0_0 a2 false t147 _ ?side1 ?side2 A16.out).mono ?_); (case side1 => repeat (first | exact (Kd.V_reads' HO_145000.out).2.2 | (with_reducible refine Kd.C_alloc ?_ _) | (with_reducible refine Kd.C_drewN ?_ _) | (with_reducible refine Kd.C_drew ?_))); (case side2 => exact (Kd.V_reads' HO_145000.out).2.1); rintro e w47 ⟨rfl, hb⟩; refine ⟨_, rfl, ?_⟩; have n0_ := Aside0.mk (Kd.V_below (by (with_reducible repeat (first | apply Kd.V_alloc | apply Kd.V_drewN | apply Kd.V_drew)); exact HO_3.out) hb); have n1_ := Aside0.mk (Kd.V_below (by (with_reducible repeat (first | apply Kd.V_alloc | apply Kd.V_drewN | apply Kd.V_drew)); exact HO_145000.out) hb); have n2_ := Aside0.mk (blk_below (g := gb144) (o := .cells #[.slice A0_0 l0_0.length c0_0] 24 (0, 0)) (by (with_reducible repeat (first | refine blk_drewN ?_ _ | refine blk_drew ?_ | refine blk_alloc ?_ _)); exact BK144.out) hb); have n3_ := Aside0.mk (blk_below (g := gb145) (o := .cells #[.int .i64 a1_0, .slice A1_1 l1_1.length c1_1] 55 (0, 0)) (by (with_reducible repeat (first | refine blk_drewN ?_ _ | refine blk_drew ?_ | refine blk_alloc ?_ _)); exact BK145.out) hb); have n4_ := Aside0.mk (blk_below (g := gb146) (o := .cells #[.slice none 0 0] 24 (0, 0)) (by (with_reducible repeat (first | refine blk_drewN ?_ _ | refine blk_drew ?_ | refine blk_alloc ?_ _)); exact BK146.out) hb); have n5_ := Aside0.mk (below_step (by repeat (first | (with_reducible first | exact HB.out | apply below_alloc | apply pw_below_drewN | apply below_drew1 | refine below_set ?_ GE144.out | refine below_set ?_ GE145.out | refine below_set ?_ GE146.out) | exact HB.out)) hb); clear HO_3; clear HO_145000; clear BK144; clear BK145; clear BK146; clear HB; have HO_3 := n0_; have HO_145000 := n1_; have BK144 := n2_; have BK145 := n3_; have BK146 := n4_; have HB := n5_; clear n0_ n1_ n2_ n3_ n4_ n5_; (try clear hb); (try clear hb2); (try clear hk); (try clear hi); have hnb48 := NB145_146.out; have hnc48 := NB146_145.out; have hcz49_0 : w47.cell? ⟨gb145, 0, none⟩ = some (.int .i64 a1_0) := (blk_cell BK145.out 0).trans rfl; have hcz49_1 : w47.cell? ⟨gb145, 1, none⟩ = some (.slice A1_1 l1_1.length c1_1) := (blk_cell BK145.out 1).trans rfl; have hfz49_0 := blk_frozen BK145.out 0; have hfz49_1 := blk_frozen BK145.out 1) | ((with_reducible refine gate_callee (f := 23) rfl ?_); refine goesL_ (some 25) rfl rfl Tryd.func23 (by kernel_rfl) rfl #[.agg #[.int .i64 a1_0, .slice A1_1 l1_1.length c1_1], .slice A3 l3.length c3] rfl (by (try simp only [List.map_toArray, List.map_cons, List.map_nil]); first | done | rfl | (simp only [List.length_drop, List.length_take]; rfl)) ?_; (with_reducible refine (hall_Reason.calls a1_0 _ _ l1_1 _ _ l3 t148 _ ?side1 ?side2 ?side3 ?side4 A25.out).mono ?_); (case side1 => repeat (first | exact (Kd.C_below HR1_1.out HB.out) | (with_reducible refine Kd.C_alloc ?_ _) | (with_reducible refine Kd.C_drewN ?_ _) | (with_reducible refine Kd.C_drew ?_))); (case side2 => exact HC1_1.out); (case side3 => repeat (first | exact (Kd.V_reads' HO_3.out).2.2 | (with_reducible refine Kd.C_alloc ?_ _) | (with_reducible refine Kd.C_drewN ?_ _) | (with_reducible refine Kd.C_drew ?_))); (case side4 => exact (Kd.V_reads' HO_3.out).2.1); rintro e w50 ⟨rfl, hb⟩; refine ⟨_, rfl, ?_⟩; have n0_ := Aside0.mk (Kd.V_below (by (with_reducible repeat (first | apply Kd.V_alloc | apply Kd.V_drewN | apply Kd.V_drew)); exact HO_3.out) hb); have n1_ := Aside0.mk (Kd.V_below (by (with_reducible repeat (first | apply Kd.V_alloc | apply Kd.V_drewN | apply Kd.V_drew)); exact HO_145000.out) hb); have n2_ := Aside0.mk (blk_below (g := gb144) (o := .cells #[.slice A0_0 l0_0.length c0_0] 24 (0, 0)) (by (with_reducible repeat (first | refine blk_drewN ?_ _ | refine blk_drew ?_ | refine blk_alloc ?_ _)); exact BK144.out) hb); have n3_ := Aside0.mk (blk_below (g := gb145) (o := .cells #[.int .i64 a1_0, .slice A1_1 l1_1.length c1_1] 55 (0, 0)) (by (with_reducible repeat (first | refine blk_drewN ?_ _ | refine blk_drew ?_ | refine blk_alloc ?_ _)); exact BK145.out) hb); have n4_ := Aside0.mk (blk_below (g := gb146) (o := .cells #[.slice none 0 0] 24 (0, 0)) (by (with_reducible repeat (first | refine blk_drewN ?_ _ | refine blk_drew ?_ | refine blk_alloc ?_ _)); exact BK146.out) hb); have n5_ := Aside0.mk (below_step (by repeat (first | (with_reducible first | exact HB.out | apply below_alloc | apply pw_below_drewN | apply below_drew1 | refine below_set ?_ GE144.out | refine below_set ?_ GE145.out | refine below_set ?_ GE146.out) | exact HB.out)) hb); clear HO_3; clear HO_145000; clear BK144; clear BK145; clear BK146; clear HB; have HO_3 := n0_; have HO_145000 := n1_; have BK144 := n2_; have BK145 := n3_; have BK146 := n4_; have HB := n5_; clear n0_ n1_ n2_ n3_ n4_ n5_; (try clear hb); (try clear hb2); (try clear hk); (try clear hi); have hcz51_0 : w50.cell? ⟨gb144, 0, none⟩ = some (.slice A0_0 l0_0.length c0_0) := (blk_cell BK144.out 0).trans rfl; have hfz51_0 := blk_frozen BK144.out 0) | ((with_reducible refine gate_callee (f := 17) rfl ?_); refine goesL_ (some 31) rfl rfl Tryd.func17 (by kernel_rfl) rfl #[.agg #[.slice A0_0 l0_0.length c0_0]] rfl (by (try simp only [List.map_toArray, List.map_cons, List.map_nil]); first | done | rfl | (simp only [List.length_drop, List.length_take]; rfl)) ?_; (with_reducible refine (hall_Open.calls kj4 _ _ l0_0 t149 _ ?side1 ?side2 A27.out).mono ?_); (case side1 => repeat (first | exact (Kd.V_reads' HO_145000.out).2.2 | (with_reducible refine Kd.C_alloc ?_ _) | (with_reducible refine Kd.C_drewN ?_ _) | (with_reducible refine Kd.C_drew ?_))); (case side2 => exact (Kd.V_reads' HO_145000.out).2.1); rintro e w52 ⟨v150, rfl, ho0, hb⟩; refine ⟨_, rfl, ?_⟩; have n0_ := Aside0.mk (Kd.V_elder' (by (with_reducible repeat (first | apply Kd.V_alloc | apply Kd.V_drewN | apply Kd.V_drew)); exact HO_3.out) (Kd.R_base ho0) hb); have n1_ := Aside0.mk (Kd.V_elder' (by (with_reducible repeat (first | apply Kd.V_alloc | apply Kd.V_drewN | apply Kd.V_drew)); exact HO_145000.out) (Kd.R_base ho0) hb); have n2_ := Aside0.mk (Kd.R_lower (Kd.R_newM (M := fun k_ => (w.heap.size ≤ k_)) ho0 (below_size (by repeat (first | (with_reducible first | exact HB.out | apply below_alloc | apply pw_below_drewN | apply below_drew1 | refine below_set ?_ GE144.out | refine below_set ?_ GE145.out | refine below_set ?_ GE146.out) | exact HB.out))) (fun k_ h_ => h_)) (below_size (by repeat (first | (with_reducible first | exact HB.out | apply below_alloc | apply pw_below_drewN | apply below_drew1 | refine below_set ?_ GE144.out | refine below_set ?_ GE145.out | refine below_set ?_ GE146.out) | exact HB.out)))); have n3_ := Aside0.mk (blk_below (g := gb144) (o := .cells #[.slice A0_0 l0_0.length c0_0] 24 (0, 0)) (by (with_reducible repeat (first | refine blk_drewN ?_ _ | refine blk_drew ?_ | refine blk_alloc ?_ _)); exact BK144.out) hb); have n4_ := Aside0.mk (blk_below (g := gb145) (o := .cells #[.int .i64 a1_0, .slice A1_1 l1_1.length c1_1] 55 (0, 0)) (by (with_reducible repeat (first | refine blk_drewN ?_ _ | refine blk_drew ?_ | refine blk_alloc ?_ _)); exact BK145.out) hb); have n5_ := Aside0.mk (blk_below (g := gb146) (o := .cells #[.slice none 0 0] 24 (0, 0)) (by (with_reducible repeat (first | refine blk_drewN ?_ _ | refine blk_drew ?_ | refine blk_alloc ?_ _)); exact BK146.out) hb); have n6_ := Aside0.mk (below_step (by repeat (first | (with_reducible first | exact HB.out | apply below_alloc | apply pw_below_drewN | apply below_drew1 | refine below_set ?_ GE144.out | refine below_set ?_ GE145.out | refine below_set ?_ GE146.out) | exact HB.out)) hb); clear HO_3; clear HO_145000; clear BK144; clear BK145; clear BK146; clear HB; have HO_3 := n0_; have HO_145000 := n1_; have HO151 := n2_; have BK144 := n3_; have BK145 := n4_; have BK146 := n5_; have HB := n6_; clear n0_ n1_ n2_ n3_ n4_ n5_ n6_; (try clear hb); (try clear hb2); (try clear hk); (try clear hi); (try clear ho0); obtain ⟨Ao53, co53, eo53⟩ := Kd.R_slice HO151.out; subst eo53; have hcz54_0 : w52.cell? ⟨gb144, 0, none⟩ = some (.slice A0_0 l0_0.length c0_0) := (blk_cell BK144.out 0).trans rfl; have hfz54_0 := blk_frozen BK144.out 0) | ((with_reducible refine gate_callee (f := 25) rfl ?_); refine goesL_ (some 37) rfl rfl Tryd.func25 (by kernel_rfl) rfl #[.slice A0_0 l0_0.length c0_0] rfl (by (try simp only [List.map_toArray, List.map_cons, List.map_nil]); first | done | rfl | (simp only [List.length_drop, List.length_take]; rfl)) ?_; (with_reducible refine (hall_Entry_25.calls (fun k_ => ((((P0_0_ k_ ∨ P3_ k_) ∨ w.heap.size ≤ k_) ∧ (k_ ≠ gb144 ∧ (k_ ≠ gb145 ∧ k_ ≠ gb146))) ∧ some k_ ≠ (.slice Ao53 t149.length co53 : Value).ownBlock)) _ _ l0_0 t152 _ ?side1 A41.out).mono ?_); (case side1 => exact HO_145000.out); rintro e w55 ⟨v153, rfl, ho0, hb⟩; refine ⟨_, rfl, ?_⟩; have n0_ := Aside0.mk (Kd.V_elder' (by (with_reducible repeat (first | apply Kd.V_alloc | apply Kd.V_drewN | apply Kd.V_drew)); exact HO_3.out) (Kd.N_base ho0) hb); have n1_ := Aside0.mk (Kd.V_elder' (by (with_reducible repeat (first | apply Kd.V_alloc | apply Kd.V_drewN | apply Kd.V_drew)); exact HO_145000.out) (Kd.N_base ho0) hb); have n2_ := Aside0.mk (Kd.R_below (by (with_reducible repeat (first | apply Kd.R_alloc | apply Kd.R_drewN | apply Kd.R_drew)); exact HO151.out) hb); have n3_ := Aside0.mk (Kd.N_lower (Kd.N_mono (ok' := fun k_ => ((P0_0_ k_ ∨ P3_ k_) ∨ w.heap.size ≤ k_) ∧ some k_ ≠ (.slice Ao53 t149.length co53 : Value).ownBlock ∧ k_ ≠ gb144 ∧ k_ ≠ gb145 ∧ k_ ≠ gb146) ho0 (fun k_ hk_ => ⟨Or.elim hk_ (fun hs_ => hs_.1.1) (fun hn_ => (.inr (Nat.le_trans (below_size (by repeat (first | (with_reducible first | exact HB.out | apply below_alloc | apply pw_below_drewN | apply below_drew1 | refine below_set ?_ GE144.out | refine below_set ?_ GE145.out | refine below_set ?_ GE146.out) | exact HB.out))) hn_))), Or.elim hk_ (fun hs_ => hs_.2) (fun hn_ => (Kd.fresh' (Kd.R_lt (by (with_reducible repeat (first | apply Kd.R_alloc | apply Kd.R_drewN | apply Kd.R_drew)); exact HO151.out)) k_ hn_)), Or.elim hk_ (fun hs_ => hs_.1.2.1) (fun hn_ => (Kd.freshB (g := gb144) (o := .cells #[.slice A0_0 l0_0.length c0_0] 24 (0, 0)) (by (with_reducible repeat (first | refine blk_drewN ?_ _ | refine blk_drew ?_ | refine blk_alloc ?_ _)); exact BK144.out) k_ hn_)), Or.elim hk_ (fun hs_ => hs_.1.2.2.1) (fun hn_ => (Kd.freshB (g := gb145) (o := .cells #[.int .i64 a1_0, .slice A1_1 l1_1.length c1_1] 55 (0, 0)) (by (with_reducible repeat (first | refine blk_drewN ?_ _ | refine blk_drew ?_ | refine blk_alloc ?_ _)); exact BK145.out) k_ hn_)), Or.elim hk_ (fun hs_ => hs_.1.2.2.2) (fun hn_ => (Kd.freshB (g := gb146) (o := .cells #[.slice none 0 0] 24 (0, 0)) (by (with_reducible repeat (first | refine blk_drewN ?_ _ | refine blk_drew ?_ | refine blk_alloc ?_ _)); exact BK146.out) k_ hn_))⟩)) (below_size (by repeat (first | (with_reducible first | exact HB.out | apply below_alloc | apply pw_below_drewN | apply below_drew1 | refine below_set ?_ GE144.out | refine below_set ?_ GE145.out | refine below_set ?_ GE146.out) | exact HB.out)))); have n4_ := Aside0.mk (blk_below (g := gb144) (o := .cells #[.slice A0_0 l0_0.length c0_0] 24 (0, 0)) (by (with_reducible repeat (first | refine blk_drewN ?_ _ | refine blk_drew ?_ | refine blk_alloc ?_ _)); exact BK144.out) hb); have n5_ := Aside0.mk (blk_below (g := gb145) (o := .cells #[.int .i64 a1_0, .slice A1_1 l1_1.length c1_1] 55 (0, 0)) (by (with_reducible repeat (first | refine blk_drewN ?_ _ | refine blk_drew ?_ | refine blk_alloc ?_ _)); exact BK145.out) hb); have n6_ := Aside0.mk (blk_below (g := gb146) (o := .cells #[.slice none 0 0] 24 (0, 0)) (by (with_reducible repeat (first | refine blk_drewN ?_ _ | refine blk_drew ?_ | refine blk_alloc ?_ _)); exact BK146.out) hb); have n7_ := Aside0.mk (below_step (by repeat (first | (with_reducible first | exact HB.out | apply below_alloc | apply pw_below_drewN | apply below_drew1 | refine below_set ?_ GE144.out | refine below_set ?_ GE145.out | refine below_set ?_ GE146.out) | exact HB.out)) hb); clear HO_3; clear HO_145000; clear HO151; clear BK144; clear BK145; clear BK146; clear HB; have HO_3 := n0_; have HO_145000 := n1_; have HO151 := n2_; have HO154 := n3_; have BK144 := n4_; have BK145 := n5_; have BK146 := n6_; have HB := n7_; clear n0_ n1_ n2_ n3_ n4_ n5_ n6_ n7_; (try clear hb); (try clear hb2); (try clear hk); (try clear hi); (try clear ho0)) | ((with_reducible refine gate_callee (f := 26) rfl ?_); refine goesL_ (some 40) rfl rfl Tryd.func26 (by kernel_rfl) rfl #[.slice A3 l3.length c3] rfl (by (try simp only [List.map_toArray, List.map_cons, List.map_nil]); first | done | rfl | (simp only [List.length_drop, List.length_take]; rfl)) ?_; (with_reducible refine (slices_Clone_int_int.calls (fun k_ => (((((P0_0_ k_ ∨ P3_ k_) ∨ w.heap.size ≤ k_) ∧ (k_ ≠ gb144 ∧ (k_ ≠ gb145 ∧ k_ ≠ gb146))) ∧ some k_ ≠ (.slice Ao53 t149.length co53 : Value).ownBlock) ∧ some k_ ≠ (v153 : Value).ownBlock)) _ _ l3 t155 _ ?side1 A42.out).mono ?_); (case side1 => exact HO_3.out); rintro e w56 ⟨v156, rfl, ho0, hb⟩; refine ⟨_, rfl, ?_⟩; have n0_ := Aside0.mk (Kd.V_elder' (by (with_reducible repeat (first | apply Kd.V_alloc | apply Kd.V_drewN | apply Kd.V_drew)); exact HO_3.out) (Kd.N_base ho0) hb); have n1_ := Aside0.mk (Kd.V_elder' (by (with_reducible repeat (first | apply Kd.V_alloc | apply Kd.V_drewN | apply Kd.V_drew)); exact HO_145000.out) (Kd.N_base ho0) hb); have n2_ := Aside0.mk (Kd.R_below (by (with_reducible repeat (first | apply Kd.R_alloc | apply Kd.R_drewN | apply Kd.R_drew)); exact HO151.out) hb); have n3_ := Aside0.mk (Kd.N_elder' (by (with_reducible repeat (first | apply Kd.N_alloc | apply Kd.N_drewN | apply Kd.N_drew)); exact HO154.out) (Kd.N_base ho0) hb); have n4_ := Aside0.mk (Kd.N_lower (Kd.N_mono (ok' := fun k_ => ((P0_0_ k_ ∨ P3_ k_) ∨ w.heap.size ≤ k_) ∧ some k_ ≠ (.slice Ao53 t149.length co53 : Value).ownBlock ∧ some k_ ≠ (v153 : Value).ownBlock ∧ k_ ≠ gb144 ∧ k_ ≠ gb145 ∧ k_ ≠ gb146) ho0 (fun k_ hk_ => ⟨Or.elim hk_ (fun hs_ => hs_.1.1.1) (fun hn_ => (.inr (Nat.le_trans (below_size (by repeat (first | (with_reducible first | exact HB.out | apply below_alloc | apply pw_below_drewN | apply below_drew1 | refine below_set ?_ GE144.out | refine below_set ?_ GE145.out | refine below_set ?_ GE146.out) | exact HB.out))) hn_))), Or.elim hk_ (fun hs_ => hs_.1.2) (fun hn_ => (Kd.fresh' (Kd.R_lt (by (with_reducible repeat (first | apply Kd.R_alloc | apply Kd.R_drewN | apply Kd.R_drew)); exact HO151.out)) k_ hn_)), Or.elim hk_ (fun hs_ => hs_.2) (fun hn_ => (Kd.fresh' (Kd.N_lt (by (with_reducible repeat (first | apply Kd.N_alloc | apply Kd.N_drewN | apply Kd.N_drew)); exact HO154.out)) k_ hn_)), Or.elim hk_ (fun hs_ => hs_.1.1.2.1) (fun hn_ => (Kd.freshB (g := gb144) (o := .cells #[.slice A0_0 l0_0.length c0_0] 24 (0, 0)) (by (with_reducible repeat (first | refine blk_drewN ?_ _ | refine blk_drew ?_ | refine blk_alloc ?_ _)); exact BK144.out) k_ hn_)), Or.elim hk_ (fun hs_ => hs_.1.1.2.2.1) (fun hn_ => (Kd.freshB (g := gb145) (o := .cells #[.int .i64 a1_0, .slice A1_1 l1_1.length c1_1] 55 (0, 0)) (by (with_reducible repeat (first | refine blk_drewN ?_ _ | refine blk_drew ?_ | refine blk_alloc ?_ _)); exact BK145.out) k_ hn_)), Or.elim hk_ (fun hs_ => hs_.1.1.2.2.2) (fun hn_ => (Kd.freshB (g := gb146) (o := .cells #[.slice none 0 0] 24 (0, 0)) (by (with_reducible repeat (first | refine blk_drewN ?_ _ | refine blk_drew ?_ | refine blk_alloc ?_ _)); exact BK146.out) k_ hn_))⟩)) (below_size (by repeat (first | (with_reducible first | exact HB.out | apply below_alloc | apply pw_below_drewN | apply below_drew1 | refine below_set ?_ GE144.out | refine below_set ?_ GE145.out | refine below_set ?_ GE146.out) | exact HB.out)))); have n5_ := Aside0.mk (blk_below (g := gb144) (o := .cells #[.slice A0_0 l0_0.length c0_0] 24 (0, 0)) (by (with_reducible repeat (first | refine blk_drewN ?_ _ | refine blk_drew ?_ | refine blk_alloc ?_ _)); exact BK144.out) hb); have n6_ := Aside0.mk (blk_below (g := gb145) (o := .cells #[.int .i64 a1_0, .slice A1_1 l1_1.length c1_1] 55 (0, 0)) (by (with_reducible repeat (first | refine blk_drewN ?_ _ | refine blk_drew ?_ | refine blk_alloc ?_ _)); exact BK145.out) hb); have n7_ := Aside0.mk (blk_below (g := gb146) (o := .cells #[.slice none 0 0] 24 (0, 0)) (by (with_reducible repeat (first | refine blk_drewN ?_ _ | refine blk_drew ?_ | refine blk_alloc ?_ _)); exact BK146.out) hb); have n8_ := Aside0.mk (below_step (by repeat (first | (with_reducible first | exact HB.out | apply below_alloc | apply pw_below_drewN | apply below_drew1 | refine below_set ?_ GE144.out | refine below_set ?_ GE145.out | refine below_set ?_ GE146.out) | exact HB.out)) hb); clear HO_3; clear HO_145000; clear HO151; clear HO154; clear BK144; clear BK145; clear BK146; clear HB; have HO_3 := n0_; have HO_145000 := n1_; have HO151 := n2_; have HO154 := n3_; have HO157 := n4_; have BK144 := n5_; have BK145 := n6_; have BK146 := n7_; have HB := n8_; clear n0_ n1_ n2_ n3_ n4_ n5_ n6_ n7_ n8_; (try clear hb); (try clear hb2); (try clear hk); (try clear hi); (try clear ho0); obtain ⟨Ao57, co57, eo57⟩ := Kd.N_slice HO157.out; subst eo57) | ((with_reducible refine gate_builtin (b := .append) (xs := #[.tmp 37, .tmp 42]) rfl ?_); at_builtin; refine Kd.N_append k44 (w0 := w) w.heap.size rfl (.tmp 37) (.tmp 42) 22 44 (.agg #[(.int .i64 0), (.slice none 0 0), (.bool false), (.slice none 0 0)]) 64 rfl Tryd.underlying22 info44 rfl (by decide) (by omega) v153 t152 (⟨a2, t155, false, ([] : List (List Int))⟩ : S44) [.int .i64 a2, .slice Ao57 t155.length co57, .bool false, .slice none 0 0] (fun k_ => ((P0_0_ k_ ∨ P3_ k_) ∨ w.heap.size ≤ k_) ∧ some k_ ≠ (.slice Ao53 t149.length co53 : Value).ownBlock ∧ k_ ≠ gb144 ∧ k_ ≠ gb145 ∧ k_ ≠ gb146) (fun k_ => ((fun k_ => ((P0_0_ k_ ∨ P3_ k_) ∨ w.heap.size ≤ k_) ∧ some k_ ≠ (.slice Ao53 t149.length co53 : Value).ownBlock ∧ k_ ≠ gb144 ∧ k_ ≠ gb145 ∧ k_ ≠ gb146)) k_ ∧ some k_ ≠ (v153 : Value).ownBlock) rfl rfl ?aP (fun _ hk => hk) ?aF ?aO ?aB ?aS ?aL ?_; (case aP => exact (k44_mkF _ _ (⟨a2, t155, false, ([] : List (List Int))⟩ : S44) (Kd.N_reads' (Kd.N_mono (ok' := (fun k_ => ((fun k_ => ((P0_0_ k_ ∨ P3_ k_) ∨ w.heap.size ≤ k_) ∧ some k_ ≠ (.slice Ao53 t149.length co53 : Value).ownBlock ∧ k_ ≠ gb144 ∧ k_ ≠ gb145 ∧ k_ ≠ gb146)) k_ ∧ some k_ ≠ (v153 : Value).ownBlock)) (HO157.out) (fun k_ hk => ⟨⟨hk.1, ⟨hk.2.1, ⟨hk.2.2.2.1, ⟨hk.2.2.2.2.1, hk.2.2.2.2.2⟩⟩⟩⟩, hk.2.2.1⟩))).2.1 (Kd.N_F (Kd.N_mono (ok' := (fun k_ => ((fun k_ => ((P0_0_ k_ ∨ P3_ k_) ∨ w.heap.size ≤ k_) ∧ some k_ ≠ (.slice Ao53 t149.length co53 : Value).ownBlock ∧ k_ ≠ gb144 ∧ k_ ≠ gb145 ∧ k_ ≠ gb146)) k_ ∧ some k_ ≠ (v153 : Value).ownBlock)) (HO157.out) (fun k_ hk => ⟨⟨hk.1, ⟨hk.2.1, ⟨hk.2.2.2.1, ⟨hk.2.2.2.2.1, hk.2.2.2.2.2⟩⟩⟩⟩, hk.2.2.1⟩))) (Nat.le_refl _) (Kd.F_nil _ _ _))); (case aB => exact (by repeat (first | (with_reducible first | exact HB.out | apply below_alloc | apply pw_below_drewN | apply below_drew1 | refine below_set ?_ GE144.out | refine below_set ?_ GE145.out | refine below_set ?_ GE146.out) | exact HB.out))); (case aF => exact (fun k_ hk => ⟨(.inr (Nat.le_trans (below_size (by repeat (first | (with_reducible first | exact HB.out | apply below_alloc | apply pw_below_drewN | apply below_drew1 | refine below_set ?_ GE144.out | refine below_set ?_ GE145.out | refine below_set ?_ GE146.out) | exact HB.out))) hk)), Kd.fresh' (Kd.R_lt (by (with_reducible repeat (first | apply Kd.R_alloc | apply Kd.R_drewN | apply Kd.R_drew)); exact HO151.out)) k_ hk, Kd.freshB (g := gb144) (o := .cells #[.slice A0_0 l0_0.length c0_0] 24 (0, 0)) (by (with_reducible repeat (first | refine blk_drewN ?_ _ | refine blk_drew ?_ | refine blk_alloc ?_ _)); exact BK144.out) k_ hk, Kd.freshB (g := gb145) (o := .cells #[.int .i64 a1_0, .slice A1_1 l1_1.length c1_1] 55 (0, 0)) (by (with_reducible repeat (first | refine blk_drewN ?_ _ | refine blk_drew ?_ | refine blk_alloc ?_ _)); exact BK145.out) k_ hk, Kd.freshB (g := gb146) (o := .cells #[.slice none 0 0] 24 (0, 0)) (by (with_reducible repeat (first | refine blk_drewN ?_ _ | refine blk_drew ?_ | refine blk_alloc ?_ _)); exact BK146.out) k_ hk⟩)); (case aO => exact (by (with_reducible repeat (first | apply Kd.N_alloc | apply Kd.N_drewN | apply Kd.N_drew)); exact Kd.N_mono HO154.out (fun _ hk => ⟨hk.1.1, ⟨hk.1.2.1, ⟨hk.1.2.2.1, ⟨hk.1.2.2.2.1, hk.1.2.2.2.2⟩⟩⟩⟩))); (case aS => exact (below_size (by repeat (first | (with_reducible first | exact HB.out | apply below_alloc | apply pw_below_drewN | apply below_drew1 | refine below_set ?_ GE144.out | refine below_set ?_ GE145.out | refine below_set ?_ GE146.out) | exact HB.out)))); (case aL => have := LMc43.out; omega); intro v159 w58 ho hb hg hat; rw [← Ny158.out] at ho; have n0_ := Aside0.mk (Kd.V_afterv (ok := (fun k_ => ((P0_0_ k_ ∨ P3_ k_) ∨ w.heap.size ≤ k_) ∧ some k_ ≠ (.slice Ao53 t149.length co53 : Value).ownBlock ∧ some k_ ≠ (.slice Ao57 t155.length co57 : Value).ownBlock ∧ k_ ≠ gb144 ∧ k_ ≠ gb145 ∧ k_ ≠ gb146)) (by (with_reducible repeat (first | apply Kd.V_alloc | apply Kd.V_drewN | apply Kd.V_drew)); exact Kd.V_mono HO_3.out (fun _ hk => ⟨⟨hk.1.1.1.1, ⟨hk.1.1.2, ⟨hk.2, ⟨hk.1.1.1.2.1, ⟨hk.1.1.1.2.2.1, hk.1.1.1.2.2.2⟩⟩⟩⟩⟩, hk.1.2⟩)) hg hat); have n1_ := Aside0.mk (Kd.V_afterv (ok := (fun k_ => ((P0_0_ k_ ∨ P3_ k_) ∨ w.heap.size ≤ k_) ∧ some k_ ≠ (.slice Ao53 t149.length co53 : Value).ownBlock ∧ some k_ ≠ (.slice Ao57 t155.length co57 : Value).ownBlock ∧ k_ ≠ gb144 ∧ k_ ≠ gb145 ∧ k_ ≠ gb146)) (by (with_reducible repeat (first | apply Kd.V_alloc | apply Kd.V_drewN | apply Kd.V_drew)); exact Kd.V_mono HO_145000.out (fun _ hk => ⟨⟨hk.1.1.1.1, ⟨hk.1.1.2, ⟨hk.2, ⟨hk.1.1.1.2.1, ⟨hk.1.1.1.2.2.1, hk.1.1.1.2.2.2⟩⟩⟩⟩⟩, hk.1.2⟩)) hg hat); have n2_ := Aside0.mk (blk_grown (g := gb144) (o := .cells #[.slice A0_0 l0_0.length c0_0] 24 (0, 0)) (by (with_reducible repeat (first | refine blk_drewN ?_ _ | refine blk_drew ?_ | refine blk_alloc ?_ _)); exact BK144.out) hg (Kd.N_ne HO154.out BK144.out (by decide))); have n3_ := Aside0.mk (blk_grown (g := gb145) (o := .cells #[.int .i64 a1_0, .slice A1_1 l1_1.length c1_1] 55 (0, 0)) (by (with_reducible repeat (first | refine blk_drewN ?_ _ | refine blk_drew ?_ | refine blk_alloc ?_ _)); exact BK145.out) hg (Kd.N_ne HO154.out BK145.out (by decide))); have n4_ := Aside0.mk (blk_grown (g := gb146) (o := .cells #[.slice none 0 0] 24 (0, 0)) (by (with_reducible repeat (first | refine blk_drewN ?_ _ | refine blk_drew ?_ | refine blk_alloc ?_ _)); exact BK146.out) hg (Kd.N_ne HO154.out BK146.out (by decide))); have n5_ := Aside0.mk (Kd.R_over' (by (with_reducible repeat (first | apply Kd.R_alloc | apply Kd.R_drewN | apply Kd.R_drew)); exact HO151.out) (Kd.N_typed (by (with_reducible repeat (first | apply Kd.N_alloc | apply Kd.N_drewN | apply Kd.N_drew)); exact HO154.out)) (by decide) hg); have n6_ := Aside0.mk (hb); have n7_ := Aside0.mk (ho); clear HO_3; clear HO_145000; clear BK144; clear BK145; clear BK146; clear HO151; clear HB; clear HO154; clear HO157; have HO_3 := n0_; have HO_145000 := n1_; have BK144 := n2_; have BK145 := n3_; have BK146 := n4_; have HO151 := n5_; have HB := n6_; have HO160 := n7_; clear n0_ n1_ n2_ n3_ n4_ n5_ n6_ n7_; clear ho hb hg hat; obtain ⟨Ao59, co59, eo59⟩ := Kd.N_slice HO160.out; subst eo59; have hcz60_0 : w58.cell? ⟨gb146, 0, none⟩ = some (.slice none 0 0) := (blk_cell BK146.out 0).trans rfl; have hfz60_0 := blk_frozen BK146.out 0))
                refine bodyPost_ret (results_ct rfl _ _ gb146 24 #[.slice Ao59 y158.length co59] (0, 0) _ rfl (by (with_reducible repeat (first | refine blk_drewN ?_ _ | refine blk_drew ?_ | refine blk_alloc ?_ _)); refine blk_put (cs := #[.slice none 0 0]) ?_ 0 _ rfl; (with_reducible repeat (first | refine blk_drewN ?_ _ | refine blk_drew ?_ | refine blk_alloc ?_ _)); exact BK146.out) Tryd.underlying24 rfl (by kernel_rfl)) rfl ?_
                exact ⟨_, by first | rfl | (simp [errW_none, errW_some] <;> rfl) | (simp [*, errW_none, errW_some] <;> rfl), Kd.N_V (by (with_reducible repeat (first | apply Kd.N_alloc | apply Kd.N_drewN | apply Kd.N_drew)); exact Kd.N_mono (Kd.N_far (p := ⟨gb146, 0, none⟩) (Kd.N_mono HO160.out (fun k_ hk => (⟨hk, hk.2.2.2.2⟩ : _ ∧ k_ ≠ gb146))) (fun _ hk => hk.2) (.slice Ao59 y158.length co59)) (fun _ hk => hk.1.1)), by repeat (first | (with_reducible first | exact HB.out | apply below_alloc | apply pw_below_drewN | apply below_drew1 | refine below_set ?_ GE144.out | refine below_set ?_ GE145.out | refine below_set ?_ GE146.out) | exact HB.out)⟩
              · rw [if_neg c43] at H
                exact absurd H (by simp)
          · rw [if_neg c26] at H
            have c26b0 : (t148 == 0) = false := beq_eq_false_iff_ne.mpr c26
            have c26b1 : (t148 != 0) = true := bne_iff_ne.mpr c26
            simp only [Option.some.injEq, Prod.mk.injEq] at H
            obtain ⟨rfl, rfl⟩ := H
            have hnb61 := NB144_145.out
            have hnc61 := NB145_144.out
            have hnb62 := NB144_146.out
            have hnc62 := NB146_144.out
            have hcz63_0 : wc.cell? ⟨gb144, 0, none⟩ = some (.slice A0_0 l0_0.length c0_0) := (blk_cell BK144.out 0).trans rfl
            have hfz63_0 := blk_frozen BK144.out 0
            go_wp2_with (first | ((with_reducible refine gate_callee (f := 24) rfl ?_); refine goesL_ (some 20) rfl rfl Tryd.func24 (by kernel_rfl) rfl #[.agg #[.slice A0_0 l0_0.length c0_0], .int .i64 a2, .bool false] rfl (by (try simp only [List.map_toArray, List.map_cons, List.map_nil]); first | done | rfl | (simp only [List.length_drop, List.length_take]; rfl)) ?_; (with_reducible refine (hall_find.calls _ _ l0_0 a2 false t147 _ ?side1 ?side2 A16.out).mono ?_); (case side1 => repeat (first | exact (Kd.V_reads' HO_145000.out).2.2 | (with_reducible refine Kd.C_alloc ?_ _) | (with_reducible refine Kd.C_drewN ?_ _) | (with_reducible refine Kd.C_drew ?_))); (case side2 => exact (Kd.V_reads' HO_145000.out).2.1); rintro e w64 ⟨rfl, hb⟩; refine ⟨_, rfl, ?_⟩; have n0_ := Aside0.mk (Kd.V_below (by (with_reducible repeat (first | apply Kd.V_alloc | apply Kd.V_drewN | apply Kd.V_drew)); exact HO_3.out) hb); have n1_ := Aside0.mk (Kd.V_below (by (with_reducible repeat (first | apply Kd.V_alloc | apply Kd.V_drewN | apply Kd.V_drew)); exact HO_145000.out) hb); have n2_ := Aside0.mk (blk_below (g := gb144) (o := .cells #[.slice A0_0 l0_0.length c0_0] 24 (0, 0)) (by (with_reducible repeat (first | refine blk_drewN ?_ _ | refine blk_drew ?_ | refine blk_alloc ?_ _)); exact BK144.out) hb); have n3_ := Aside0.mk (blk_below (g := gb145) (o := .cells #[.int .i64 a1_0, .slice A1_1 l1_1.length c1_1] 55 (0, 0)) (by (with_reducible repeat (first | refine blk_drewN ?_ _ | refine blk_drew ?_ | refine blk_alloc ?_ _)); exact BK145.out) hb); have n4_ := Aside0.mk (blk_below (g := gb146) (o := .cells #[.slice none 0 0] 24 (0, 0)) (by (with_reducible repeat (first | refine blk_drewN ?_ _ | refine blk_drew ?_ | refine blk_alloc ?_ _)); exact BK146.out) hb); have n5_ := Aside0.mk (below_step (by repeat (first | (with_reducible first | exact HB.out | apply below_alloc | apply pw_below_drewN | apply below_drew1 | refine below_set ?_ GE144.out | refine below_set ?_ GE145.out | refine below_set ?_ GE146.out) | exact HB.out)) hb); clear HO_3; clear HO_145000; clear BK144; clear BK145; clear BK146; clear HB; have HO_3 := n0_; have HO_145000 := n1_; have BK144 := n2_; have BK145 := n3_; have BK146 := n4_; have HB := n5_; clear n0_ n1_ n2_ n3_ n4_ n5_; (try clear hb); (try clear hb2); (try clear hk); (try clear hi); have hnb65 := NB145_146.out; have hnc65 := NB146_145.out; have hcz66_0 : w64.cell? ⟨gb145, 0, none⟩ = some (.int .i64 a1_0) := (blk_cell BK145.out 0).trans rfl; have hcz66_1 : w64.cell? ⟨gb145, 1, none⟩ = some (.slice A1_1 l1_1.length c1_1) := (blk_cell BK145.out 1).trans rfl; have hfz66_0 := blk_frozen BK145.out 0; have hfz66_1 := blk_frozen BK145.out 1) | ((with_reducible refine gate_callee (f := 23) rfl ?_); refine goesL_ (some 25) rfl rfl Tryd.func23 (by kernel_rfl) rfl #[.agg #[.int .i64 a1_0, .slice A1_1 l1_1.length c1_1], .slice A3 l3.length c3] rfl (by (try simp only [List.map_toArray, List.map_cons, List.map_nil]); first | done | rfl | (simp only [List.length_drop, List.length_take]; rfl)) ?_; (with_reducible refine (hall_Reason.calls a1_0 _ _ l1_1 _ _ l3 t148 _ ?side1 ?side2 ?side3 ?side4 A25.out).mono ?_); (case side1 => repeat (first | exact (Kd.C_below HR1_1.out HB.out) | (with_reducible refine Kd.C_alloc ?_ _) | (with_reducible refine Kd.C_drewN ?_ _) | (with_reducible refine Kd.C_drew ?_))); (case side2 => exact HC1_1.out); (case side3 => repeat (first | exact (Kd.V_reads' HO_3.out).2.2 | (with_reducible refine Kd.C_alloc ?_ _) | (with_reducible refine Kd.C_drewN ?_ _) | (with_reducible refine Kd.C_drew ?_))); (case side4 => exact (Kd.V_reads' HO_3.out).2.1); rintro e w67 ⟨rfl, hb⟩; refine ⟨_, rfl, ?_⟩; have n0_ := Aside0.mk (Kd.V_below (by (with_reducible repeat (first | apply Kd.V_alloc | apply Kd.V_drewN | apply Kd.V_drew)); exact HO_3.out) hb); have n1_ := Aside0.mk (Kd.V_below (by (with_reducible repeat (first | apply Kd.V_alloc | apply Kd.V_drewN | apply Kd.V_drew)); exact HO_145000.out) hb); have n2_ := Aside0.mk (blk_below (g := gb144) (o := .cells #[.slice A0_0 l0_0.length c0_0] 24 (0, 0)) (by (with_reducible repeat (first | refine blk_drewN ?_ _ | refine blk_drew ?_ | refine blk_alloc ?_ _)); exact BK144.out) hb); have n3_ := Aside0.mk (blk_below (g := gb145) (o := .cells #[.int .i64 a1_0, .slice A1_1 l1_1.length c1_1] 55 (0, 0)) (by (with_reducible repeat (first | refine blk_drewN ?_ _ | refine blk_drew ?_ | refine blk_alloc ?_ _)); exact BK145.out) hb); have n4_ := Aside0.mk (blk_below (g := gb146) (o := .cells #[.slice none 0 0] 24 (0, 0)) (by (with_reducible repeat (first | refine blk_drewN ?_ _ | refine blk_drew ?_ | refine blk_alloc ?_ _)); exact BK146.out) hb); have n5_ := Aside0.mk (below_step (by repeat (first | (with_reducible first | exact HB.out | apply below_alloc | apply pw_below_drewN | apply below_drew1 | refine below_set ?_ GE144.out | refine below_set ?_ GE145.out | refine below_set ?_ GE146.out) | exact HB.out)) hb); clear HO_3; clear HO_145000; clear BK144; clear BK145; clear BK146; clear HB; have HO_3 := n0_; have HO_145000 := n1_; have BK144 := n2_; have BK145 := n3_; have BK146 := n4_; have HB := n5_; clear n0_ n1_ n2_ n3_ n4_ n5_; (try clear hb); (try clear hb2); (try clear hk); (try clear hi); have hcz68_0 : w67.cell? ⟨gb144, 0, none⟩ = some (.slice A0_0 l0_0.length c0_0) := (blk_cell BK144.out 0).trans rfl; have hfz68_0 := blk_frozen BK144.out 0; have hcz69_0 : w67.cell? ⟨gb146, 0, none⟩ = some (.slice none 0 0) := (blk_cell BK146.out 0).trans rfl; have hfz69_0 := blk_frozen BK146.out 0))
            refine bodyPost_ret (results_ct rfl _ _ gb146 24 #[.slice A0_0 l0_0.length c0_0] (0, 0) _ rfl (by (with_reducible repeat (first | refine blk_drewN ?_ _ | refine blk_drew ?_ | refine blk_alloc ?_ _)); refine blk_put (cs := #[.slice none 0 0]) ?_ 0 _ rfl; (with_reducible repeat (first | refine blk_drewN ?_ _ | refine blk_drew ?_ | refine blk_alloc ?_ _)); exact BK146.out) Tryd.underlying24 rfl (by kernel_rfl)) rfl ?_
            exact ⟨_, by first | rfl | (simp [errW_none, errW_some] <;> rfl) | (simp [*, errW_none, errW_some] <;> rfl), by (with_reducible repeat (first | apply Kd.V_alloc | apply Kd.V_drewN | apply Kd.V_drew)); exact Kd.V_mono (Kd.V_far (p := ⟨gb146, 0, none⟩) (Kd.V_mono HO_145000.out (fun k_ hk => (⟨hk, hk.2.2.2⟩ : _ ∧ k_ ≠ gb146))) (fun _ hk => hk.2) (.slice A0_0 l0_0.length c0_0)) (fun _ hk => hk.1.1), by repeat (first | (with_reducible first | exact HB.out | apply below_alloc | apply pw_below_drewN | apply below_drew1 | refine below_set ?_ GE144.out | refine below_set ?_ GE145.out | refine below_set ?_ GE146.out) | exact HB.out)⟩

end Go.Proofs.YtlbkfeelkdombaaDoor.Ph
