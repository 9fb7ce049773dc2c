-- Laid by wip/xprint.py, a program of this session that runs the kit's print with some contracts given by hand; not a text of print.sh. Lean checks it.
import Derived.Test.YtfipiohchnaglaaPu0
namespace Go.Proofs.Ytfipiohchnaglaa.Pu
open Go.RowKit Go.Proofs.YtfipiohchnaglaaW.PrintWords Go.Proofs.YtfipiohchnaglaaW.PrintLast Go.Proofs.YtfipiohchnaglaaW.PrintMore
attribute [local go_sem] max2_int min2_int max_two min_two max_three min_three max_four min_four   -- for this text's walks alone
set_option linter.unusedVariables false
set_option linter.unusedSimpArgs false

/-! ### switchboardref03_Small: function 6 -/
mutual
def switchboardref03_Small.l0 : Nat → List (List Int) → Int → Option (Bool)
  | 0, _, _ => none
  | k + 1, x0, x3 => if x3 < (x0.length : Int) then (switchboardref03_Small.j1 k x0 x3 (decide (x3 < 30))) else (switchboardref03_Small.j1 k x0 x3 false)
def switchboardref03_Small.j1 : Nat → List (List Int) → Int → Bool → Option (Bool)
  | 0, _, _, _ => none
  | k + 1, x0, x3, x11 => if x11 = true then (if 0 ≤ x3 then (if x3 < (x0.length : Int) then (if ((rd_L1 x0 x3).length : Int) > 30 then (some false) else (switchboardref03_Small.l0 k x0 (wrap64 (x3 + 1)))) else (none)) else (none)) else (some (decide ((x0.length : Int) ≤ 30)))
end
def switchboardref03_Small.f (k : Nat) (l0 : List (List Int)) : Option (Bool) := switchboardref03_Small.l0 k l0 0
set_option maxHeartbeats 8000000 in
set_option maxRecDepth 100000 in
theorem switchboardref03_Small.calls (k : Nat) (A0 : Option Addr) (c0 : Nat) (l0 : List (List Int)) (r : Bool) (w : World) (hr0 : Kd.C (Kd.slice 3 (Kd.int .i64)) w A0 l0.length l0) (hc0 : l0.length ≤ c0) (h : switchboardref03_Small.f k l0 = some r) :
    Calls Try.prog 6 #[.slice A0 l0.length c0] w fun e w' => e = .returned (.bool r) ∧ Drawn0 w w' := by
  have HR0 := Aside0.mk hr0
  have HC0 := Aside0.mk hc0
  clear hr0 hc0
  have H : (switchboardref03_Small.l0 k l0 0) = some r := h
  clear h
  have H' := Aside0.mk H
  clear H
  go_enter Try.func6, Try.ntmps6
  go_wp2
  go_loopg [3] k (fun kq v3 w' => ∃ (x3_1 : Int), v3 = .int .i64 x3_1 ∧ Aside0 (switchboardref03_Small.l0 kq l0 x3_1 = some r) ∧ Aside0 (kq ≤ k) ∧ Drawn0 w w')
  case atStart => exact ⟨(0), (by first | rfl | (simp; done) | (simp [*]; done)), H', ⟨Nat.le_refl _⟩, by repeat (first | exact Drawn0.refl _ | apply Drawn0.step)⟩
  case round =>
    clear H'
    obtain ⟨x3_1, rfl, HA, HK1, ⟨m1, rfl⟩⟩ := hrel
    cases gk with
    | zero => exact absurd HA.out (by simp [switchboardref03_Small.l0])
    | succ k1 =>
      have H := HA.out
      clear HA
      simp only [switchboardref03_Small.l0] at H
      have HC2 := Aside0.mk H
      clear H
      go_upto_region 2 with (fail)
      go_cut [11] (fun v11 wc => ∃ (kq : Nat) (x11_1 : Bool), v11 = .bool x11_1 ∧ Aside0 (switchboardref03_Small.j1 kq l0 x3_1 x11_1 = some r) ∧ Aside0 (kq ≤ k1) ∧ Drawn0 w wc)
      case first =>
        have H := HC2.out
        clear HC2
        by_cases c3 : x3_1 < (l0.length : Int)
        · rw [if_pos c3] at H
          have c3b0 : decide (x3_1 < (l0.length : Int)) = true := decide_eq_true c3
          clear c3
          (first | rw [c3b0] | (simp only [i64_w, i32_w]; rw [c3b0]) | skip)
          have H' := Aside0.mk H
          clear H
          go_wp2
          go_meet
          case rel => exact ⟨_, (decide (x3_1 < 30)), (by first | rfl | (simp; done) | (simp [*]; done)), H', ⟨by have := HK1.out; first | omega | exact Nat.le_refl _⟩, by repeat (first | exact Drawn0.refl _ | apply Drawn0.step)⟩
        · rw [if_neg c3] at H
          have c3b0 : decide (x3_1 < (l0.length : Int)) = false := decide_eq_false c3
          clear c3
          (first | rw [c3b0] | (simp only [i64_w, i32_w]; rw [c3b0]) | skip)
          have H' := Aside0.mk H
          clear H
          go_wp2
          go_meet
          case rel => exact ⟨_, (false), (by first | rfl | (simp; done) | (simp [*]; done)), H', ⟨by have := HK1.out; first | omega | exact Nat.le_refl _⟩, by repeat (first | exact Drawn0.refl _ | apply Drawn0.step)⟩
      case rest =>
        clear HC2
        try clear p2
        try clear c3
        try clear c3b0
        obtain ⟨kq, x11_1, rfl, HA, HJ1, ⟨mc1, rfl⟩⟩ := hcut
        cases kq with
        | zero => exact absurd HA.out (by simp [switchboardref03_Small.j1])
        | succ kj1 =>
          have H := HA.out
          clear HA
          simp only [switchboardref03_Small.j1] at H
          by_cases c4 : x11_1 = true
          · subst c4
            have H1 : (if 0 ≤ x3_1 then (if x3_1 < (l0.length : Int) then (if ((rd_L1 l0 x3_1).length : Int) > 30 then (some false) else (switchboardref03_Small.l0 kj1 l0 (wrap64 (x3_1 + 1)))) else (none)) else (none)) = some r := by rw [if_pos rfl] at H; exact H
            clear H
            have H := H1
            clear H1
            by_cases c5 : 0 ≤ x3_1
            · rw [if_pos c5] at H
              have c5b0 : decide (0 ≤ x3_1) = true := decide_eq_true c5
              clear c5
              by_cases c6 : x3_1 < (l0.length : Int)
              · rw [if_pos c6] at H
                have c6b0 : decide (x3_1 < (l0.length : Int)) = true := decide_eq_true c6
                clear c6
                by_cases c7 : ((rd_L1 l0 x3_1).length : Int) > 30
                · rw [if_pos c7] at H
                  have c7b0 : decide (30 < ((rd_L1 l0 x3_1).length : Int)) = true := decide_eq_true c7
                  have c7b1 : decide (30 < (rd_L1 l0 x3_1).length) = true := decide_eq_true (by omega)
                  clear c7
                  obtain rfl := Option.some.inj H
                  have p101 : 0 ≤ (x3_1 : Int) := of_decide_eq_true (by first | (with_reducible assumption) | assumption)
                  have q101 : x3_1 < (l0.length : Int) := of_decide_eq_true (by first | (with_reducible assumption) | assumption)
                  obtain ⟨ad101, A101_0, c101_0, e101, hx101_0, hl101_0, hi101_0⟩ := at_L1 HR0.out x3_1 p101 q101
                  cases e101
                  have HR101_0 := Aside0.mk hi101_0
                  have HC101_0 := Aside0.mk hl101_0
                  clear hi101_0 hl101_0
                  replace p101 := eq_true p101
                  replace q101 := eq_true q101
                  go_wp2
                  go_ret
                  exact ⟨by first | rfl | (simp; done) | (simp [*]; done), by repeat (first | exact Drawn0.refl _ | apply Drawn0.step)⟩
                · rw [if_neg c7] at H
                  have c7b0 : decide (30 < ((rd_L1 l0 x3_1).length : Int)) = false := decide_eq_false c7
                  have c7b1 : decide (30 < (rd_L1 l0 x3_1).length) = false := decide_eq_false (by omega)
                  clear c7
                  have H' := Aside0.mk H
                  clear H
                  have p101 : 0 ≤ (x3_1 : Int) := of_decide_eq_true (by first | (with_reducible assumption) | assumption)
                  have q101 : x3_1 < (l0.length : Int) := of_decide_eq_true (by first | (with_reducible assumption) | assumption)
                  obtain ⟨ad101, A101_0, c101_0, e101, hx101_0, hl101_0, hi101_0⟩ := at_L1 HR0.out x3_1 p101 q101
                  cases e101
                  have HR101_0 := Aside0.mk hi101_0
                  have HC101_0 := Aside0.mk hl101_0
                  clear hi101_0 hl101_0
                  replace p101 := eq_true p101
                  replace q101 := eq_true q101
                  go_wp2
                  go_roundg kj1
                  case measure => have := HK1.out; have := HJ1.out; omega
                  case rel => exact ⟨(wrap64 (x3_1 + 1)), (by first | rfl | (simp; done) | (simp [*]; done)), H', ⟨by have := HK1.out; have := HJ1.out; omega⟩, by repeat (first | exact Drawn0.refl _ | apply Drawn0.step)⟩
              · rw [if_neg c6] at H
                exact absurd H (by simp)
            · rw [if_neg c5] at H
              exact absurd H (by simp)
          · replace c4 := Bool.eq_false_iff.mpr c4
            subst c4
            have H1 : (some (decide ((l0.length : Int) ≤ 30))) = some r := by rw [if_neg (show ¬ (false = true) by decide)] at H; exact H
            clear H
            have H := H1
            clear H1
            obtain rfl := Option.some.inj H
            go_wp2
            go_ret
            exact ⟨by first | rfl | (simp; done) | (simp [*]; done), by repeat (first | exact Drawn0.refl _ | apply Drawn0.step)⟩

/-! ### switchboardref15_Small: function 5 -/
/-! ### slices_IndexFunc_int_int_72: function 72 (given by hand) -/
/-- The place of the first element for which p holds, counted from i on; -1: there is none. -/
def idxFrom72 {α : Type} (p : α → Bool) : List α → Nat → Int
  | [], _ => -1
  | x :: r, i => if p x = true then (i : Int) else idxFrom72 p r (i + 1)
theorem drop_at72 {α : Type} (l : List α) (k : Nat) (h : k < l.length) : l.drop k = l[k] :: l.drop (k + 1) := List.drop_eq_getElem_cons h
set_option maxHeartbeats 8000000 in
set_option maxRecDepth 100000 in
theorem idx72_calls {α : Type} (d : Kd α) (hsz : d.sz = 1) (g : Nat) {fn : Func} (hfn : Try.prog.funcs[g]? = some fn) (hname : (fn.name == "runtime.NumGoroutine") = false) (hbody : fn.body.isSome = true) (lb : Array Value) (p : α → Bool)
    (A0 : Option Addr) (c0 : Nat) (l0 : List α) (w : World) (hr0 : Kd.C d w A0 l0.length l0)
    (hP : ∀ (x : α) (v : Value) (W : World), x ∈ l0 → d.K w x [v] → Below w.heap.size w W → Calls Try.prog g (#[v] ++ lb) W fun e w' => e = .returned (.bool (p x)) ∧ Below W.heap.size W w') :
    Calls Try.prog 72 #[.slice A0 l0.length c0, .func (.func g) #[] lb] w fun e w' => e = .returned (.int .i64 (idxFrom72 p l0 0)) ∧ Below w.heap.size w w' := by
  have HR0 := Aside0.mk hr0
  have HP := Aside0.mk hP
  clear hr0 hP
  have HB := Aside0.mk (Below.refl w.heap.size w)
  have hmax : l0.length ≤ 9223372036854775807 := HR0.out.2.1
  have eg : ∀ (args : Array Value) (w : World), (callFunc g args).run Try.prog w = .ok (.enter g args) w := fun args w => enters_ hfn hname hbody args w
  go_enter Try.func72, Try.ntmps72
  go_wp2
  go_loopw [8] (fun v8 w' => ∃ k : Nat, Aside0 (k ≤ l0.length) ∧ v8 = .int .i64 (k : Int) ∧ Aside0 (idxFrom72 p (l0.drop k) k = idxFrom72 p l0 0) ∧ Aside0 (Below w.heap.size w w')) (fun v8 _ => l0.length - (intOf v8).toNat)
  case atStart => exact ⟨0, ⟨Nat.zero_le _⟩, rfl, ⟨rfl⟩, HB⟩
  case round =>
    obtain ⟨k, HK, rfl, HI, HB⟩ := hrel
    by_cases hlt : k < l0.length
    · obtain ⟨ad, cs, hA, hcl, hKx, hcell⟩ := Kd.C_get HR0.out l0[k] (k : Int) (by omega) (by omega)
      cases hA
      have hget : l0.getD (k : Int).toNat l0[k] = l0[k] := by
        rw [Int.toNat_natCast, List.getD_eq_getElem?_getD, List.getElem?_eq_getElem hlt]
        rfl
      rw [hget] at hKx
      rw [hsz] at hcl
      obtain ⟨v, rfl⟩ : ∃ v, cs = [v] := by
        match cs, hcl with
        | [v], _ => exact ⟨v, rfl⟩
      have hx := hcell 0 v rfl
      rw [Int.toNat_natCast, hsz, Nat.mul_one, Nat.add_zero] at hx
      clear hcell
      replace hx := (HB.out.cell (World.block_lt_of_cell? w _ hx)).trans hx
      have hc : decide (k < l0.length) = true := decide_eq_true hlt
      have HC := Aside0.mk (fun W => HP.out l0[k] v W (List.getElem_mem hlt) hKx)
      have HD := Aside0.mk (drop_at72 l0 k hlt)
      clear hKx hget hcl
      cases hp : p l0[k]
      · have HC1 : Aside0 (∀ W : World, Below w.heap.size w W → Calls Try.prog g (#[v] ++ lb) W fun e w' => e = .returned (.bool false) ∧ Below W.heap.size W w') := ⟨fun W hW => by have := HC.out W hW; rwa [hp] at this⟩
        have HN : Aside0 (idxFrom72 p (l0.drop (k + 1)) (k + 1) = idxFrom72 p l0 0) := ⟨by have := HI.out; rw [HD.out] at this; simp only [idxFrom72, hp] at this; exact this⟩
        clear HC HI HD hp
        go_wp2_with (go_at_fn g; refine (HC1.out _ ?cb).mono ?_; (case cb => exact HB.out); rintro e w' ⟨rfl, hb0⟩; have n1_ := Aside0.mk (below_step HB.out hb0); clear hb0; clear HB; have HB := n1_; clear n1_)
        go_roundw
        case rel => exact ⟨k + 1, ⟨by omega⟩, by go_num, HN, HB⟩
        case measure => simp [intOf]; omega
      · have HC1 : Aside0 (∀ W : World, Below w.heap.size w W → Calls Try.prog g (#[v] ++ lb) W fun e w' => e = .returned (.bool true) ∧ Below W.heap.size W w') := ⟨fun W hW => by have := HC.out W hW; rwa [hp] at this⟩
        have HN : Aside0 (((k : Nat) : Int) = idxFrom72 p l0 0) := ⟨by have := HI.out; rw [HD.out] at this; simp only [idxFrom72, hp] at this; exact this⟩
        clear HC HI HD hp
        go_wp2_with (go_at_fn g; refine (HC1.out _ ?cb).mono ?_; (case cb => exact HB.out); rintro e w' ⟨rfl, hb0⟩; have n1_ := Aside0.mk (below_step HB.out hb0); clear hb0; clear HB; have HB := n1_; clear n1_)
        go_ret
        exact ⟨by rw [← HN.out]; rfl, HB.out⟩
    · have hc : decide (k < l0.length) = false := decide_eq_false hlt
      have hk : k = l0.length := by have := HK.out; omega
      have HN : Aside0 ((-1 : Int) = idxFrom72 p l0 0) := ⟨by have := HI.out; rw [hk, List.drop_length] at this; exact this⟩
      clear hk
      go_wp2
      go_ret
      exact ⟨by rw [← HN.out]; rfl, HB.out⟩

/-! ### slices_ContainsFunc_int_int_44: function 44 (given by hand) -/
theorem idxFrom72_iff {α : Type} (p : α → Bool) : ∀ (l : List α) (i : Nat), 0 ≤ idxFrom72 p l i ↔ l.any p = true := by
  intro l
  induction l with
  | nil => intro i; simp [idxFrom72]
  | cons x r ih =>
    intro i
    by_cases h : p x = true
    · have e : idxFrom72 p (x :: r) i = (i : Int) := by simp only [idxFrom72]; rw [if_pos h]
      rw [e]
      simp [h]
    · have e : idxFrom72 p (x :: r) i = idxFrom72 p r (i + 1) := by simp only [idxFrom72]; rw [if_neg h]
      rw [e, ih, List.any_cons, Bool.eq_false_iff.mpr h, Bool.false_or]
theorem idxFrom72_any {α : Type} (p : α → Bool) (l : List α) (i : Nat) : decide (0 ≤ idxFrom72 p l i) = l.any p := by
  rw [Bool.eq_iff_iff, decide_eq_true_iff]
  exact idxFrom72_iff p l i
set_option maxHeartbeats 8000000 in
set_option maxRecDepth 100000 in
theorem has44_calls {α : Type} (d : Kd α) (hsz : d.sz = 1) (g : Nat) {fn : Func} (hfn : Try.prog.funcs[g]? = some fn) (hname : (fn.name == "runtime.NumGoroutine") = false) (hbody : fn.body.isSome = true) (lb : Array Value) (p : α → Bool)
    (A0 : Option Addr) (c0 : Nat) (l0 : List α) (w : World) (hr0 : Kd.C d w A0 l0.length l0)
    (hP : ∀ (x : α) (v : Value) (W : World), x ∈ l0 → d.K w x [v] → Below w.heap.size w W → Calls Try.prog g (#[v] ++ lb) W fun e w' => e = .returned (.bool (p x)) ∧ Below W.heap.size W w') :
    Calls Try.prog 44 #[.slice A0 l0.length c0, .func (.func g) #[] lb] w fun e w' => e = .returned (.bool (l0.any p)) ∧ Below w.heap.size w w' := by
  have HR0 := Aside0.mk hr0
  have HP := Aside0.mk hP
  clear hr0 hP
  have hd := idxFrom72_any p l0 0
  rw [← hd]
  clear hd
  generalize hi : idxFrom72 p l0 0 = i
  have HI := Aside0.mk hi
  clear hi
  cases hb : decide (0 ≤ i)
  · have hb' : decide (i ≥ 0) = false := hb
    go_enter Try.func44, Try.ntmps44
    go_wp2_with (go_at_call 72; refine (idx72_calls d hsz g hfn hname hbody lb p A0 c0 l0 _ HR0.out HP.out).mono ?_; rw [HI.out]; rintro e w' ⟨rfl, hbl⟩; have HB := Aside0.mk hbl; clear hbl)
    go_ret
    exact ⟨rfl, HB.out⟩
  · have hb' : decide (i ≥ 0) = true := hb
    go_enter Try.func44, Try.ntmps44
    go_wp2_with (go_at_call 72; refine (idx72_calls d hsz g hfn hname hbody lb p A0 c0 l0 _ HR0.out HP.out).mono ?_; rw [HI.out]; rintro e w' ⟨rfl, hbl⟩; have HB := Aside0.mk hbl; clear hbl)
    go_ret
    exact ⟨rfl, HB.out⟩

/-! ### slices_IndexFunc_int_int_73: function 73 (given by hand) -/
/-- The place of the first element for which p holds, counted from i on; -1: there is none. -/
def idxFrom73 {α : Type} (p : α → Bool) : List α → Nat → Int
  | [], _ => -1
  | x :: r, i => if p x = true then (i : Int) else idxFrom73 p r (i + 1)
theorem drop_at73 {α : Type} (l : List α) (k : Nat) (h : k < l.length) : l.drop k = l[k] :: l.drop (k + 1) := List.drop_eq_getElem_cons h
set_option maxHeartbeats 8000000 in
set_option maxRecDepth 100000 in
theorem idx73_calls {α : Type} (d : Kd α) (hsz : d.sz = 1) (g : Nat) {fn : Func} (hfn : Try.prog.funcs[g]? = some fn) (hname : (fn.name == "runtime.NumGoroutine") = false) (hbody : fn.body.isSome = true) (lb : Array Value) (p : α → Bool)
    (A0 : Option Addr) (c0 : Nat) (l0 : List α) (w : World) (hr0 : Kd.C d w A0 l0.length l0)
    (hP : ∀ (x : α) (v : Value) (W : World), x ∈ l0 → d.K w x [v] → Below w.heap.size w W → Calls Try.prog g (#[v] ++ lb) W fun e w' => e = .returned (.bool (p x)) ∧ Below W.heap.size W w') :
    Calls Try.prog 73 #[.slice A0 l0.length c0, .func (.func g) #[] lb] w fun e w' => e = .returned (.int .i64 (idxFrom73 p l0 0)) ∧ Below w.heap.size w w' := by
  have HR0 := Aside0.mk hr0
  have HP := Aside0.mk hP
  clear hr0 hP
  have HB := Aside0.mk (Below.refl w.heap.size w)
  have hmax : l0.length ≤ 9223372036854775807 := HR0.out.2.1
  have eg : ∀ (args : Array Value) (w : World), (callFunc g args).run Try.prog w = .ok (.enter g args) w := fun args w => enters_ hfn hname hbody args w
  go_enter Try.func73, Try.ntmps73
  go_wp2
  go_loopw [8] (fun v8 w' => ∃ k : Nat, Aside0 (k ≤ l0.length) ∧ v8 = .int .i64 (k : Int) ∧ Aside0 (idxFrom73 p (l0.drop k) k = idxFrom73 p l0 0) ∧ Aside0 (Below w.heap.size w w')) (fun v8 _ => l0.length - (intOf v8).toNat)
  case atStart => exact ⟨0, ⟨Nat.zero_le _⟩, rfl, ⟨rfl⟩, HB⟩
  case round =>
    obtain ⟨k, HK, rfl, HI, HB⟩ := hrel
    by_cases hlt : k < l0.length
    · obtain ⟨ad, cs, hA, hcl, hKx, hcell⟩ := Kd.C_get HR0.out l0[k] (k : Int) (by omega) (by omega)
      cases hA
      have hget : l0.getD (k : Int).toNat l0[k] = l0[k] := by
        rw [Int.toNat_natCast, List.getD_eq_getElem?_getD, List.getElem?_eq_getElem hlt]
        rfl
      rw [hget] at hKx
      rw [hsz] at hcl
      obtain ⟨v, rfl⟩ : ∃ v, cs = [v] := by
        match cs, hcl with
        | [v], _ => exact ⟨v, rfl⟩
      have hx := hcell 0 v rfl
      rw [Int.toNat_natCast, hsz, Nat.mul_one, Nat.add_zero] at hx
      clear hcell
      replace hx := (HB.out.cell (World.block_lt_of_cell? w _ hx)).trans hx
      have hc : decide (k < l0.length) = true := decide_eq_true hlt
      have HC := Aside0.mk (fun W => HP.out l0[k] v W (List.getElem_mem hlt) hKx)
      have HD := Aside0.mk (drop_at73 l0 k hlt)
      clear hKx hget hcl
      cases hp : p l0[k]
      · have HC1 : Aside0 (∀ W : World, Below w.heap.size w W → Calls Try.prog g (#[v] ++ lb) W fun e w' => e = .returned (.bool false) ∧ Below W.heap.size W w') := ⟨fun W hW => by have := HC.out W hW; rwa [hp] at this⟩
        have HN : Aside0 (idxFrom73 p (l0.drop (k + 1)) (k + 1) = idxFrom73 p l0 0) := ⟨by have := HI.out; rw [HD.out] at this; simp only [idxFrom73, hp] at this; exact this⟩
        clear HC HI HD hp
        go_wp2_with (go_at_fn g; refine (HC1.out _ ?cb).mono ?_; (case cb => exact HB.out); rintro e w' ⟨rfl, hb0⟩; have n1_ := Aside0.mk (below_step HB.out hb0); clear hb0; clear HB; have HB := n1_; clear n1_)
        go_roundw
        case rel => exact ⟨k + 1, ⟨by omega⟩, by go_num, HN, HB⟩
        case measure => simp [intOf]; omega
      · have HC1 : Aside0 (∀ W : World, Below w.heap.size w W → Calls Try.prog g (#[v] ++ lb) W fun e w' => e = .returned (.bool true) ∧ Below W.heap.size W w') := ⟨fun W hW => by have := HC.out W hW; rwa [hp] at this⟩
        have HN : Aside0 (((k : Nat) : Int) = idxFrom73 p l0 0) := ⟨by have := HI.out; rw [HD.out] at this; simp only [idxFrom73, hp] at this; exact this⟩
        clear HC HI HD hp
        go_wp2_with (go_at_fn g; refine (HC1.out _ ?cb).mono ?_; (case cb => exact HB.out); rintro e w' ⟨rfl, hb0⟩; have n1_ := Aside0.mk (below_step HB.out hb0); clear hb0; clear HB; have HB := n1_; clear n1_)
        go_ret
        exact ⟨by rw [← HN.out]; rfl, HB.out⟩
    · have hc : decide (k < l0.length) = false := decide_eq_false hlt
      have hk : k = l0.length := by have := HK.out; omega
      have HN : Aside0 ((-1 : Int) = idxFrom73 p l0 0) := ⟨by have := HI.out; rw [hk, List.drop_length] at this; exact this⟩
      clear hk
      go_wp2
      go_ret
      exact ⟨by rw [← HN.out]; rfl, HB.out⟩

end Go.Proofs.Ytfipiohchnaglaa.Pu
