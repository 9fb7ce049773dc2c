-- Laid by wip/xprint.py, a program of this session that runs the kit's print with some contracts given by hand; not a text of print.sh. Lean checks it.
import Derived.Test.YtlbkfeelkdombaaDoorPq0
namespace Go.Proofs.YtlbkfeelkdombaaDoor.Pq
open Go.RowKit Go.Proofs.YtlbkfeelkdombaaDoorW.PrintWords Go.Proofs.YtlbkfeelkdombaaDoorW.PrintLast Go.Proofs.YtlbkfeelkdombaaDoorW.PrintMore
attribute [local go_sem] max2_int min2_int max_two min_two max_three min_three max_four min_four   -- for this text's walks alone
set_option linter.unusedVariables false
set_option linter.unusedSimpArgs false

/-! ### switchboardref03_Small: function 8 -/
mutual
def switchboardref03_Small.l0 : Nat → List (List Int) → Int → Option (Bool)
  | 0, _, _ => none
  | k + 1, x0, x3 => if x3 < (x0.length : Int) then (switchboardref03_Small.j1 k x0 x3 (decide (x3 < 30))) else (switchboardref03_Small.j1 k x0 x3 false)
def switchboardref03_Small.j1 : Nat → List (List Int) → Int → Bool → Option (Bool)
  | 0, _, _, _ => none
  | k + 1, x0, x3, x11 => if x11 = true then (if 0 ≤ x3 then (if x3 < (x0.length : Int) then (if ((rd_L1 x0 x3).length : Int) > 30 then (some false) else (switchboardref03_Small.l0 k x0 (wrap64 (x3 + 1)))) else (none)) else (none)) else (some (decide ((x0.length : Int) ≤ 30)))
end
def switchboardref03_Small.f (k : Nat) (l0 : List (List Int)) : Option (Bool) := switchboardref03_Small.l0 k l0 0
theorem switchboardref03_Small.mono_l : ∀ k, (∀ y0 y1, LeO (switchboardref03_Small.l0 k y0 y1) (switchboardref03_Small.l0 (k + 1) y0 y1)) ∧ (∀ y0 y1 y2, LeO (switchboardref03_Small.j1 k y0 y1 y2) (switchboardref03_Small.j1 (k + 1) y0 y1 y2))
  | 0 => ⟨fun _ _ r h => by simp [switchboardref03_Small.l0] at h, fun _ _ _ r h => by simp [switchboardref03_Small.j1] at h⟩
  | k + 1 => by
    obtain ⟨ih0, ih1⟩ := switchboardref03_Small.mono_l k
    refine ⟨?_, ?_⟩
    · intro y0 y1
      unfold switchboardref03_Small.l0
      repeat' first
      | (with_reducible exact ih0 _ _)
      | (with_reducible exact ih1 _ _ _)
      | (with_reducible exact LeO.refl _)
      | (with_reducible exact LeO.none _)
      | (with_reducible refine LeO.ite ?_ ?_)
      | (with_reducible refine LeO.bind ?_ (fun _ => ?_))
      | exact ih0 _ _
      | exact ih1 _ _ _
      | exact LeO.none _
      | refine LeO.ite ?_ ?_
      | refine LeO.bind ?_ (fun _ => ?_)
    · intro y0 y1 y2
      unfold switchboardref03_Small.j1
      repeat' first
      | (with_reducible exact ih0 _ _)
      | (with_reducible exact ih1 _ _ _)
      | (with_reducible exact LeO.refl _)
      | (with_reducible exact LeO.none _)
      | (with_reducible refine LeO.ite ?_ ?_)
      | (with_reducible refine LeO.bind ?_ (fun _ => ?_))
      | exact ih0 _ _
      | exact ih1 _ _ _
      | exact LeO.none _
      | refine LeO.ite ?_ ?_
      | refine LeO.bind ?_ (fun _ => ?_)
theorem switchboardref03_Small.mono : ∀ a0 k, LeO (switchboardref03_Small.f k a0) (switchboardref03_Small.f (k + 1) a0) := by
  intro a0 k
  obtain ⟨ih0, ih1⟩ := switchboardref03_Small.mono_l k
  unfold switchboardref03_Small.f
  repeat' first
      | (with_reducible exact ih0 _ _)
      | (with_reducible exact ih1 _ _ _)
      | (with_reducible exact LeO.refl _)
      | (with_reducible exact LeO.none _)
      | (with_reducible refine LeO.ite ?_ ?_)
      | (with_reducible refine LeO.bind ?_ (fun _ => ?_))
      | exact ih0 _ _
      | exact ih1 _ _ _
      | exact LeO.none _
      | refine LeO.ite ?_ ?_
      | refine LeO.bind ?_ (fun _ => ?_)
set_option maxHeartbeats 8000000 in
set_option maxRecDepth 100000 in
theorem switchboardref03_Small.calls (k : Nat) (A0 : Option Addr) (c0 : Nat) (l0 : List (List Int)) (r : Bool) (w : World) (hr0 : Kd.C (Kd.slice 3 (Kd.int .i64)) w A0 l0.length l0) (hc0 : l0.length ≤ c0) (h : switchboardref03_Small.f k l0 = some r) :
    Calls Tryd.prog 8 #[.slice A0 l0.length c0] w fun e w' => e = .returned (.bool r) ∧ Drawn0 w w' := by
  have HR0 := Aside0.mk hr0
  have HC0 := Aside0.mk hc0
  clear hr0 hc0
  have H : (switchboardref03_Small.l0 k l0 0) = some r := h
  clear h
  have H' := Aside0.mk H
  clear H
  go_enter Tryd.func8, Tryd.ntmps8
  go_wp2
  go_loopg [3] k (fun kq v3 w' => ∃ (x3_1 : Int), v3 = .int .i64 x3_1 ∧ Aside0 (switchboardref03_Small.l0 kq l0 x3_1 = some r) ∧ Aside0 (kq ≤ k) ∧ Drawn0 w w')
  case atStart => exact ⟨(0), (by first | rfl | (simp; done) | (simp [*]; done)), H', ⟨Nat.le_refl _⟩, by repeat (first | exact Drawn0.refl _ | apply Drawn0.step)⟩
  case round =>
    clear H'
    obtain ⟨x3_1, rfl, HA, HK1, ⟨m1, rfl⟩⟩ := hrel
    cases gk with
    | zero => exact absurd HA.out (by simp [switchboardref03_Small.l0])
    | succ k1 =>
      have H := HA.out
      clear HA
      simp only [switchboardref03_Small.l0] at H
      have HC2 := Aside0.mk H
      clear H
      go_upto_region 2 with (fail)
      go_cut [11] (fun v11 wc => ∃ (kq : Nat) (x11_1 : Bool), v11 = .bool x11_1 ∧ Aside0 (switchboardref03_Small.j1 kq l0 x3_1 x11_1 = some r) ∧ Aside0 (kq ≤ k1) ∧ Drawn0 w wc)
      case first =>
        have H := HC2.out
        clear HC2
        by_cases c3 : x3_1 < (l0.length : Int)
        · rw [if_pos c3] at H
          have c3b0 : decide (x3_1 < (l0.length : Int)) = true := decide_eq_true c3
          clear c3
          (first | rw [c3b0] | (simp only [i64_w, i32_w]; rw [c3b0]) | skip)
          have H' := Aside0.mk H
          clear H
          go_wp2
          go_meet
          case rel => exact ⟨_, (decide (x3_1 < 30)), (by first | rfl | (simp; done) | (simp [*]; done)), H', ⟨by have := HK1.out; first | omega | exact Nat.le_refl _⟩, by repeat (first | exact Drawn0.refl _ | apply Drawn0.step)⟩
        · rw [if_neg c3] at H
          have c3b0 : decide (x3_1 < (l0.length : Int)) = false := decide_eq_false c3
          clear c3
          (first | rw [c3b0] | (simp only [i64_w, i32_w]; rw [c3b0]) | skip)
          have H' := Aside0.mk H
          clear H
          go_wp2
          go_meet
          case rel => exact ⟨_, (false), (by first | rfl | (simp; done) | (simp [*]; done)), H', ⟨by have := HK1.out; first | omega | exact Nat.le_refl _⟩, by repeat (first | exact Drawn0.refl _ | apply Drawn0.step)⟩
      case rest =>
        clear HC2
        try clear p2
        try clear c3
        try clear c3b0
        obtain ⟨kq, x11_1, rfl, HA, HJ1, ⟨mc1, rfl⟩⟩ := hcut
        cases kq with
        | zero => exact absurd HA.out (by simp [switchboardref03_Small.j1])
        | succ kj1 =>
          have H := HA.out
          clear HA
          simp only [switchboardref03_Small.j1] at H
          by_cases c4 : x11_1 = true
          · subst c4
            have H1 : (if 0 ≤ x3_1 then (if x3_1 < (l0.length : Int) then (if ((rd_L1 l0 x3_1).length : Int) > 30 then (some false) else (switchboardref03_Small.l0 kj1 l0 (wrap64 (x3_1 + 1)))) else (none)) else (none)) = some r := by rw [if_pos rfl] at H; exact H
            clear H
            have H := H1
            clear H1
            by_cases c5 : 0 ≤ x3_1
            · rw [if_pos c5] at H
              have c5b0 : decide (0 ≤ x3_1) = true := decide_eq_true c5
              clear c5
              by_cases c6 : x3_1 < (l0.length : Int)
              · rw [if_pos c6] at H
                have c6b0 : decide (x3_1 < (l0.length : Int)) = true := decide_eq_true c6
                clear c6
                by_cases c7 : ((rd_L1 l0 x3_1).length : Int) > 30
                · rw [if_pos c7] at H
                  have c7b0 : decide (30 < ((rd_L1 l0 x3_1).length : Int)) = true := decide_eq_true c7
                  have c7b1 : decide (30 < (rd_L1 l0 x3_1).length) = true := decide_eq_true (by omega)
                  clear c7
                  obtain rfl := Option.some.inj H
                  have p101 : 0 ≤ (x3_1 : Int) := of_decide_eq_true (by first | (with_reducible assumption) | assumption)
                  have q101 : x3_1 < (l0.length : Int) := of_decide_eq_true (by first | (with_reducible assumption) | assumption)
                  obtain ⟨ad101, A101_0, c101_0, e101, hx101_0, hl101_0, hi101_0⟩ := at_L1 HR0.out x3_1 p101 q101
                  cases e101
                  have HR101_0 := Aside0.mk hi101_0
                  have HC101_0 := Aside0.mk hl101_0
                  clear hi101_0 hl101_0
                  replace p101 := eq_true p101
                  replace q101 := eq_true q101
                  go_wp2
                  go_ret
                  exact ⟨by first | rfl | (simp; done) | (simp [*]; done), by repeat (first | exact Drawn0.refl _ | apply Drawn0.step)⟩
                · rw [if_neg c7] at H
                  have c7b0 : decide (30 < ((rd_L1 l0 x3_1).length : Int)) = false := decide_eq_false c7
                  have c7b1 : decide (30 < (rd_L1 l0 x3_1).length) = false := decide_eq_false (by omega)
                  clear c7
                  have H' := Aside0.mk H
                  clear H
                  have p101 : 0 ≤ (x3_1 : Int) := of_decide_eq_true (by first | (with_reducible assumption) | assumption)
                  have q101 : x3_1 < (l0.length : Int) := of_decide_eq_true (by first | (with_reducible assumption) | assumption)
                  obtain ⟨ad101, A101_0, c101_0, e101, hx101_0, hl101_0, hi101_0⟩ := at_L1 HR0.out x3_1 p101 q101
                  cases e101
                  have HR101_0 := Aside0.mk hi101_0
                  have HC101_0 := Aside0.mk hl101_0
                  clear hi101_0 hl101_0
                  replace p101 := eq_true p101
                  replace q101 := eq_true q101
                  go_wp2
                  go_roundg kj1
                  case measure => have := HK1.out; have := HJ1.out; omega
                  case rel => exact ⟨(wrap64 (x3_1 + 1)), (by first | rfl | (simp; done) | (simp [*]; done)), H', ⟨by have := HK1.out; have := HJ1.out; omega⟩, by repeat (first | exact Drawn0.refl _ | apply Drawn0.step)⟩
              · rw [if_neg c6] at H
                exact absurd H (by simp)
            · rw [if_neg c5] at H
              exact absurd H (by simp)
          · replace c4 := Bool.eq_false_iff.mpr c4
            subst c4
            have H1 : (some (decide ((l0.length : Int) ≤ 30))) = some r := by rw [if_neg (show ¬ (false = true) by decide)] at H; exact H
            clear H
            have H := H1
            clear H1
            obtain rfl := Option.some.inj H
            go_wp2
            go_ret
            exact ⟨by first | rfl | (simp; done) | (simp [*]; done), by repeat (first | exact Drawn0.refl _ | apply Drawn0.step)⟩

/-! ### hall_Entry_31: function 31 (given by hand) -/
/-- The place of the first element for which p holds, counted from i on; -1: there is none. -/
def idxFrom31 {α : Type} (p : α → Bool) : List α → Nat → Int
  | [], _ => -1
  | x :: r, i => if p x = true then (i : Int) else idxFrom31 p r (i + 1)
theorem drop_at31 {α : Type} (l : List α) (k : Nat) (h : k < l.length) : l.drop k = l[k] :: l.drop (k + 1) := List.drop_eq_getElem_cons h
set_option maxHeartbeats 8000000 in
set_option maxRecDepth 100000 in
theorem idx31_calls (g : Nat) {fn : Func} (hfn : Tryd.prog.funcs[g]? = some fn) (hname : (fn.name == "runtime.NumGoroutine") = false) (hbody : fn.body.isSome = true) (lb : Array Value) (p : S44 → Bool)
    (A0 : Option Addr) (c0 : Nat) (l0 : List S44) (w : World) (hr0 : Kd.C k44 w A0 l0.length l0)
    (hP : ∀ (x : S44) (A B : Option Addr) (c b : Nat) (W : World), Below w.heap.size w W → Calls Tryd.prog g (#[(.agg #[.int .i64 x.f0, .slice A x.f1.length c, .bool x.f2, .slice B x.f3.length b])] ++ lb) W fun e w' => e = .returned (.bool (p x)) ∧ Below W.heap.size W w') :
    Calls Tryd.prog 31 #[.slice A0 l0.length c0, .func (.func g) #[] lb] w fun e w' => e = .returned (.int .i64 (idxFrom31 p l0 0)) ∧ Below w.heap.size w w' := by
  have HR0 := Aside0.mk hr0
  have HP := Aside0.mk hP
  clear hr0 hP
  have HB := Aside0.mk (Below.refl w.heap.size w)
  have hmax : l0.length ≤ 9223372036854775807 := HR0.out.2.1
  have eg : ∀ (args : Array Value) (w : World), (callFunc g args).run Tryd.prog w = .ok (.enter g args) w := fun args w => enters_ hfn hname hbody args w
  go_enter Tryd.func31, Tryd.ntmps31
  go_wp2
  go_loopw [8] (fun v8 w' => ∃ k : Nat, Aside0 (k ≤ l0.length) ∧ v8 = .int .i64 (k : Int) ∧ Aside0 (idxFrom31 p (l0.drop k) k = idxFrom31 p l0 0) ∧ Aside0 (Below w.heap.size w w')) (fun v8 _ => l0.length - (intOf v8).toNat)
  case atStart => exact ⟨0, ⟨Nat.zero_le _⟩, rfl, ⟨rfl⟩, HB⟩
  case round =>
    obtain ⟨k, HK, rfl, HI, HB⟩ := hrel
    by_cases hlt : k < l0.length
    · obtain ⟨ad, A, c, B, b, hA, hx0, hx1, hx2, hx3, -, -, -, -⟩ := at_T44 HR0.out (k : Int) (by omega) (by omega)
      cases hA
      have hget : rd_T44 l0 (k : Int) = l0[k] := by
        unfold rd_T44
        rw [Int.toNat_natCast, List.getD_eq_getElem?_getD, List.getElem?_eq_getElem hlt]
        rfl
      rw [hget, Int.toNat_natCast] at hx0 hx1 hx2 hx3
      replace hx0 := (HB.out.cell (World.block_lt_of_cell? w _ hx0)).trans hx0
      replace hx1 := (HB.out.cell (World.block_lt_of_cell? w _ hx1)).trans hx1
      replace hx2 := (HB.out.cell (World.block_lt_of_cell? w _ hx2)).trans hx2
      replace hx3 := (HB.out.cell (World.block_lt_of_cell? w _ hx3)).trans hx3
      have hc : decide (k < l0.length) = true := decide_eq_true hlt
      have HC := Aside0.mk (fun W => HP.out l0[k] A B c b W)
      have HD := Aside0.mk (drop_at31 l0 k hlt)
      clear hget
      cases hp : p l0[k]
      · have HC1 : Aside0 (∀ W : World, Below w.heap.size w W → Calls Tryd.prog g (#[(.agg #[.int .i64 l0[k].f0, .slice A l0[k].f1.length c, .bool l0[k].f2, .slice B l0[k].f3.length b])] ++ lb) W fun e w' => e = .returned (.bool false) ∧ Below W.heap.size W w') := ⟨fun W hW => by have := HC.out W hW; rwa [hp] at this⟩
        have HN : Aside0 (idxFrom31 p (l0.drop (k + 1)) (k + 1) = idxFrom31 p l0 0) := ⟨by have := HI.out; rw [HD.out] at this; simp only [idxFrom31, hp] at this; exact this⟩
        clear HC HI HD hp
        go_wp2_with (go_at_fn g; refine (HC1.out _ ?cb).mono ?_; (case cb => exact HB.out); rintro e w' ⟨rfl, hb0⟩; have n1_ := Aside0.mk (below_step HB.out hb0); clear hb0; clear HB; have HB := n1_; clear n1_)
        go_roundw
        case rel => exact ⟨k + 1, ⟨by omega⟩, by go_num, HN, HB⟩
        case measure => simp [intOf]; omega
      · have HC1 : Aside0 (∀ W : World, Below w.heap.size w W → Calls Tryd.prog g (#[(.agg #[.int .i64 l0[k].f0, .slice A l0[k].f1.length c, .bool l0[k].f2, .slice B l0[k].f3.length b])] ++ lb) W fun e w' => e = .returned (.bool true) ∧ Below W.heap.size W w') := ⟨fun W hW => by have := HC.out W hW; rwa [hp] at this⟩
        have HN : Aside0 (((k : Nat) : Int) = idxFrom31 p l0 0) := ⟨by have := HI.out; rw [HD.out] at this; simp only [idxFrom31, hp] at this; exact this⟩
        clear HC HI HD hp
        go_wp2_with (go_at_fn g; refine (HC1.out _ ?cb).mono ?_; (case cb => exact HB.out); rintro e w' ⟨rfl, hb0⟩; have n1_ := Aside0.mk (below_step HB.out hb0); clear hb0; clear HB; have HB := n1_; clear n1_)
        go_ret
        exact ⟨by rw [← HN.out]; rfl, HB.out⟩
    · have hc : decide (k < l0.length) = false := decide_eq_false hlt
      have hk : k = l0.length := by have := HK.out; omega
      have HN : Aside0 ((-1 : Int) = idxFrom31 p l0 0) := ⟨by have := HI.out; rw [hk, List.drop_length] at this; exact this⟩
      clear hk
      go_wp2
      go_ret
      exact ⟨by rw [← HN.out]; rfl, HB.out⟩

/-! ### hall_find: function 24 (given by hand) -/
def idB (x : S44) (a : Int) (o : Bool) : Bool := (x.f0 == a) && !(o && x.f2)
set_option maxHeartbeats 8000000 in
set_option maxRecDepth 100000 in
theorem hall_find_one.calls (x : S44) (A C : Option Addr) (n m : Nat) (a : Int) (o : Bool) (B D : Nat) (W : World) (h0 : W.cell? ⟨B, 0, none⟩ = some (.int .i64 a)) (h1 : W.cell? ⟨D, 0, none⟩ = some (.bool o)) :
    Calls Tryd.prog 32 #[.agg #[.int .i64 x.f0, .slice A x.f1.length n, .bool x.f2, .slice C x.f3.length m], .pointer (some ⟨B, 0, none⟩), .pointer (some ⟨D, 0, none⟩)] W fun e w' => e = .returned (.bool (idB x a o)) ∧ Below W.heap.size W w' := by
  have g0 : ∀ o, (W.alloc o).cell? ⟨B, 0, none⟩ = some (.int .i64 a) := fun o => Lib.cell?_alloc_some o h0
  have g1 : ∀ q, (W.alloc q).cell? ⟨D, 0, none⟩ = some (.bool o) := fun q => Lib.cell?_alloc_some q h1
  have hu1 := Tryd.underlying44
  unfold idB
  cases hq : (x.f0 == a)
  · go_enter Tryd.func32, Tryd.ntmps32
    go_wp2
    go_ret
    exact ⟨by simp, below_alloc (Below.refl _ _) _⟩
  · cases o
    · go_enter Tryd.func32, Tryd.ntmps32
      go_wp2
      go_ret
      exact ⟨by simp, below_alloc (Below.refl _ _) _⟩
    · cases hd : x.f2 <;>
      · go_enter Tryd.func32, Tryd.ntmps32
        go_wp2
        go_ret
        exact ⟨by simp, below_alloc (Below.refl _ _) _⟩
def hall_find.f (l0_0 : List S44) (a1 : Int) (a2 : Bool) : Option Int := some (idxFrom31 (fun x => idB x a1 a2) l0_0 0)
set_option maxHeartbeats 8000000 in
set_option maxRecDepth 100000 in
theorem hall_find.calls (A0_0 : Option Addr) (c0_0 : Nat) (l0_0 : List S44) (a1 : Int) (a2 : Bool) (r : Int) (w : World) (hr0_0 : Kd.C k44 w A0_0 l0_0.length l0_0) (hc0_0 : l0_0.length ≤ c0_0) (h : hall_find.f l0_0 a1 a2 = some r) :
    Calls Tryd.prog 24 #[.agg #[.slice A0_0 l0_0.length c0_0], .int .i64 a1, .bool a2] w fun e w' => e = .returned (.int .i64 r) ∧ Below w.heap.size w w' := by
  have hmf : ∀ (fn : Fn) (first cap : Array Value) (w : World), (Instr.makeFunc fn first cap).run Tryd.prog w = .ok (.func fn first cap) w := fun _ _ _ _ => rfl
  have hu24 := Tryd.underlying44
  have hu25 := Tryd.underlying24
  unfold hall_find.f at h
  have hj := Option.some.inj h
  have HR := Aside0.mk hr0_0
  have HJ := Aside0.mk hj
  clear hc0_0 hj h hr0_0
  have B1 : Aside0 ((((w.alloc (.cells #[.slice A0_0 l0_0.length c0_0] 24)).alloc (.cells #[.int .i64 a1] 3)).alloc (.cells #[.bool a2] 4)).heap[w.heap.size + 1]? = some (.cells #[.int .i64 a1] 3 (0, 0))) := ⟨blk_alloc (by rw [show w.heap.size + 1 = (w.alloc (.cells #[.slice A0_0 l0_0.length c0_0] 24)).heap.size by simp]; exact heap_alloc_new _ _) _⟩
  have B2 : Aside0 ((((w.alloc (.cells #[.slice A0_0 l0_0.length c0_0] 24)).alloc (.cells #[.int .i64 a1] 3)).alloc (.cells #[.bool a2] 4)).heap[w.heap.size + 1 + 1]? = some (.cells #[.bool a2] 4 (0, 0))) := ⟨by rw [show w.heap.size + 1 + 1 = ((w.alloc (.cells #[.slice A0_0 l0_0.length c0_0] 24)).alloc (.cells #[.int .i64 a1] 3)).heap.size by simp]; exact heap_alloc_new _ _⟩
  go_enter Tryd.func24, Tryd.ntmps24
  go_wp2_with (first
    | (go_at_call 31; refine (idx31_calls 32 Tryd.func32 rfl rfl #[.pointer (some ⟨w.heap.size + 1, 0, none⟩), .pointer (some ⟨w.heap.size + 1 + 1, 0, none⟩)] (fun x => idB x a1 a2) _ c0_0 l0_0 _ (Kd.C_below HR.out (below_alloc (below_alloc (below_alloc (Below.refl _ _) _) _) _)) ?hP).mono ?_; (case hP => (intro x A B c b W' hb; exact hall_find_one.calls x A B c b a1 a2 (w.heap.size + 1) (w.heap.size + 1 + 1) W' ((blk_cell (blk_below B1.out hb) 0).trans rfl) ((blk_cell (blk_below B2.out hb) 0).trans rfl))); rw [HJ.out]; rintro e w4 ⟨rfl, hb⟩; have HB2 := Aside0.mk (below_step (below_alloc (below_alloc (below_alloc (Below.refl w.heap.size w) _) _) _) hb); clear hb))
  go_ret
  exact ⟨rfl, HB2.out⟩

/-! ### hall_Entry_25: function 25 -/
def hall_Entry_25.f (l0 : List (S44)) : Option ((List (S44))) := (some (([] : List (S44)) : List (S44))).bind fun y102 => (if y102.length + l0.length < 2199023255552 then (some (y102 ++ l0)) else (none))
set_option maxHeartbeats 8000000 in
set_option maxRecDepth 100000 in
theorem hall_Entry_25.calls (P0_ : Nat → Prop) (A0 : Option Addr) (c0 : Nat) (l0 : List (S44)) (r : List (S44)) (w : World) (hs0 : Kd.V k44 44 w w.heap.size (fun k_ => P0_ k_) (.slice A0 l0.length c0) l0) (h : hall_Entry_25.f l0 = some r) :
    Calls Tryd.prog 25 #[.slice A0 l0.length c0] w fun e w' => ∃ v0_ : Value, e = .returned (v0_) ∧ Kd.N k44 44 w' w.heap.size (fun k_ => (P0_ k_ ∨ w.heap.size ≤ k_)) v0_ r ∧ Below w.heap.size w w' := by
  by_cases hA0_ : A0 = none
  · subst hA0_
    obtain rfl : l0 = [] := by
      refine List.eq_nil_of_length_eq_zero (Classical.byContradiction fun hz => ?_)
      obtain ⟨_, he_, _⟩ := (Kd.V_reads' hs0).2.2.2.2 (by omega)
      cases he_
    have hrn_ : r = [] := by
      unfold hall_Entry_25.f at h
      simp at h
      exact h
    subst hrn_
    have hqn_ : ∀ (W : World) (n c : Nat), (binOp .eql 22 (.slice none n c) (.slice none 0 0)).run Tryd.prog W = .ok (.bool true) W := fun W n c => Lib.run_eql_slice_nil (P := Tryd.prog) W 22 44 none n c 0 0 Tryd.underlying22
    go_enter Tryd.func25, Tryd.ntmps25
    go_wp2
    go_ret
    exact ⟨_, rfl, by first | exact Kd.R_nil _ _ _ _ _ | exact Kd.N_nil _ _ _ _ _ | exact Kd.V_nil _ _ _ _ _, Below.refl _ _⟩
  have hq0_ : ∀ (W : World) (n c : Nat), (binOp .eql 22 (.slice A0 n c) (.slice none 0 0)).run Tryd.prog W = .ok (.bool false) W := fun W n c => by
    rw [Lib.run_eql_slice_nil (P := Tryd.prog) W 22 44 A0 n c 0 0 Tryd.underlying22]
    cases A0
    · exact absurd rfl hA0_
    · rfl
  clear hA0_
  have HO0 := Aside0.mk (show Kd.V k44 44 w w.heap.size (fun k_ => (P0_ k_ ∨ w.heap.size ≤ k_)) (.slice A0 l0.length c0) l0 from Kd.V_mono hs0 (fun k_ hk => .inl hk))
  have HB := Aside0.mk (Below.refl w.heap.size w)
  have H : ((some (([] : List (S44)) : List (S44))).bind fun y102 => (if y102.length + l0.length < 2199023255552 then (some (y102 ++ l0)) else (none))) = some r := h
  clear h
  obtain ⟨y102, hy102⟩ : ∃ y_ : List (S44), y_ = (([] : List (S44))) := ⟨_, rfl⟩
  replace H : (if y102.length + l0.length < 2199023255552 then (some (y102 ++ l0)) else (none)) = some r := by first | (rw [hy102]; with_reducible exact H) | (have H2_ := (Option.bind_some _ _).symm.trans H; rw [hy102]; with_reducible exact H2_) | (have H2_ := (Option.bind_some _ _).symm.trans H; with_reducible exact H2_) | with_reducible exact H | (rw [hy102]; exact H) | exact H
  have Ny102 := Aside0.mk hy102
  clear hy102
  by_cases c2 : y102.length + l0.length < 2199023255552
  · rw [if_pos c2] at H
    have LMc2 := Aside0.mk c2
    clear c2
    obtain ⟨y105, hy105⟩ : ∃ y_ : List (S44), y_ = (y102 ++ l0) := ⟨_, rfl⟩
    replace H : (some y105) = some r := by first | (rw [hy105]; with_reducible exact H) | (have H2_ := (Option.bind_some _ _).symm.trans H; rw [hy105]; with_reducible exact H2_) | (have H2_ := (Option.bind_some _ _).symm.trans H; with_reducible exact H2_) | with_reducible exact H | (rw [hy105]; exact H) | exact H
    have Ny105 := Aside0.mk hy105
    clear hy105
    obtain rfl := Option.some.inj H
    go_enter Tryd.func25, Tryd.ntmps25
    go_wp2_with (first | ((with_reducible refine gate_dst (N := 5) rfl ?_); refine Kd.N_lit k44 _ 44 ?hg (N' := 5) ?hd (xs := ([] : List (S44))) (inner := []) (ok := (fun k_ => (P0_ k_ ∨ w.heap.size ≤ k_))) (okp := (fun k_ => (P0_ k_ ∨ w.heap.size ≤ k_))) ?hr ?hp (fun _ hk => hk) ((show ∀ k_, w.heap.size ≤ k_ → (fun k_ => (P0_ k_ ∨ w.heap.size ≤ k_)) k_ from fun k_ hk => (.inr (Nat.le_trans (below_size (by repeat (first | (with_reducible first | exact HB.out | apply below_alloc | apply pw_below_drewN | apply below_drew1) | exact HB.out))) hk))) _ (Nat.le_refl _)) (Below.refl _ _) (Nat.le_refl _) (by simp) ?_; (case hd => rfl); (case hg => rfl); (case hr => first | (go_simp; done) | (go_simp; rfl)); (case hp => exact (Reps.none _ _)); intro v103 w3 ho4 hb hg_ hnew_; clear hg_ hnew_; (first | rw [← Ny102.out] at ho4 | (simp only [Int.reduceToNat] at ho4; rw [← Ny102.out] at ho4)); have n0_ := Aside0.mk (Kd.V_elder' (by (with_reducible repeat (first | apply Kd.V_alloc | apply Kd.V_drewN | apply Kd.V_drew)); exact HO0.out) (Kd.N_base ho4) hb); have n1_ := Aside0.mk (Kd.N_lower ho4 (below_size (by repeat (first | (with_reducible first | exact HB.out | apply below_alloc | apply pw_below_drewN | apply below_drew1) | exact HB.out)))); have n2_ := Aside0.mk (below_step (by repeat (first | (with_reducible first | exact HB.out | apply below_alloc | apply pw_below_drewN | apply below_drew1) | exact HB.out)) hb); clear HO0; clear HB; have HO0 := n0_; have HO104 := n1_; have HB := n2_; clear n0_ n1_ n2_; clear hb ho4) | ((with_reducible refine gate_builtin (b := .append) (xs := #[.tmp 5, .tmp 6]) rfl ?_); at_builtin; refine Kd.N_append_rows k44 (w0 := w) w.heap.size rfl (.tmp 5) (.tmp 6) 22 44 (.agg #[(.int .i64 0), (.slice none 0 0), (.bool false), (.slice none 0 0)]) 64 rfl Tryd.underlying22 info44 rfl (by decide) (by omega) v103 y102 l0 _ _ _ (fun k_ => (P0_ k_ ∨ w.heap.size ≤ k_)) (fun k_ => ((fun k_ => (P0_ k_ ∨ w.heap.size ≤ k_))) k_ ∧ some k_ ≠ (v103 : Value).ownBlock) rfl rfl ?aO ?aR (fun _ hk => hk) ?aF ?aB ?aS ?aL ?_; (case aR => exact (by skip; exact Kd.V_F (Kd.V_mono (ok' := (fun k_ => ((fun k_ => (P0_ k_ ∨ w.heap.size ≤ k_))) k_ ∧ some k_ ≠ (v103 : Value).ownBlock)) (HO0.out) (fun k_ hk => ⟨hk.1, hk.2⟩)))); (case aB => exact (by repeat (first | (with_reducible first | exact HB.out | apply below_alloc | apply pw_below_drewN | apply below_drew1) | exact HB.out))); (case aF => exact (fun k_ hk => (.inr (Nat.le_trans (below_size (by repeat (first | (with_reducible first | exact HB.out | apply below_alloc | apply pw_below_drewN | apply below_drew1) | exact HB.out))) hk)))); (case aO => exact (by (with_reducible repeat (first | apply Kd.N_alloc | apply Kd.N_drewN | apply Kd.N_drew)); exact HO104.out)); (case aS => exact (below_size (by repeat (first | (with_reducible first | exact HB.out | apply below_alloc | apply pw_below_drewN | apply below_drew1) | exact HB.out)))); (case aL => have := LMc2.out; omega); intro v106 w5 ho hb hg hat; rw [← Ny105.out] at ho; have n0_ := Aside0.mk (Kd.V_afterv (ok := (fun k_ => (P0_ k_ ∨ w.heap.size ≤ k_))) (by (with_reducible repeat (first | apply Kd.V_alloc | apply Kd.V_drewN | apply Kd.V_drew)); exact HO0.out) hg hat); have n1_ := Aside0.mk (hb); have n2_ := Aside0.mk (ho); clear HO0; clear HB; clear HO104; have HO0 := n0_; have HB := n1_; have HO107 := n2_; clear n0_ n1_ n2_; clear ho hb hg hat))
    go_ret
    exact ⟨_, by first | rfl | (simp [errW_none, errW_some] <;> rfl) | (simp [*, errW_none, errW_some] <;> rfl), by (with_reducible repeat (first | apply Kd.N_alloc | apply Kd.N_drewN | apply Kd.N_drew)); exact HO107.out, by repeat (first | (with_reducible first | exact HB.out | apply below_alloc | apply pw_below_drewN | apply below_drew1) | exact HB.out)⟩
  · rw [if_neg c2] at H
    exact absurd H (by simp)

/-! ### slices_Clone_int_int: function 26 -/
def slices_Clone_int_int.f (l0 : List (List Int)) : Option ((List (List Int))) := (some (([] : List (List Int)) : List (List Int))).bind fun y108 => (if y108.length + l0.length < 5864062014805 then (some (y108 ++ l0)) else (none))
set_option maxHeartbeats 8000000 in
set_option maxRecDepth 100000 in
theorem slices_Clone_int_int.calls (P0_ : Nat → Prop) (A0 : Option Addr) (c0 : Nat) (l0 : List (List Int)) (r : List (List Int)) (w : World) (hs0 : Kd.V (Kd.slice 3 (Kd.int .i64)) 42 w w.heap.size (fun k_ => P0_ k_) (.slice A0 l0.length c0) l0) (h : slices_Clone_int_int.f l0 = some r) :
    Calls Tryd.prog 26 #[.slice A0 l0.length c0] w fun e w' => ∃ v0_ : Value, e = .returned (v0_) ∧ Kd.N (Kd.slice 3 (Kd.int .i64)) 42 w' w.heap.size (fun k_ => (P0_ k_ ∨ w.heap.size ≤ k_)) v0_ r ∧ Below w.heap.size w w' := by
  by_cases hA0_ : A0 = none
  · subst hA0_
    obtain rfl : l0 = [] := by
      refine List.eq_nil_of_length_eq_zero (Classical.byContradiction fun hz => ?_)
      obtain ⟨_, he_, _⟩ := (Kd.V_reads' hs0).2.2.2.2 (by omega)
      cases he_
    have hrn_ : r = [] := by
      unfold slices_Clone_int_int.f at h
      simp at h
      exact h
    subst hrn_
    have hqn_ : ∀ (W : World) (n c : Nat), (binOp .eql 25 (.slice none n c) (.slice none 0 0)).run Tryd.prog W = .ok (.bool true) W := fun W n c => Lib.run_eql_slice_nil (P := Tryd.prog) W 25 42 none n c 0 0 Tryd.underlying25
    go_enter Tryd.func26, Tryd.ntmps26
    go_wp2
    go_ret
    exact ⟨_, rfl, by first | exact Kd.R_nil _ _ _ _ _ | exact Kd.N_nil _ _ _ _ _ | exact Kd.V_nil _ _ _ _ _, Below.refl _ _⟩
  have hq0_ : ∀ (W : World) (n c : Nat), (binOp .eql 25 (.slice A0 n c) (.slice none 0 0)).run Tryd.prog W = .ok (.bool false) W := fun W n c => by
    rw [Lib.run_eql_slice_nil (P := Tryd.prog) W 25 42 A0 n c 0 0 Tryd.underlying25]
    cases A0
    · exact absurd rfl hA0_
    · rfl
  clear hA0_
  have HO0 := Aside0.mk (show Kd.V (Kd.slice 3 (Kd.int .i64)) 42 w w.heap.size (fun k_ => (P0_ k_ ∨ w.heap.size ≤ k_)) (.slice A0 l0.length c0) l0 from Kd.V_mono hs0 (fun k_ hk => .inl hk))
  have HB := Aside0.mk (Below.refl w.heap.size w)
  have H : ((some (([] : List (List Int)) : List (List Int))).bind fun y108 => (if y108.length + l0.length < 5864062014805 then (some (y108 ++ l0)) else (none))) = some r := h
  clear h
  obtain ⟨y108, hy108⟩ : ∃ y_ : List (List Int), y_ = (([] : List (List Int))) := ⟨_, rfl⟩
  replace H : (if y108.length + l0.length < 5864062014805 then (some (y108 ++ l0)) else (none)) = some r := by first | (rw [hy108]; with_reducible exact H) | (have H2_ := (Option.bind_some _ _).symm.trans H; rw [hy108]; with_reducible exact H2_) | (have H2_ := (Option.bind_some _ _).symm.trans H; with_reducible exact H2_) | with_reducible exact H | (rw [hy108]; exact H) | exact H
  have Ny108 := Aside0.mk hy108
  clear hy108
  by_cases c2 : y108.length + l0.length < 5864062014805
  · rw [if_pos c2] at H
    have LMc2 := Aside0.mk c2
    clear c2
    obtain ⟨y111, hy111⟩ : ∃ y_ : List (List Int), y_ = (y108 ++ l0) := ⟨_, rfl⟩
    replace H : (some y111) = some r := by first | (rw [hy111]; with_reducible exact H) | (have H2_ := (Option.bind_some _ _).symm.trans H; rw [hy111]; with_reducible exact H2_) | (have H2_ := (Option.bind_some _ _).symm.trans H; with_reducible exact H2_) | with_reducible exact H | (rw [hy111]; exact H) | exact H
    have Ny111 := Aside0.mk hy111
    clear hy111
    obtain rfl := Option.some.inj H
    go_enter Tryd.func26, Tryd.ntmps26
    go_wp2_with (first | ((with_reducible refine gate_dst (N := 5) rfl ?_); refine Kd.N_lit (Kd.slice 3 (Kd.int .i64)) _ 42 ?hg (N' := 5) ?hd (xs := ([] : List (List Int))) (inner := []) (ok := (fun k_ => (P0_ k_ ∨ w.heap.size ≤ k_))) (okp := (fun k_ => (P0_ k_ ∨ w.heap.size ≤ k_))) ?hr ?hp (fun _ hk => hk) ((show ∀ k_, w.heap.size ≤ k_ → (fun k_ => (P0_ k_ ∨ w.heap.size ≤ k_)) k_ from fun k_ hk => (.inr (Nat.le_trans (below_size (by repeat (first | (with_reducible first | exact HB.out | apply below_alloc | apply pw_below_drewN | apply below_drew1) | exact HB.out))) hk))) _ (Nat.le_refl _)) (Below.refl _ _) (Nat.le_refl _) (by simp) ?_; (case hd => rfl); (case hg => rfl); (case hr => first | (go_simp; done) | (go_simp; rfl)); (case hp => exact (Reps.none _ _)); intro v109 w3 ho4 hb hg_ hnew_; clear hg_ hnew_; (first | rw [← Ny108.out] at ho4 | (simp only [Int.reduceToNat] at ho4; rw [← Ny108.out] at ho4)); have n0_ := Aside0.mk (Kd.V_elder' (by (with_reducible repeat (first | apply Kd.V_alloc | apply Kd.V_drewN | apply Kd.V_drew)); exact HO0.out) (Kd.N_base ho4) hb); have n1_ := Aside0.mk (Kd.N_lower ho4 (below_size (by repeat (first | (with_reducible first | exact HB.out | apply below_alloc | apply pw_below_drewN | apply below_drew1) | exact HB.out)))); have n2_ := Aside0.mk (below_step (by repeat (first | (with_reducible first | exact HB.out | apply below_alloc | apply pw_below_drewN | apply below_drew1) | exact HB.out)) hb); clear HO0; clear HB; have HO0 := n0_; have HO110 := n1_; have HB := n2_; clear n0_ n1_ n2_; clear hb ho4) | ((with_reducible refine gate_builtin (b := .append) (xs := #[.tmp 5, .tmp 6]) rfl ?_); at_builtin; refine Kd.N_append_rows (Kd.slice 3 (Kd.int .i64)) (w0 := w) w.heap.size rfl (.tmp 5) (.tmp 6) 25 42 (.slice none 0 0) 24 rfl Tryd.underlying25 info42 rfl (by decide) (by omega) v109 y108 l0 _ _ _ (fun k_ => (P0_ k_ ∨ w.heap.size ≤ k_)) (fun k_ => ((fun k_ => (P0_ k_ ∨ w.heap.size ≤ k_))) k_ ∧ some k_ ≠ (v109 : Value).ownBlock) rfl rfl ?aO ?aR (fun _ hk => hk) ?aF ?aB ?aS ?aL ?_; (case aR => exact (by skip; exact Kd.V_F (Kd.V_mono (ok' := (fun k_ => ((fun k_ => (P0_ k_ ∨ w.heap.size ≤ k_))) k_ ∧ some k_ ≠ (v109 : Value).ownBlock)) (HO0.out) (fun k_ hk => ⟨hk.1, hk.2⟩)))); (case aB => exact (by repeat (first | (with_reducible first | exact HB.out | apply below_alloc | apply pw_below_drewN | apply below_drew1) | exact HB.out))); (case aF => exact (fun k_ hk => (.inr (Nat.le_trans (below_size (by repeat (first | (with_reducible first | exact HB.out | apply below_alloc | apply pw_below_drewN | apply below_drew1) | exact HB.out))) hk)))); (case aO => exact (by (with_reducible repeat (first | apply Kd.N_alloc | apply Kd.N_drewN | apply Kd.N_drew)); exact HO110.out)); (case aS => exact (below_size (by repeat (first | (with_reducible first | exact HB.out | apply below_alloc | apply pw_below_drewN | apply below_drew1) | exact HB.out)))); (case aL => have := LMc2.out; omega); intro v112 w5 ho hb hg hat; rw [← Ny111.out] at ho; have n0_ := Aside0.mk (Kd.V_afterv (ok := (fun k_ => (P0_ k_ ∨ w.heap.size ≤ k_))) (by (with_reducible repeat (first | apply Kd.V_alloc | apply Kd.V_drewN | apply Kd.V_drew)); exact HO0.out) hg hat); have n1_ := Aside0.mk (hb); have n2_ := Aside0.mk (ho); clear HO0; clear HB; clear HO110; have HO0 := n0_; have HB := n1_; have HO113 := n2_; clear n0_ n1_ n2_; clear ho hb hg hat))
    go_ret
    exact ⟨_, by first | rfl | (simp [errW_none, errW_some] <;> rfl) | (simp [*, errW_none, errW_some] <;> rfl), by (with_reducible repeat (first | apply Kd.N_alloc | apply Kd.N_drewN | apply Kd.N_drew)); exact HO113.out, by repeat (first | (with_reducible first | exact HB.out | apply below_alloc | apply pw_below_drewN | apply below_drew1) | exact HB.out)⟩
  · rw [if_neg c2] at H
    exact absurd H (by simp)

/-! ### hall_Finish: function 10 -/
def hall_Finish.f (l0_0 : List (S44)) (a1 : Int) (l2 : List (List Int)) : Option ((List (S44)) × Int) := (hall_find.f l0_0 a1 true).bind fun t116 => (if t116 < 0 then (some (l0_0, 4)) else ((hall_Entry_25.f l0_0).bind fun t117 => ((slices_Clone_int_int.f l2).bind fun t120 => (if 0 ≤ t116 then (if t116 < (t117.length : Int) then ((some (t117.set (t116 : Int).toNat (⟨(rd_T44 t117 t116).f0, (rd_T44 t117 t116).f1, true, (rd_T44 t117 t116).f3⟩ : S44) : List (S44))).bind fun y123 => (some ((y123.set (t116 : Int).toNat (⟨(rd_T44 y123 t116).f0, (rd_T44 y123 t116).f1, (rd_T44 y123 t116).f2, t120⟩ : S44)), 0))) else (none)) else (none)))))
set_option maxHeartbeats 8000000 in
set_option maxRecDepth 100000 in
theorem hall_Finish.calls (P0_0_ : Nat → Prop) (A0_0 : Option Addr) (c0_0 : Nat) (l0_0 : List (S44)) (a1 : Int) (P2_ : Nat → Prop) (A2 : Option Addr) (c2 : Nat) (l2 : List (List Int)) (r1 : List (S44)) (r2 : Int) (w : World) (hs0_0 : Kd.V k44 44 w w.heap.size (fun k_ => P0_0_ k_) (.slice A0_0 l0_0.length c0_0) l0_0) (hs2 : Kd.V (Kd.slice 3 (Kd.int .i64)) 42 w w.heap.size (fun k_ => P2_ k_) (.slice A2 l2.length c2) l2) (h : hall_Finish.f l0_0 a1 l2 = some (r1, r2)) :
    Calls Tryd.prog 10 #[.agg #[.slice A0_0 l0_0.length c0_0], .int .i64 a1, .slice A2 l2.length c2] w fun e w' => ∃ v0_ : Value, e = .returned (.tuple #[.agg #[v0_], .int .i64 r2]) ∧ Kd.V k44 44 w' w.heap.size (fun k_ => ((P0_0_ k_ ∨ P2_ k_) ∨ w.heap.size ≤ k_)) v0_ r1 ∧ Below w.heap.size w w' := by
  have hu24 := Tryd.underlying24
  have HO0_0 := Aside0.mk (show Kd.V k44 44 w w.heap.size (fun k_ => ((P0_0_ k_ ∨ P2_ k_) ∨ w.heap.size ≤ k_)) (.slice A0_0 l0_0.length c0_0) l0_0 from Kd.V_mono hs0_0 (fun k_ hk => .inl (.inl hk)))
  have HO2 := Aside0.mk (show Kd.V (Kd.slice 3 (Kd.int .i64)) 42 w w.heap.size (fun k_ => ((P0_0_ k_ ∨ P2_ k_) ∨ w.heap.size ≤ k_)) (.slice A2 l2.length c2) l2 from Kd.V_mono hs2 (fun k_ hk => .inl (.inr hk)))
  have HB := Aside0.mk (Below.refl w.heap.size w)
  have H : ((hall_find.f l0_0 a1 true).bind fun t116 => (if t116 < 0 then (some (l0_0, 4)) else ((hall_Entry_25.f l0_0).bind fun t117 => ((slices_Clone_int_int.f l2).bind fun t120 => (if 0 ≤ t116 then (if t116 < (t117.length : Int) then ((some (t117.set (t116 : Int).toNat (⟨(rd_T44 t117 t116).f0, (rd_T44 t117 t116).f1, true, (rd_T44 t117 t116).f3⟩ : S44) : List (S44))).bind fun y123 => (some ((y123.set (t116 : Int).toNat (⟨(rd_T44 y123 t116).f0, (rd_T44 y123 t116).f1, (rd_T44 y123 t116).f2, t120⟩ : S44)), 0))) else (none)) else (none)))))) = some (r1, r2) := h
  clear h
  replace H := Option.bind_eq_some_iff.mp H
  obtain ⟨t116, A40, H⟩ := H
  replace H : (if t116 < 0 then (some (l0_0, 4)) else ((hall_Entry_25.f l0_0).bind fun t117 => ((slices_Clone_int_int.f l2).bind fun t120 => (if 0 ≤ t116 then (if t116 < (t117.length : Int) then ((some (t117.set (t116 : Int).toNat (⟨(rd_T44 t117 t116).f0, (rd_T44 t117 t116).f1, true, (rd_T44 t117 t116).f3⟩ : S44) : List (S44))).bind fun y123 => (some ((y123.set (t116 : Int).toNat (⟨(rd_T44 y123 t116).f0, (rd_T44 y123 t116).f1, (rd_T44 y123 t116).f2, t120⟩ : S44)), 0))) else (none)) else (none))))) = some (r1, r2) := H
  have A4 := Aside0.mk A40
  clear A40
  by_cases c5 : t116 < 0
  · rw [if_pos c5] at H
    have c5b0 : decide (t116 < 0) = true := decide_eq_true c5
    clear c5
    simp only [Option.some.injEq, Prod.mk.injEq] at H
    obtain ⟨rfl, rfl⟩ := H
    go_enter Tryd.func10, Tryd.ntmps10
    go_wp2_with (first | ((with_reducible refine gate_dst (N := 3) rfl ?_); refine box_event ?hg (N := 3) ?hd (cs := #[.slice A0_0 l0_0.length c0_0]) (t := 24) ?hr ?_; (case hd => rfl); (case hg => rfl); (case hr => first | (go_simp; done) | (go_simp; rfl)); intro gb114 hg w6 hbox hb; have n0_ := Aside0.mk (Kd.V_below (Kd.V_elderB (by (with_reducible repeat (first | apply Kd.V_alloc | apply Kd.V_drewN | apply Kd.V_drew)); exact HO0_0.out) gb114 (Nat.le_of_eq hg.symm)) hb); have n1_ := Aside0.mk (Kd.V_below (Kd.V_elderB (by (with_reducible repeat (first | apply Kd.V_alloc | apply Kd.V_drewN | apply Kd.V_drew)); exact HO2.out) gb114 (Nat.le_of_eq hg.symm)) hb); have n2_ := Aside0.mk (below_step (by repeat (first | (with_reducible first | exact HB.out | apply below_alloc | apply pw_below_drewN | apply below_drew1) | exact HB.out)) hb); have n3_ := Aside0.mk (hbox); have n4_ := Aside0.mk ((by rw [hg]; exact (below_size (by repeat (first | (with_reducible first | exact HB.out | apply below_alloc | apply pw_below_drewN | apply below_drew1) | exact HB.out))) : w.heap.size ≤ gb114)); have n5_ := Aside0.mk ((by rw [hg]; exact (below_size (by repeat (first | (with_reducible first | exact HB.out | apply below_alloc | apply pw_below_drewN | apply below_drew1) | exact HB.out))) : w.heap.size ≤ gb114)); clear HO0_0; clear HO2; clear HB; have HO0_0 := n0_; have HO2 := n1_; have HB := n2_; have BK114 := n3_; have GW114 := n4_; have GE114 := n5_; clear n0_ n1_ n2_ n3_ n4_ n5_; clear hb hbox hg) | ((with_reducible refine gate_dst (N := 6) rfl ?_); refine box_event ?hg (N := 6) ?hd (cs := #[.slice none 0 0]) (t := 24) ?hr ?_; (case hd => rfl); (case hg => rfl); (case hr => first | (go_simp; done) | (go_simp; rfl)); intro gb115 hg w7 hbox hb; have n0_ := Aside0.mk (Kd.V_below (Kd.V_elderB (by (with_reducible repeat (first | apply Kd.V_alloc | apply Kd.V_drewN | apply Kd.V_drew)); exact HO0_0.out) gb115 (Nat.le_of_eq hg.symm)) hb); have n1_ := Aside0.mk (Kd.V_below (Kd.V_elderB (by (with_reducible repeat (first | apply Kd.V_alloc | apply Kd.V_drewN | apply Kd.V_drew)); exact HO2.out) gb115 (Nat.le_of_eq hg.symm)) hb); have n2_ := Aside0.mk (blk_below (g := gb114) (o := .cells #[.slice A0_0 l0_0.length c0_0] 24 (0, 0)) (by (with_reducible repeat (first | refine blk_drewN ?_ _ | refine blk_drew ?_ | refine blk_alloc ?_ _)); exact BK114.out) hb); have n3_ := Aside0.mk (below_step (by repeat (first | (with_reducible first | exact HB.out | apply below_alloc | apply pw_below_drewN | apply below_drew1 | refine below_set ?_ GE114.out) | exact HB.out)) hb); have n4_ := Aside0.mk (hbox); have n5_ := Aside0.mk ((by rw [hg]; exact (below_size (by repeat (first | (with_reducible first | exact HB.out | apply below_alloc | apply pw_below_drewN | apply below_drew1 | refine below_set ?_ GE114.out) | exact HB.out))) : w.heap.size ≤ gb115)); have n6_ := Aside0.mk ((by rw [hg]; exact (below_size (by repeat (first | (with_reducible first | exact HB.out | apply below_alloc | apply pw_below_drewN | apply below_drew1 | refine below_set ?_ GE114.out) | exact HB.out))) : w.heap.size ≤ gb115)); have n7_ := Aside0.mk ((by rw [hg]; exact Nat.ne_of_lt (blk_lt (g := gb114) (o := .cells #[.slice A0_0 l0_0.length c0_0] 24 (0, 0)) (by (with_reducible repeat (first | refine blk_drewN ?_ _ | refine blk_drew ?_ | refine blk_alloc ?_ _)); exact BK114.out)) : gb114 ≠ gb115)); have n8_ := Aside0.mk ((by rw [hg]; exact Nat.ne_of_gt (blk_lt (g := gb114) (o := .cells #[.slice A0_0 l0_0.length c0_0] 24 (0, 0)) (by (with_reducible repeat (first | refine blk_drewN ?_ _ | refine blk_drew ?_ | refine blk_alloc ?_ _)); exact BK114.out)) : gb115 ≠ gb114)); clear HO0_0; clear HO2; clear BK114; clear HB; have HO0_0 := n0_; have HO2 := n1_; have BK114 := n2_; have HB := n3_; have BK115 := n4_; have GW115 := n5_; have GE115 := n6_; have NB114_115 := n7_; have NB115_114 := n8_; clear n0_ n1_ n2_ n3_ n4_ n5_ n6_ n7_ n8_; clear hb hbox hg; have hnb8 := NB114_115.out; have hnc8 := NB115_114.out; have hcz9_0 : w7.cell? ⟨gb114, 0, none⟩ = some (.slice A0_0 l0_0.length c0_0) := (blk_cell BK114.out 0).trans rfl; have hfz9_0 := blk_frozen BK114.out 0) | ((with_reducible refine gate_callee (f := 24) rfl ?_); refine goesL_ (some 12) rfl rfl Tryd.func24 (by kernel_rfl) rfl #[.agg #[.slice A0_0 l0_0.length c0_0], .int .i64 a1, .bool true] rfl (by (try simp only [List.map_toArray, List.map_cons, List.map_nil]); first | done | rfl | (simp only [List.length_drop, List.length_take]; rfl)) ?_; (with_reducible refine (hall_find.calls _ _ l0_0 a1 true t116 _ ?side1 ?side2 A4.out).mono ?_); (case side1 => repeat (first | exact (Kd.V_reads' HO0_0.out).2.2 | (with_reducible refine Kd.C_alloc ?_ _) | (with_reducible refine Kd.C_drewN ?_ _) | (with_reducible refine Kd.C_drew ?_))); (case side2 => exact (Kd.V_reads' HO0_0.out).2.1); rintro e w10 ⟨rfl, hb⟩; refine ⟨_, rfl, ?_⟩; have n0_ := Aside0.mk (Kd.V_below (by (with_reducible repeat (first | apply Kd.V_alloc | apply Kd.V_drewN | apply Kd.V_drew)); exact HO0_0.out) hb); have n1_ := Aside0.mk (Kd.V_below (by (with_reducible repeat (first | apply Kd.V_alloc | apply Kd.V_drewN | apply Kd.V_drew)); exact HO2.out) hb); have n2_ := Aside0.mk (blk_below (g := gb114) (o := .cells #[.slice A0_0 l0_0.length c0_0] 24 (0, 0)) (by (with_reducible repeat (first | refine blk_drewN ?_ _ | refine blk_drew ?_ | refine blk_alloc ?_ _)); exact BK114.out) hb); have n3_ := Aside0.mk (blk_below (g := gb115) (o := .cells #[.slice none 0 0] 24 (0, 0)) (by (with_reducible repeat (first | refine blk_drewN ?_ _ | refine blk_drew ?_ | refine blk_alloc ?_ _)); exact BK115.out) hb); have n4_ := Aside0.mk (below_step (by repeat (first | (with_reducible first | exact HB.out | apply below_alloc | apply pw_below_drewN | apply below_drew1 | refine below_set ?_ GE114.out | refine below_set ?_ GE115.out) | exact HB.out)) hb); clear HO0_0; clear HO2; clear BK114; clear BK115; clear HB; have HO0_0 := n0_; have HO2 := n1_; have BK114 := n2_; have BK115 := n3_; have HB := n4_; clear n0_ n1_ n2_ n3_ n4_; (try clear hb); (try clear hb2); (try clear hk); (try clear hi); have hcz11_0 : w10.cell? ⟨gb114, 0, none⟩ = some (.slice A0_0 l0_0.length c0_0) := (blk_cell BK114.out 0).trans rfl; have hfz11_0 := blk_frozen BK114.out 0; have hcz12_0 : w10.cell? ⟨gb115, 0, none⟩ = some (.slice none 0 0) := (blk_cell BK115.out 0).trans rfl; have hfz12_0 := blk_frozen BK115.out 0))
    refine bodyPost_ret (results_ct rfl _ _ gb115 24 #[.slice A0_0 l0_0.length c0_0] (0, 0) _ rfl (by (with_reducible repeat (first | refine blk_drewN ?_ _ | refine blk_drew ?_ | refine blk_alloc ?_ _)); refine blk_put (cs := #[.slice none 0 0]) ?_ 0 _ rfl; (with_reducible repeat (first | refine blk_drewN ?_ _ | refine blk_drew ?_ | refine blk_alloc ?_ _)); exact BK115.out) Tryd.underlying24 rfl (by kernel_rfl)) rfl ?_
    exact ⟨_, by first | rfl | (simp [errW_none, errW_some] <;> rfl) | (simp [*, errW_none, errW_some] <;> rfl), by (with_reducible repeat (first | apply Kd.V_alloc | apply Kd.V_drewN | apply Kd.V_drew)); exact Kd.V_mono (Kd.V_far (p := ⟨gb115, 0, none⟩) (Kd.V_mono HO0_0.out (fun k_ hk => (⟨hk, hk.2⟩ : _ ∧ k_ ≠ gb115))) (fun _ hk => hk.2) (.slice A0_0 l0_0.length c0_0)) (fun _ hk => hk.1.1.1), by repeat (first | (with_reducible first | exact HB.out | apply below_alloc | apply pw_below_drewN | apply below_drew1 | refine below_set ?_ GE114.out | refine below_set ?_ GE115.out) | exact HB.out)⟩
  · rw [if_neg c5] at H
    have c5b0 : decide (t116 < 0) = false := decide_eq_false c5
    clear c5
    replace H := Option.bind_eq_some_iff.mp H
    obtain ⟨t117, A130, H⟩ := H
    replace H : ((slices_Clone_int_int.f l2).bind fun t120 => (if 0 ≤ t116 then (if t116 < (t117.length : Int) then ((some (t117.set (t116 : Int).toNat (⟨(rd_T44 t117 t116).f0, (rd_T44 t117 t116).f1, true, (rd_T44 t117 t116).f3⟩ : S44) : List (S44))).bind fun y123 => (some ((y123.set (t116 : Int).toNat (⟨(rd_T44 y123 t116).f0, (rd_T44 y123 t116).f1, (rd_T44 y123 t116).f2, t120⟩ : S44)), 0))) else (none)) else (none))) = some (r1, r2) := H
    have A13 := Aside0.mk A130
    clear A130
    replace H := Option.bind_eq_some_iff.mp H
    obtain ⟨t120, A140, H⟩ := H
    replace H : (if 0 ≤ t116 then (if t116 < (t117.length : Int) then ((some (t117.set (t116 : Int).toNat (⟨(rd_T44 t117 t116).f0, (rd_T44 t117 t116).f1, true, (rd_T44 t117 t116).f3⟩ : S44) : List (S44))).bind fun y123 => (some ((y123.set (t116 : Int).toNat (⟨(rd_T44 y123 t116).f0, (rd_T44 y123 t116).f1, (rd_T44 y123 t116).f2, t120⟩ : S44)), 0))) else (none)) else (none)) = some (r1, r2) := H
    have A14 := Aside0.mk A140
    clear A140
    by_cases c15 : 0 ≤ t116
    · rw [if_pos c15] at H
      have c15b0 : decide (0 ≤ t116) = true := decide_eq_true c15
      clear c15
      by_cases c16 : t116 < (t117.length : Int)
      · rw [if_pos c16] at H
        have c16b0 : decide (t116 < (t117.length : Int)) = true := decide_eq_true c16
        clear c16
        obtain ⟨y123, hy123⟩ : ∃ y_ : List (S44), y_ = (t117.set (t116 : Int).toNat (⟨(rd_T44 t117 t116).f0, (rd_T44 t117 t116).f1, true, (rd_T44 t117 t116).f3⟩ : S44)) := ⟨_, rfl⟩
        replace H : (some ((y123.set (t116 : Int).toNat (⟨(rd_T44 y123 t116).f0, (rd_T44 y123 t116).f1, (rd_T44 y123 t116).f2, t120⟩ : S44)), 0)) = some (r1, r2) := by first | (rw [hy123]; with_reducible exact H) | (have H2_ := (Option.bind_some _ _).symm.trans H; rw [hy123]; with_reducible exact H2_) | (have H2_ := (Option.bind_some _ _).symm.trans H; with_reducible exact H2_) | with_reducible exact H | (rw [hy123]; exact H) | exact H
        have Ny123 := Aside0.mk hy123
        clear hy123
        obtain ⟨y124, hy124⟩ : ∃ y_ : List (S44), y_ = (y123.set (t116 : Int).toNat (⟨(rd_T44 y123 t116).f0, (rd_T44 y123 t116).f1, (rd_T44 y123 t116).f2, t120⟩ : S44)) := ⟨_, rfl⟩
        replace H : (some (y124, 0)) = some (r1, r2) := by first | (rw [hy124]; with_reducible exact H) | (have H2_ := (Option.bind_some _ _).symm.trans H; rw [hy124]; with_reducible exact H2_) | (have H2_ := (Option.bind_some _ _).symm.trans H; with_reducible exact H2_) | with_reducible exact H | (rw [hy124]; exact H) | exact H
        have Ny124 := Aside0.mk hy124
        clear hy124
        simp only [Option.some.injEq, Prod.mk.injEq] at H
        obtain ⟨rfl, rfl⟩ := H
        go_enter Tryd.func10, Tryd.ntmps10
        go_wp2_with (first | ((with_reducible refine gate_dst (N := 3) rfl ?_); refine box_event ?hg (N := 3) ?hd (cs := #[.slice A0_0 l0_0.length c0_0]) (t := 24) ?hr ?_; (case hd => rfl); (case hg => rfl); (case hr => first | (go_simp; done) | (go_simp; rfl)); intro gb114 hg w19 hbox hb; have n0_ := Aside0.mk (Kd.V_below (Kd.V_elderB (by (with_reducible repeat (first | apply Kd.V_alloc | apply Kd.V_drewN | apply Kd.V_drew)); exact HO0_0.out) gb114 (Nat.le_of_eq hg.symm)) hb); have n1_ := Aside0.mk (Kd.V_below (Kd.V_elderB (by (with_reducible repeat (first | apply Kd.V_alloc | apply Kd.V_drewN | apply Kd.V_drew)); exact HO2.out) gb114 (Nat.le_of_eq hg.symm)) hb); have n2_ := Aside0.mk (below_step (by repeat (first | (with_reducible first | exact HB.out | apply below_alloc | apply pw_below_drewN | apply below_drew1) | exact HB.out)) hb); have n3_ := Aside0.mk (hbox); have n4_ := Aside0.mk ((by rw [hg]; exact (below_size (by repeat (first | (with_reducible first | exact HB.out | apply below_alloc | apply pw_below_drewN | apply below_drew1) | exact HB.out))) : w.heap.size ≤ gb114)); have n5_ := Aside0.mk ((by rw [hg]; exact (below_size (by repeat (first | (with_reducible first | exact HB.out | apply below_alloc | apply pw_below_drewN | apply below_drew1) | exact HB.out))) : w.heap.size ≤ gb114)); clear HO0_0; clear HO2; clear HB; have HO0_0 := n0_; have HO2 := n1_; have HB := n2_; have BK114 := n3_; have GW114 := n4_; have GE114 := n5_; clear n0_ n1_ n2_ n3_ n4_ n5_; clear hb hbox hg) | ((with_reducible refine gate_dst (N := 6) rfl ?_); refine box_event ?hg (N := 6) ?hd (cs := #[.slice none 0 0]) (t := 24) ?hr ?_; (case hd => rfl); (case hg => rfl); (case hr => first | (go_simp; done) | (go_simp; rfl)); intro gb115 hg w20 hbox hb; have n0_ := Aside0.mk (Kd.V_below (Kd.V_elderB (by (with_reducible repeat (first | apply Kd.V_alloc | apply Kd.V_drewN | apply Kd.V_drew)); exact HO0_0.out) gb115 (Nat.le_of_eq hg.symm)) hb); have n1_ := Aside0.mk (Kd.V_below (Kd.V_elderB (by (with_reducible repeat (first | apply Kd.V_alloc | apply Kd.V_drewN | apply Kd.V_drew)); exact HO2.out) gb115 (Nat.le_of_eq hg.symm)) hb); have n2_ := Aside0.mk (blk_below (g := gb114) (o := .cells #[.slice A0_0 l0_0.length c0_0] 24 (0, 0)) (by (with_reducible repeat (first | refine blk_drewN ?_ _ | refine blk_drew ?_ | refine blk_alloc ?_ _)); exact BK114.out) hb); have n3_ := Aside0.mk (below_step (by repeat (first | (with_reducible first | exact HB.out | apply below_alloc | apply pw_below_drewN | apply below_drew1 | refine below_set ?_ GE114.out) | exact HB.out)) hb); have n4_ := Aside0.mk (hbox); have n5_ := Aside0.mk ((by rw [hg]; exact (below_size (by repeat (first | (with_reducible first | exact HB.out | apply below_alloc | apply pw_below_drewN | apply below_drew1 | refine below_set ?_ GE114.out) | exact HB.out))) : w.heap.size ≤ gb115)); have n6_ := Aside0.mk ((by rw [hg]; exact (below_size (by repeat (first | (with_reducible first | exact HB.out | apply below_alloc | apply pw_below_drewN | apply below_drew1 | refine below_set ?_ GE114.out) | exact HB.out))) : w.heap.size ≤ gb115)); have n7_ := Aside0.mk ((by rw [hg]; exact Nat.ne_of_lt (blk_lt (g := gb114) (o := .cells #[.slice A0_0 l0_0.length c0_0] 24 (0, 0)) (by (with_reducible repeat (first | refine blk_drewN ?_ _ | refine blk_drew ?_ | refine blk_alloc ?_ _)); exact BK114.out)) : gb114 ≠ gb115)); have n8_ := Aside0.mk ((by rw [hg]; exact Nat.ne_of_gt (blk_lt (g := gb114) (o := .cells #[.slice A0_0 l0_0.length c0_0] 24 (0, 0)) (by (with_reducible repeat (first | refine blk_drewN ?_ _ | refine blk_drew ?_ | refine blk_alloc ?_ _)); exact BK114.out)) : gb115 ≠ gb114)); clear HO0_0; clear HO2; clear BK114; clear HB; have HO0_0 := n0_; have HO2 := n1_; have BK114 := n2_; have HB := n3_; have BK115 := n4_; have GW115 := n5_; have GE115 := n6_; have NB114_115 := n7_; have NB115_114 := n8_; clear n0_ n1_ n2_ n3_ n4_ n5_ n6_ n7_ n8_; clear hb hbox hg; have hnb21 := NB114_115.out; have hnc21 := NB115_114.out; have hcz22_0 : w20.cell? ⟨gb114, 0, none⟩ = some (.slice A0_0 l0_0.length c0_0) := (blk_cell BK114.out 0).trans rfl; have hfz22_0 := blk_frozen BK114.out 0) | ((with_reducible refine gate_callee (f := 24) rfl ?_); refine goesL_ (some 12) rfl rfl Tryd.func24 (by kernel_rfl) rfl #[.agg #[.slice A0_0 l0_0.length c0_0], .int .i64 a1, .bool true] rfl (by (try simp only [List.map_toArray, List.map_cons, List.map_nil]); first | done | rfl | (simp only [List.length_drop, List.length_take]; rfl)) ?_; (with_reducible refine (hall_find.calls _ _ l0_0 a1 true t116 _ ?side1 ?side2 A4.out).mono ?_); (case side1 => repeat (first | exact (Kd.V_reads' HO0_0.out).2.2 | (with_reducible refine Kd.C_alloc ?_ _) | (with_reducible refine Kd.C_drewN ?_ _) | (with_reducible refine Kd.C_drew ?_))); (case side2 => exact (Kd.V_reads' HO0_0.out).2.1); rintro e w23 ⟨rfl, hb⟩; refine ⟨_, rfl, ?_⟩; have n0_ := Aside0.mk (Kd.V_below (by (with_reducible repeat (first | apply Kd.V_alloc | apply Kd.V_drewN | apply Kd.V_drew)); exact HO0_0.out) hb); have n1_ := Aside0.mk (Kd.V_below (by (with_reducible repeat (first | apply Kd.V_alloc | apply Kd.V_drewN | apply Kd.V_drew)); exact HO2.out) hb); have n2_ := Aside0.mk (blk_below (g := gb114) (o := .cells #[.slice A0_0 l0_0.length c0_0] 24 (0, 0)) (by (with_reducible repeat (first | refine blk_drewN ?_ _ | refine blk_drew ?_ | refine blk_alloc ?_ _)); exact BK114.out) hb); have n3_ := Aside0.mk (blk_below (g := gb115) (o := .cells #[.slice none 0 0] 24 (0, 0)) (by (with_reducible repeat (first | refine blk_drewN ?_ _ | refine blk_drew ?_ | refine blk_alloc ?_ _)); exact BK115.out) hb); have n4_ := Aside0.mk (below_step (by repeat (first | (with_reducible first | exact HB.out | apply below_alloc | apply pw_below_drewN | apply below_drew1 | refine below_set ?_ GE114.out | refine below_set ?_ GE115.out) | exact HB.out)) hb); clear HO0_0; clear HO2; clear BK114; clear BK115; clear HB; have HO0_0 := n0_; have HO2 := n1_; have BK114 := n2_; have BK115 := n3_; have HB := n4_; clear n0_ n1_ n2_ n3_ n4_; (try clear hb); (try clear hb2); (try clear hk); (try clear hi); have hcz24_0 : w23.cell? ⟨gb114, 0, none⟩ = some (.slice A0_0 l0_0.length c0_0) := (blk_cell BK114.out 0).trans rfl; have hfz24_0 := blk_frozen BK114.out 0) | ((with_reducible refine gate_callee (f := 25) rfl ?_); refine goesL_ (some 18) rfl rfl Tryd.func25 (by kernel_rfl) rfl #[.slice A0_0 l0_0.length c0_0] rfl (by (try simp only [List.map_toArray, List.map_cons, List.map_nil]); first | done | rfl | (simp only [List.length_drop, List.length_take]; rfl)) ?_; (with_reducible refine (hall_Entry_25.calls (fun k_ => ((((P0_0_ k_ ∨ P2_ k_) ∨ w.heap.size ≤ k_) ∧ k_ ≠ gb114) ∧ k_ ≠ gb115)) _ _ l0_0 t117 _ ?side1 A13.out).mono ?_); (case side1 => exact HO0_0.out); rintro e w25 ⟨v118, rfl, ho0, hb⟩; refine ⟨_, rfl, ?_⟩; have n0_ := Aside0.mk (Kd.V_elder' (by (with_reducible repeat (first | apply Kd.V_alloc | apply Kd.V_drewN | apply Kd.V_drew)); exact HO0_0.out) (Kd.N_base ho0) hb); have n1_ := Aside0.mk (Kd.V_elder' (by (with_reducible repeat (first | apply Kd.V_alloc | apply Kd.V_drewN | apply Kd.V_drew)); exact HO2.out) (Kd.N_base ho0) hb); have n2_ := Aside0.mk (Kd.N_lower (Kd.N_mono (ok' := fun k_ => ((P0_0_ k_ ∨ P2_ k_) ∨ w.heap.size ≤ k_) ∧ k_ ≠ gb114 ∧ k_ ≠ gb115) ho0 (fun k_ hk_ => ⟨Or.elim hk_ (fun hs_ => hs_.1.1) (fun hn_ => (.inr (Nat.le_trans (below_size (by repeat (first | (with_reducible first | exact HB.out | apply below_alloc | apply pw_below_drewN | apply below_drew1 | refine below_set ?_ GE114.out | refine below_set ?_ GE115.out) | exact HB.out))) hn_))), Or.elim hk_ (fun hs_ => hs_.1.2) (fun hn_ => (Kd.freshB (g := gb114) (o := .cells #[.slice A0_0 l0_0.length c0_0] 24 (0, 0)) (by (with_reducible repeat (first | refine blk_drewN ?_ _ | refine blk_drew ?_ | refine blk_alloc ?_ _)); exact BK114.out) k_ hn_)), Or.elim hk_ (fun hs_ => hs_.2) (fun hn_ => (Kd.freshB (g := gb115) (o := .cells #[.slice none 0 0] 24 (0, 0)) (by (with_reducible repeat (first | refine blk_drewN ?_ _ | refine blk_drew ?_ | refine blk_alloc ?_ _)); exact BK115.out) k_ hn_))⟩)) (below_size (by repeat (first | (with_reducible first | exact HB.out | apply below_alloc | apply pw_below_drewN | apply below_drew1 | refine below_set ?_ GE114.out | refine below_set ?_ GE115.out) | exact HB.out)))); have n3_ := Aside0.mk (blk_below (g := gb114) (o := .cells #[.slice A0_0 l0_0.length c0_0] 24 (0, 0)) (by (with_reducible repeat (first | refine blk_drewN ?_ _ | refine blk_drew ?_ | refine blk_alloc ?_ _)); exact BK114.out) hb); have n4_ := Aside0.mk (blk_below (g := gb115) (o := .cells #[.slice none 0 0] 24 (0, 0)) (by (with_reducible repeat (first | refine blk_drewN ?_ _ | refine blk_drew ?_ | refine blk_alloc ?_ _)); exact BK115.out) hb); have n5_ := Aside0.mk (below_step (by repeat (first | (with_reducible first | exact HB.out | apply below_alloc | apply pw_below_drewN | apply below_drew1 | refine below_set ?_ GE114.out | refine below_set ?_ GE115.out) | exact HB.out)) hb); clear HO0_0; clear HO2; clear BK114; clear BK115; clear HB; have HO0_0 := n0_; have HO2 := n1_; have HO119 := n2_; have BK114 := n3_; have BK115 := n4_; have HB := n5_; clear n0_ n1_ n2_ n3_ n4_ n5_; (try clear hb); (try clear hb2); (try clear hk); (try clear hi); (try clear ho0)) | ((with_reducible refine gate_callee (f := 26) rfl ?_); refine goesL_ (some 24) rfl rfl Tryd.func26 (by kernel_rfl) rfl #[.slice A2 l2.length c2] rfl (by (try simp only [List.map_toArray, List.map_cons, List.map_nil]); first | done | rfl | (simp only [List.length_drop, List.length_take]; rfl)) ?_; (with_reducible refine (slices_Clone_int_int.calls (fun k_ => (((((P0_0_ k_ ∨ P2_ k_) ∨ w.heap.size ≤ k_) ∧ k_ ≠ gb114) ∧ k_ ≠ gb115) ∧ some k_ ≠ (v118 : Value).ownBlock)) _ _ l2 t120 _ ?side1 A14.out).mono ?_); (case side1 => exact HO2.out); rintro e w26 ⟨v121, rfl, ho0, hb⟩; obtain ⟨A131, c131, rfl⟩ := Kd.N_slice ho0; refine ⟨_, rfl, ?_⟩; have n0_ := Aside0.mk (Kd.V_elder' (by (with_reducible repeat (first | apply Kd.V_alloc | apply Kd.V_drewN | apply Kd.V_drew)); exact HO0_0.out) (Kd.N_base ho0) hb); have n1_ := Aside0.mk (Kd.V_elder' (by (with_reducible repeat (first | apply Kd.V_alloc | apply Kd.V_drewN | apply Kd.V_drew)); exact HO2.out) (Kd.N_base ho0) hb); have n2_ := Aside0.mk (Kd.N_elder' (by (with_reducible repeat (first | apply Kd.N_alloc | apply Kd.N_drewN | apply Kd.N_drew)); exact HO119.out) (Kd.N_base ho0) hb); have n3_ := Aside0.mk (Kd.N_lower (Kd.N_mono (ok' := fun k_ => ((P0_0_ k_ ∨ P2_ k_) ∨ w.heap.size ≤ k_) ∧ some k_ ≠ (v118 : Value).ownBlock ∧ k_ ≠ gb114 ∧ k_ ≠ gb115) ho0 (fun k_ hk_ => ⟨Or.elim hk_ (fun hs_ => hs_.1.1.1) (fun hn_ => (.inr (Nat.le_trans (below_size (by repeat (first | (with_reducible first | exact HB.out | apply below_alloc | apply pw_below_drewN | apply below_drew1 | refine below_set ?_ GE114.out | refine below_set ?_ GE115.out) | exact HB.out))) hn_))), Or.elim hk_ (fun hs_ => hs_.2) (fun hn_ => (Kd.fresh' (Kd.N_lt (by (with_reducible repeat (first | apply Kd.N_alloc | apply Kd.N_drewN | apply Kd.N_drew)); exact HO119.out)) k_ hn_)), Or.elim hk_ (fun hs_ => hs_.1.1.2) (fun hn_ => (Kd.freshB (g := gb114) (o := .cells #[.slice A0_0 l0_0.length c0_0] 24 (0, 0)) (by (with_reducible repeat (first | refine blk_drewN ?_ _ | refine blk_drew ?_ | refine blk_alloc ?_ _)); exact BK114.out) k_ hn_)), Or.elim hk_ (fun hs_ => hs_.1.2) (fun hn_ => (Kd.freshB (g := gb115) (o := .cells #[.slice none 0 0] 24 (0, 0)) (by (with_reducible repeat (first | refine blk_drewN ?_ _ | refine blk_drew ?_ | refine blk_alloc ?_ _)); exact BK115.out) k_ hn_))⟩)) (below_size (by repeat (first | (with_reducible first | exact HB.out | apply below_alloc | apply pw_below_drewN | apply below_drew1 | refine below_set ?_ GE114.out | refine below_set ?_ GE115.out) | exact HB.out)))); have n4_ := Aside0.mk (blk_below (g := gb114) (o := .cells #[.slice A0_0 l0_0.length c0_0] 24 (0, 0)) (by (with_reducible repeat (first | refine blk_drewN ?_ _ | refine blk_drew ?_ | refine blk_alloc ?_ _)); exact BK114.out) hb); have n5_ := Aside0.mk (blk_below (g := gb115) (o := .cells #[.slice none 0 0] 24 (0, 0)) (by (with_reducible repeat (first | refine blk_drewN ?_ _ | refine blk_drew ?_ | refine blk_alloc ?_ _)); exact BK115.out) hb); have n6_ := Aside0.mk (below_step (by repeat (first | (with_reducible first | exact HB.out | apply below_alloc | apply pw_below_drewN | apply below_drew1 | refine below_set ?_ GE114.out | refine below_set ?_ GE115.out) | exact HB.out)) hb); clear HO0_0; clear HO2; clear HO119; clear BK114; clear BK115; clear HB; have HO0_0 := n0_; have HO2 := n1_; have HO119 := n2_; have HO122 := n3_; have BK114 := n4_; have BK115 := n5_; have HB := n6_; clear n0_ n1_ n2_ n3_ n4_ n5_ n6_; (try clear hb); (try clear hb2); (try clear hk); (try clear hi); (try clear ho0); have p17 : 0 ≤ (t116 : Int) := of_decide_eq_true (by first | (with_reducible assumption) | assumption); have q17 : (t116 : Int) < ((t117.length : Int) : Int) := of_decide_eq_true (by first | (with_reducible assumption) | assumption); obtain ⟨go17, co17, eo17, gb17, gl17, cl17, HG17⟩ := Kd.N_form HO119.out (by omega); (first | cases eo17 | (injection eo17 with ea_ en_ ec_; (first | subst ea_ | (injection ea_ with ea_; subst ea_)); subst ec_; clear en_)); have GB17 := Aside0.mk gb17; have GG17 := Aside0.mk HG17; clear gb17 gl17 HG17; obtain ⟨ce17, hcl17, hM17, hcc17, hfr17⟩ := Kd.N_elem HO119.out z44 (t116 : Int) p17 q17; obtain ⟨ua17_1, uc17_1, ua17_3, uc17_3, rfl, ul17_1, ge17_1, ul17_3, ge17_3⟩ := k44_openF hM17; have hx17_0 : w26.cell? ⟨go17, (t116 : Int).toNat * 4, none⟩ = some (.int .i64 ((rd_T44 t117 t116).f0)) := hcc17 0 _ rfl; have hx17_1 : w26.cell? ⟨go17, (t116 : Int).toNat * 4 + 1, none⟩ = some (.slice ua17_1 ((rd_T44 t117 t116).f1).length uc17_1) := hcc17 1 _ rfl; have hx17_2 : w26.cell? ⟨go17, (t116 : Int).toNat * 4 + 2, none⟩ = some (.bool ((rd_T44 t117 t116).f2)) := hcc17 2 _ rfl; have hx17_3 : w26.cell? ⟨go17, (t116 : Int).toNat * 4 + 3, none⟩ = some (.slice ua17_3 ((rd_T44 t117 t116).f3).length uc17_3) := hcc17 3 _ rfl; have hf17_0 : w26.frozen? ⟨go17, (t116 : Int).toNat * 4, none⟩ = false := hfr17 0; have hf17_1 : w26.frozen? ⟨go17, (t116 : Int).toNat * 4 + 1, none⟩ = false := hfr17 1; have hf17_2 : w26.frozen? ⟨go17, (t116 : Int).toNat * 4 + 2, none⟩ = false := hfr17 2; have hf17_3 : w26.frozen? ⟨go17, (t116 : Int).toNat * 4 + 3, none⟩ = false := hfr17 3; clear hcl17 hcc17 hfr17 hM17; replace p17 := eq_true p17; replace q17 := eq_true q17; have n_ := Aside0.mk (Kd.N_mono (ok' := (fun k_ => ((P0_0_ k_ ∨ P2_ k_) ∨ w.heap.size ≤ k_) ∧ some k_ ≠ ((Value.slice A131 t120.length c131) : Value).ownBlock ∧ k_ ≠ gb114 ∧ k_ ≠ gb115)) HO119.out (fun k_ hk => ⟨hk.1.1, ⟨hk.2, ⟨hk.1.2.1, hk.1.2.2⟩⟩⟩)); clear HO119; have HO119 := n_; clear n_; have HX27 := Aside0.mk (show Kd.N k44 44 w26 w.heap.size (fun k_ => ((P0_0_ k_ ∨ P2_ k_) ∨ w.heap.size ≤ k_) ∧ some k_ ≠ ((Value.slice A131 t120.length c131) : Value).ownBlock ∧ k_ ≠ gb114 ∧ k_ ≠ gb115) (.slice (some ⟨go17, 0, none⟩) t117.length co17) t117 from (by (with_reducible repeat (first | apply Kd.N_alloc | apply Kd.N_drewN | apply Kd.N_drew)); exact HO119.out)); obtain ⟨ce27, hcl27, hM27, hcc27, hfr27⟩ := Kd.N_elem HX27.out z44 (t116 : Int) (of_decide_eq_true (by first | (with_reducible assumption) | assumption)) (by have h_ : (t116 : Int) < ((t117.length : Int) : Int) := of_decide_eq_true (by first | (with_reducible assumption) | assumption); first | exact h_ | (have e_ := (Kd.N_reads' HO119.out).1; omega) | simpa using h_); obtain ⟨ua27_1, uc27_1, ua27_3, uc27_3, rfl, ul27_1, ge27_1, ul27_3, ge27_3⟩ := k44_openF hM27; have HP27 := Kd.N_seg HX27.out (t116 : Int) (of_decide_eq_true (by first | (with_reducible assumption) | assumption)) (by have h_ : (t116 : Int) < ((t117.length : Int) : Int) := of_decide_eq_true (by first | (with_reducible assumption) | assumption); first | exact h_ | (have e_ := (Kd.N_reads' HO119.out).1; omega) | simpa using h_) (seg := [.bool true]) (j := 2) hcl27 hcc27 (show 3 ≤ 4 from by decide) (x' := (⟨(rd_T44 t117 t116).f0, (rd_T44 t117 t116).f1, true, (rd_T44 t117 t116).f3⟩ : S44)) (k44_mkF _ _ (⟨(rd_T44 t117 t116).f0, (rd_T44 t117 t116).f1, true, (rd_T44 t117 t116).f3⟩ : S44) ul27_1 ge27_1 ul27_3 ge27_3) (fun _ hk => hk); have hx27_2 := hcc27 2 _ rfl; (try simp only [show (k44).sz = 4 from rfl, Nat.mul_one, Nat.add_zero] at hx27_2); have hf27_2 := hfr27 2; (try simp only [show (k44).sz = 4 from rfl, Nat.mul_one, Nat.add_zero] at hf27_2); clear hcl27 hcc27 hfr27 hM27) | ((with_reducible refine gate_store (t := 4) (p := 26) rfl ?_); refine store_event (t := 4) (p := 26) (v := ?vo_w28) (w1 := (w26.setCell ⟨go17, (t116 : Int).toNat * 4 + 2, none⟩ (.bool true))) ?hg ?ho ?hn ?hr ?_; (case ho => rfl); (case hg => rfl); (case hn => rfl); (case hr => first | (go_simp; done) | (go_simp; rfl)); intro w28 hw; have hg : w26.grownBy w28 (some go17) := (by rw [hw]; exact HP27.2); have hp_ : Kd.N k44 44 w28 w.heap.size (fun k_ => ((P0_0_ k_ ∨ P2_ k_) ∨ w.heap.size ≤ k_) ∧ some k_ ≠ ((Value.slice A131 t120.length c131) : Value).ownBlock ∧ k_ ≠ gb114 ∧ k_ ≠ gb115) (.slice (some ⟨go17, 0, none⟩) t117.length co17) y123 := (by rw [hw, Ny123.out]; exact HP27.1); clear HP27; have n0_ := Aside0.mk (Kd.V_afterv (v := (.slice (some ⟨go17, 0, none⟩) t117.length co17)) (v1 := (.slice (some ⟨go17, 0, none⟩) t117.length co17)) (ok := (fun k_ => ((P0_0_ k_ ∨ P2_ k_) ∨ w.heap.size ≤ k_) ∧ some k_ ≠ ((Value.slice A131 t120.length c131) : Value).ownBlock ∧ k_ ≠ gb114 ∧ k_ ≠ gb115)) (by (with_reducible repeat (first | apply Kd.V_alloc | apply Kd.V_drewN | apply Kd.V_drew)); exact Kd.V_mono HO0_0.out (fun _ hk => ⟨⟨hk.1.1.1.1, ⟨hk.2, ⟨hk.1.1.1.2, hk.1.1.2⟩⟩⟩, hk.1.2⟩)) hg (.inl rfl)); have n1_ := Aside0.mk (Kd.V_afterv (v := (.slice (some ⟨go17, 0, none⟩) t117.length co17)) (v1 := (.slice (some ⟨go17, 0, none⟩) t117.length co17)) (ok := (fun k_ => ((P0_0_ k_ ∨ P2_ k_) ∨ w.heap.size ≤ k_) ∧ some k_ ≠ ((Value.slice A131 t120.length c131) : Value).ownBlock ∧ k_ ≠ gb114 ∧ k_ ≠ gb115)) (by (with_reducible repeat (first | apply Kd.V_alloc | apply Kd.V_drewN | apply Kd.V_drew)); exact Kd.V_mono HO2.out (fun _ hk => ⟨⟨hk.1.1.1.1, ⟨hk.2, ⟨hk.1.1.1.2, hk.1.1.2⟩⟩⟩, hk.1.2⟩)) hg (.inl rfl)); have n2_ := Aside0.mk (blk_grown (g := gb114) (o := .cells #[.slice A0_0 l0_0.length c0_0] 24 (0, 0)) (by (with_reducible repeat (first | refine blk_drewN ?_ _ | refine blk_drew ?_ | refine blk_alloc ?_ _)); exact BK114.out) hg (Kd.N_ne HO119.out BK114.out (by decide))); have n3_ := Aside0.mk (blk_grown (g := gb115) (o := .cells #[.slice none 0 0] 24 (0, 0)) (by (with_reducible repeat (first | refine blk_drewN ?_ _ | refine blk_drew ?_ | refine blk_alloc ?_ _)); exact BK115.out) hg (Kd.N_ne HO119.out BK115.out (by decide))); have n4_ := Aside0.mk (hp_); have n5_ := Aside0.mk (Kd.N_afterv (v := (.slice (some ⟨go17, 0, none⟩) t117.length co17)) (v1 := (.slice (some ⟨go17, 0, none⟩) t117.length co17)) (ok := (fun k_ => ((P0_0_ k_ ∨ P2_ k_) ∨ w.heap.size ≤ k_) ∧ k_ ≠ gb114 ∧ k_ ≠ gb115)) (by (with_reducible repeat (first | apply Kd.N_alloc | apply Kd.N_drewN | apply Kd.N_drew)); exact Kd.N_mono HO122.out (fun _ hk => ⟨⟨hk.1, ⟨hk.2.2.1, hk.2.2.2⟩⟩, hk.2.1⟩)) hg (.inl rfl)); have n6_ := Aside0.mk ((by rw [hw]; exact below_set (HB.out) GB17.out : Below w.heap.size w w28)); clear HO0_0; clear HO2; clear BK114; clear BK115; clear HO119; clear HO122; clear HB; have HO0_0 := n0_; have HO2 := n1_; have BK114 := n2_; have BK115 := n3_; have HO119 := n4_; have HO122 := n5_; have HB := n6_; clear n0_ n1_ n2_ n3_ n4_ n5_ n6_; clear hg hw hp_; have p18 : 0 ≤ (t116 : Int) := of_decide_eq_true (by first | (with_reducible assumption) | assumption); have q18 : (t116 : Int) < ((t117.length : Int) : Int) := of_decide_eq_true (by first | (with_reducible assumption) | assumption); obtain ⟨ce18, hcl18, hM18, hcc18, hfr18⟩ := Kd.N_elem HO119.out z44 (t116 : Int) p18 q18; obtain ⟨ua18_1, uc18_1, ua18_3, uc18_3, rfl, ul18_1, ge18_1, ul18_3, ge18_3⟩ := k44_openF hM18; have hx18_0 : w28.cell? ⟨go17, (t116 : Int).toNat * 4, none⟩ = some (.int .i64 ((rd_T44 y123 t116).f0)) := hcc18 0 _ rfl; have hx18_1 : w28.cell? ⟨go17, (t116 : Int).toNat * 4 + 1, none⟩ = some (.slice ua18_1 ((rd_T44 y123 t116).f1).length uc18_1) := hcc18 1 _ rfl; have hx18_2 : w28.cell? ⟨go17, (t116 : Int).toNat * 4 + 2, none⟩ = some (.bool ((rd_T44 y123 t116).f2)) := hcc18 2 _ rfl; have hx18_3 : w28.cell? ⟨go17, (t116 : Int).toNat * 4 + 3, none⟩ = some (.slice ua18_3 ((rd_T44 y123 t116).f3).length uc18_3) := hcc18 3 _ rfl; have hf18_0 : w28.frozen? ⟨go17, (t116 : Int).toNat * 4, none⟩ = false := hfr18 0; have hf18_1 : w28.frozen? ⟨go17, (t116 : Int).toNat * 4 + 1, none⟩ = false := hfr18 1; have hf18_2 : w28.frozen? ⟨go17, (t116 : Int).toNat * 4 + 2, none⟩ = false := hfr18 2; have hf18_3 : w28.frozen? ⟨go17, (t116 : Int).toNat * 4 + 3, none⟩ = false := hfr18 3; clear hcl18 hcc18 hfr18 hM18; replace p18 := eq_true p18; replace q18 := eq_true q18; have HX29 := Aside0.mk (show Kd.N k44 44 w28 w.heap.size (fun k_ => ((P0_0_ k_ ∨ P2_ k_) ∨ w.heap.size ≤ k_) ∧ k_ ≠ gb114 ∧ k_ ≠ gb115) (.slice (some ⟨go17, 0, none⟩) t117.length co17) y123 from (by (with_reducible repeat (first | apply Kd.N_alloc | apply Kd.N_drewN | apply Kd.N_drew)); exact Kd.N_mono HO119.out (fun _ hk => ⟨hk.1, ⟨hk.2.2.1, hk.2.2.2⟩⟩))); obtain ⟨ce29, hcl29, hM29, hcc29, hfr29⟩ := Kd.N_elem HX29.out z44 (t116 : Int) (of_decide_eq_true (by first | (with_reducible assumption) | assumption)) (by have h_ : (t116 : Int) < ((t117.length : Int) : Int) := of_decide_eq_true (by first | (with_reducible assumption) | assumption); first | exact h_ | (have e_ := (Kd.N_reads' HO119.out).1; omega) | simpa using h_); obtain ⟨ua29_1, uc29_1, ua29_3, uc29_3, rfl, ul29_1, ge29_1, ul29_3, ge29_3⟩ := k44_openF hM29; have HP29 := Kd.N_seg HX29.out (t116 : Int) (of_decide_eq_true (by first | (with_reducible assumption) | assumption)) (by have h_ : (t116 : Int) < ((t117.length : Int) : Int) := of_decide_eq_true (by first | (with_reducible assumption) | assumption); first | exact h_ | (have e_ := (Kd.N_reads' HO119.out).1; omega) | simpa using h_) (seg := [(Value.slice A131 t120.length c131)]) (j := 3) hcl29 hcc29 (show 4 ≤ 4 from by decide) (x' := (⟨(rd_T44 y123 t116).f0, (rd_T44 y123 t116).f1, (rd_T44 y123 t116).f2, t120⟩ : S44)) (k44_mkF _ _ (⟨(rd_T44 y123 t116).f0, (rd_T44 y123 t116).f1, (rd_T44 y123 t116).f2, t120⟩ : S44) ul29_1 ge29_1 (Kd.N_reads' (Kd.N_mono (ok' := (fun k_ => ((fun k_ => ((P0_0_ k_ ∨ P2_ k_) ∨ w.heap.size ≤ k_) ∧ k_ ≠ gb114 ∧ k_ ≠ gb115)) k_ ∧ k_ ≠ go17)) (HO122.out) (fun k_ hk => ⟨⟨hk.1.1, ⟨hk.1.2.1, hk.1.2.2⟩⟩, fun e_ => (hk.2) (by rw [e_]; rfl)⟩))).2.1 (Kd.N_F (Kd.N_mono (ok' := (fun k_ => ((fun k_ => ((P0_0_ k_ ∨ P2_ k_) ∨ w.heap.size ≤ k_) ∧ k_ ≠ gb114 ∧ k_ ≠ gb115)) k_ ∧ k_ ≠ go17)) (HO122.out) (fun k_ hk => ⟨⟨hk.1.1, ⟨hk.1.2.1, hk.1.2.2⟩⟩, fun e_ => (hk.2) (by rw [e_]; rfl)⟩)))) (fun _ hk => hk); have hx29_3 := hcc29 3 _ rfl; (try simp only [show (k44).sz = 4 from rfl, Nat.mul_one, Nat.add_zero] at hx29_3); have hf29_3 := hfr29 3; (try simp only [show (k44).sz = 4 from rfl, Nat.mul_one, Nat.add_zero] at hf29_3); clear hcl29 hcc29 hfr29 hM29) | ((with_reducible refine gate_store (t := 25) (p := 28) rfl ?_); refine store_event (t := 25) (p := 28) (v := ?vo_w30) (w1 := (w28.setCell ⟨go17, (t116 : Int).toNat * 4 + 3, none⟩ ((Value.slice A131 t120.length c131)))) ?hg ?ho ?hn ?hr ?_; (case ho => rfl); (case hg => rfl); (case hn => rfl); (case hr => first | (go_simp; done) | (go_simp; rfl)); intro w30 hw; have hg : w28.grownBy w30 (some go17) := (by rw [hw]; exact HP29.2); have hp_ : Kd.N k44 44 w30 w.heap.size (fun k_ => ((P0_0_ k_ ∨ P2_ k_) ∨ w.heap.size ≤ k_) ∧ k_ ≠ gb114 ∧ k_ ≠ gb115) (.slice (some ⟨go17, 0, none⟩) t117.length co17) y124 := (by rw [hw, Ny124.out]; exact HP29.1); clear HP29; have n0_ := Aside0.mk (Kd.V_afterv (v := (.slice (some ⟨go17, 0, none⟩) t117.length co17)) (v1 := (.slice (some ⟨go17, 0, none⟩) t117.length co17)) (ok := (fun k_ => ((P0_0_ k_ ∨ P2_ k_) ∨ w.heap.size ≤ k_) ∧ some k_ ≠ ((Value.slice A131 t120.length c131) : Value).ownBlock ∧ k_ ≠ gb114 ∧ k_ ≠ gb115)) (by (with_reducible repeat (first | apply Kd.V_alloc | apply Kd.V_drewN | apply Kd.V_drew)); exact HO0_0.out) hg (.inl rfl)); have n1_ := Aside0.mk (Kd.V_afterv (v := (.slice (some ⟨go17, 0, none⟩) t117.length co17)) (v1 := (.slice (some ⟨go17, 0, none⟩) t117.length co17)) (ok := (fun k_ => ((P0_0_ k_ ∨ P2_ k_) ∨ w.heap.size ≤ k_) ∧ some k_ ≠ ((Value.slice A131 t120.length c131) : Value).ownBlock ∧ k_ ≠ gb114 ∧ k_ ≠ gb115)) (by (with_reducible repeat (first | apply Kd.V_alloc | apply Kd.V_drewN | apply Kd.V_drew)); exact HO2.out) hg (.inl rfl)); have n2_ := Aside0.mk (blk_grown (g := gb114) (o := .cells #[.slice A0_0 l0_0.length c0_0] 24 (0, 0)) (by (with_reducible repeat (first | refine blk_drewN ?_ _ | refine blk_drew ?_ | refine blk_alloc ?_ _)); exact BK114.out) hg (Kd.N_ne HO119.out BK114.out (by decide))); have n3_ := Aside0.mk (blk_grown (g := gb115) (o := .cells #[.slice none 0 0] 24 (0, 0)) (by (with_reducible repeat (first | refine blk_drewN ?_ _ | refine blk_drew ?_ | refine blk_alloc ?_ _)); exact BK115.out) hg (Kd.N_ne HO119.out BK115.out (by decide))); have n4_ := Aside0.mk (hp_); have n5_ := Aside0.mk ((by rw [hw]; exact below_set (HB.out) GB17.out : Below w.heap.size w w30)); clear HO0_0; clear HO2; clear BK114; clear BK115; clear HO119; clear HB; clear HO122; have HO0_0 := n0_; have HO2 := n1_; have BK114 := n2_; have BK115 := n3_; have HO119 := n4_; have HB := n5_; clear n0_ n1_ n2_ n3_ n4_ n5_; clear hg hw hp_; have hcz31_0 : w30.cell? ⟨gb115, 0, none⟩ = some (.slice none 0 0) := (blk_cell BK115.out 0).trans rfl; have hfz31_0 := blk_frozen BK115.out 0))
        refine bodyPost_ret (results_ct rfl _ _ gb115 24 #[.slice (some ⟨go17, 0, none⟩) t117.length co17] (0, 0) _ rfl (by (with_reducible repeat (first | refine blk_drewN ?_ _ | refine blk_drew ?_ | refine blk_alloc ?_ _)); refine blk_put (cs := #[.slice none 0 0]) ?_ 0 _ rfl; (with_reducible repeat (first | refine blk_drewN ?_ _ | refine blk_drew ?_ | refine blk_alloc ?_ _)); exact BK115.out) Tryd.underlying24 rfl (by kernel_rfl)) rfl ?_
        exact ⟨_, by first | rfl | (simp [errW_none, errW_some] <;> rfl) | (simp [*, errW_none, errW_some] <;> rfl), Kd.N_V (by (with_reducible repeat (first | apply Kd.N_alloc | apply Kd.N_drewN | apply Kd.N_drew)); exact Kd.N_mono (Kd.N_far (p := ⟨gb115, 0, none⟩) (Kd.N_mono HO119.out (fun k_ hk => (⟨hk, hk.2.2⟩ : _ ∧ k_ ≠ gb115))) (fun _ hk => hk.2) (.slice (some ⟨go17, 0, none⟩) t117.length co17)) (fun _ hk => hk.1.1)), by repeat (first | (with_reducible first | exact HB.out | apply below_alloc | apply pw_below_drewN | apply below_drew1 | refine below_set ?_ GE114.out | refine below_set ?_ GE115.out) | exact HB.out)⟩
      · rw [if_neg c16] at H
        exact absurd H (by simp)
    · rw [if_neg c15] at H
      exact absurd H (by simp)

/-! ### hall_Reply: function 12 -/
def hall_Reply.f (l0_0 : List (S44)) (a1 : Int) : Option ((List (List Int)) × Int) := (hall_find.f l0_0 a1 false).bind fun t126 => (if t126 < 0 then (some (([] : List (List Int)), 4)) else (if 0 ≤ t126 then (if t126 < (l0_0.length : Int) then (if ((rd_T44 l0_0 t126).f2 = true) then ((slices_Clone_int_int.f ((rd_T44 l0_0 t126).f3)).bind fun t129 => (some (t129, 0))) else (some (([] : List (List Int)), 8))) else (none)) else (none)))
set_option maxHeartbeats 8000000 in
set_option maxRecDepth 100000 in
theorem hall_Reply.calls (P0_0_ : Nat → Prop) (A0_0 : Option Addr) (c0_0 : Nat) (l0_0 : List (S44)) (a1 : Int) (r1 : List (List Int)) (r2 : Int) (w : World) (hs0_0 : Kd.V k44 44 w w.heap.size (fun k_ => P0_0_ k_) (.slice A0_0 l0_0.length c0_0) l0_0) (h : hall_Reply.f l0_0 a1 = some (r1, r2)) :
    Calls Tryd.prog 12 #[.agg #[.slice A0_0 l0_0.length c0_0], .int .i64 a1] w fun e w' => ∃ v0_ : Value, e = .returned (.tuple #[v0_, .int .i64 r2]) ∧ Kd.N (Kd.slice 3 (Kd.int .i64)) 42 w' w.heap.size (fun k_ => (P0_0_ k_ ∨ w.heap.size ≤ k_)) v0_ r1 ∧ Below w.heap.size w w' := by
  have hu24 := Tryd.underlying24
  have HO0_0 := Aside0.mk (show Kd.V k44 44 w w.heap.size (fun k_ => (P0_0_ k_ ∨ w.heap.size ≤ k_)) (.slice A0_0 l0_0.length c0_0) l0_0 from Kd.V_mono hs0_0 (fun k_ hk => .inl hk))
  have HB := Aside0.mk (Below.refl w.heap.size w)
  have H : ((hall_find.f l0_0 a1 false).bind fun t126 => (if t126 < 0 then (some (([] : List (List Int)), 4)) else (if 0 ≤ t126 then (if t126 < (l0_0.length : Int) then (if ((rd_T44 l0_0 t126).f2 = true) then ((slices_Clone_int_int.f ((rd_T44 l0_0 t126).f3)).bind fun t129 => (some (t129, 0))) else (some (([] : List (List Int)), 8))) else (none)) else (none)))) = some (r1, r2) := h
  clear h
  replace H := Option.bind_eq_some_iff.mp H
  obtain ⟨t126, A30, H⟩ := H
  replace H : (if t126 < 0 then (some (([] : List (List Int)), 4)) else (if 0 ≤ t126 then (if t126 < (l0_0.length : Int) then (if ((rd_T44 l0_0 t126).f2 = true) then ((slices_Clone_int_int.f ((rd_T44 l0_0 t126).f3)).bind fun t129 => (some (t129, 0))) else (some (([] : List (List Int)), 8))) else (none)) else (none))) = some (r1, r2) := H
  have A3 := Aside0.mk A30
  clear A30
  by_cases c4 : t126 < 0
  · rw [if_pos c4] at H
    have c4b0 : decide (t126 < 0) = true := decide_eq_true c4
    clear c4
    simp only [Option.some.injEq, Prod.mk.injEq] at H
    obtain ⟨rfl, rfl⟩ := H
    go_enter Tryd.func12, Tryd.ntmps12
    go_wp2_with (first | ((with_reducible refine gate_dst (N := 2) rfl ?_); refine box_event ?hg (N := 2) ?hd (cs := #[.slice A0_0 l0_0.length c0_0]) (t := 24) ?hr ?_; (case hd => rfl); (case hg => rfl); (case hr => first | (go_simp; done) | (go_simp; rfl)); intro gb125 hg w5 hbox hb; have n0_ := Aside0.mk (Kd.V_below (Kd.V_elderB (by (with_reducible repeat (first | apply Kd.V_alloc | apply Kd.V_drewN | apply Kd.V_drew)); exact HO0_0.out) gb125 (Nat.le_of_eq hg.symm)) hb); have n1_ := Aside0.mk (below_step (by repeat (first | (with_reducible first | exact HB.out | apply below_alloc | apply pw_below_drewN | apply below_drew1) | exact HB.out)) hb); have n2_ := Aside0.mk (hbox); have n3_ := Aside0.mk ((by rw [hg]; exact (below_size (by repeat (first | (with_reducible first | exact HB.out | apply below_alloc | apply pw_below_drewN | apply below_drew1) | exact HB.out))) : w.heap.size ≤ gb125)); have n4_ := Aside0.mk ((by rw [hg]; exact (below_size (by repeat (first | (with_reducible first | exact HB.out | apply below_alloc | apply pw_below_drewN | apply below_drew1) | exact HB.out))) : w.heap.size ≤ gb125)); clear HO0_0; clear HB; have HO0_0 := n0_; have HB := n1_; have BK125 := n2_; have GW125 := n3_; have GE125 := n4_; clear n0_ n1_ n2_ n3_ n4_; clear hb hbox hg; have hcz6_0 : w5.cell? ⟨gb125, 0, none⟩ = some (.slice A0_0 l0_0.length c0_0) := (blk_cell BK125.out 0).trans rfl; have hfz6_0 := blk_frozen BK125.out 0) | ((with_reducible refine gate_callee (f := 24) rfl ?_); refine goesL_ (some 9) rfl rfl Tryd.func24 (by kernel_rfl) rfl #[.agg #[.slice A0_0 l0_0.length c0_0], .int .i64 a1, .bool false] rfl (by (try simp only [List.map_toArray, List.map_cons, List.map_nil]); first | done | rfl | (simp only [List.length_drop, List.length_take]; rfl)) ?_; (with_reducible refine (hall_find.calls _ _ l0_0 a1 false t126 _ ?side1 ?side2 A3.out).mono ?_); (case side1 => repeat (first | exact (Kd.V_reads' HO0_0.out).2.2 | (with_reducible refine Kd.C_alloc ?_ _) | (with_reducible refine Kd.C_drewN ?_ _) | (with_reducible refine Kd.C_drew ?_))); (case side2 => exact (Kd.V_reads' HO0_0.out).2.1); rintro e w7 ⟨rfl, hb⟩; refine ⟨_, rfl, ?_⟩; have n0_ := Aside0.mk (Kd.V_below (by (with_reducible repeat (first | apply Kd.V_alloc | apply Kd.V_drewN | apply Kd.V_drew)); exact HO0_0.out) hb); have n1_ := Aside0.mk (blk_below (g := gb125) (o := .cells #[.slice A0_0 l0_0.length c0_0] 24 (0, 0)) (by (with_reducible repeat (first | refine blk_drewN ?_ _ | refine blk_drew ?_ | refine blk_alloc ?_ _)); exact BK125.out) hb); have n2_ := Aside0.mk (below_step (by repeat (first | (with_reducible first | exact HB.out | apply below_alloc | apply pw_below_drewN | apply below_drew1 | refine below_set ?_ GE125.out) | exact HB.out)) hb); clear HO0_0; clear BK125; clear HB; have HO0_0 := n0_; have BK125 := n1_; have HB := n2_; clear n0_ n1_ n2_; (try clear hb); (try clear hb2); (try clear hk); (try clear hi)))
    go_ret2
    exact ⟨_, by first | rfl | (simp [errW_none, errW_some] <;> rfl) | (simp [*, errW_none, errW_some] <;> rfl), by first | exact Kd.S_nil _ _ _ _ _ | exact Kd.N_nil _ _ _ _ _ | exact Kd.V_nil _ _ _ _ _ | exact Kd.Q_nil _ _ _ _ _ | exact Kd.R_nil _ _ _ _ _, by repeat (first | (with_reducible first | exact HB.out | apply below_alloc | apply pw_below_drewN | apply below_drew1 | refine below_set ?_ GE125.out) | exact HB.out)⟩
  · rw [if_neg c4] at H
    have c4b0 : decide (t126 < 0) = false := decide_eq_false c4
    clear c4
    by_cases c8 : 0 ≤ t126
    · rw [if_pos c8] at H
      have c8b0 : decide (0 ≤ t126) = true := decide_eq_true c8
      clear c8
      by_cases c9 : t126 < (l0_0.length : Int)
      · rw [if_pos c9] at H
        have c9b0 : decide (t126 < (l0_0.length : Int)) = true := decide_eq_true c9
        clear c9
        obtain ⟨bq10, hbq10⟩ : ∃ b_ : Bool, b_ = ((rd_T44 l0_0 t126).f2) := ⟨_, rfl⟩
        replace H : (if (bq10 = true) then ((slices_Clone_int_int.f ((rd_T44 l0_0 t126).f3)).bind fun t129 => (some (t129, 0))) else (some (([] : List (List Int)), 8))) = some (r1, r2) := by rw [← hbq10] at H; exact H
        have Nbq10 := Aside0.mk hbq10
        clear hbq10
        by_cases c11 : (bq10 = true)
        · subst c11
          have H1 : ((slices_Clone_int_int.f ((rd_T44 l0_0 t126).f3)).bind fun t129 => (some (t129, 0))) = some (r1, r2) := by rw [if_pos rfl] at H; exact H
          clear H
          have H := H1
          clear H1
          replace H := Option.bind_eq_some_iff.mp H
          obtain ⟨t129, A120, H⟩ := H
          replace H : (some (t129, 0)) = some (r1, r2) := H
          have A12 := Aside0.mk A120
          clear A120
          simp only [Option.some.injEq, Prod.mk.injEq] at H
          obtain ⟨rfl, rfl⟩ := H
          go_enter Tryd.func12, Tryd.ntmps12
          go_wp2_with (first | ((with_reducible refine gate_dst (N := 2) rfl ?_); refine box_event ?hg (N := 2) ?hd (cs := #[.slice A0_0 l0_0.length c0_0]) (t := 24) ?hr ?_; (case hd => rfl); (case hg => rfl); (case hr => first | (go_simp; done) | (go_simp; rfl)); intro gb125 hg w13 hbox hb; have n0_ := Aside0.mk (Kd.V_below (Kd.V_elderB (by (with_reducible repeat (first | apply Kd.V_alloc | apply Kd.V_drewN | apply Kd.V_drew)); exact HO0_0.out) gb125 (Nat.le_of_eq hg.symm)) hb); have n1_ := Aside0.mk (below_step (by repeat (first | (with_reducible first | exact HB.out | apply below_alloc | apply pw_below_drewN | apply below_drew1) | exact HB.out)) hb); have n2_ := Aside0.mk (hbox); have n3_ := Aside0.mk ((by rw [hg]; exact (below_size (by repeat (first | (with_reducible first | exact HB.out | apply below_alloc | apply pw_below_drewN | apply below_drew1) | exact HB.out))) : w.heap.size ≤ gb125)); have n4_ := Aside0.mk ((by rw [hg]; exact (below_size (by repeat (first | (with_reducible first | exact HB.out | apply below_alloc | apply pw_below_drewN | apply below_drew1) | exact HB.out))) : w.heap.size ≤ gb125)); clear HO0_0; clear HB; have HO0_0 := n0_; have HB := n1_; have BK125 := n2_; have GW125 := n3_; have GE125 := n4_; clear n0_ n1_ n2_ n3_ n4_; clear hb hbox hg; have hcz14_0 : w13.cell? ⟨gb125, 0, none⟩ = some (.slice A0_0 l0_0.length c0_0) := (blk_cell BK125.out 0).trans rfl; have hfz14_0 := blk_frozen BK125.out 0) | ((with_reducible refine gate_callee (f := 24) rfl ?_); refine goesL_ (some 9) rfl rfl Tryd.func24 (by kernel_rfl) rfl #[.agg #[.slice A0_0 l0_0.length c0_0], .int .i64 a1, .bool false] rfl (by (try simp only [List.map_toArray, List.map_cons, List.map_nil]); first | done | rfl | (simp only [List.length_drop, List.length_take]; rfl)) ?_; (with_reducible refine (hall_find.calls _ _ l0_0 a1 false t126 _ ?side1 ?side2 A3.out).mono ?_); (case side1 => repeat (first | exact (Kd.V_reads' HO0_0.out).2.2 | (with_reducible refine Kd.C_alloc ?_ _) | (with_reducible refine Kd.C_drewN ?_ _) | (with_reducible refine Kd.C_drew ?_))); (case side2 => exact (Kd.V_reads' HO0_0.out).2.1); rintro e w15 ⟨rfl, hb⟩; refine ⟨_, rfl, ?_⟩; have n0_ := Aside0.mk (Kd.V_below (by (with_reducible repeat (first | apply Kd.V_alloc | apply Kd.V_drewN | apply Kd.V_drew)); exact HO0_0.out) hb); have n1_ := Aside0.mk (blk_below (g := gb125) (o := .cells #[.slice A0_0 l0_0.length c0_0] 24 (0, 0)) (by (with_reducible repeat (first | refine blk_drewN ?_ _ | refine blk_drew ?_ | refine blk_alloc ?_ _)); exact BK125.out) hb); have n2_ := Aside0.mk (below_step (by repeat (first | (with_reducible first | exact HB.out | apply below_alloc | apply pw_below_drewN | apply below_drew1 | refine below_set ?_ GE125.out) | exact HB.out)) hb); clear HO0_0; clear BK125; clear HB; have HO0_0 := n0_; have BK125 := n1_; have HB := n2_; clear n0_ n1_ n2_; (try clear hb); (try clear hb2); (try clear hk); (try clear hi); have hcz16_0 : w15.cell? ⟨gb125, 0, none⟩ = some (.slice A0_0 l0_0.length c0_0) := (blk_cell BK125.out 0).trans rfl; have hfz16_0 := blk_frozen BK125.out 0; have p127 : 0 ≤ (t126 : Int) := of_decide_eq_true (by first | (with_reducible assumption) | assumption); have q127 : t126 < (l0_0.length : Int) := of_decide_eq_true (by first | (with_reducible assumption) | assumption); obtain ⟨ad127, A127_1, c127_1, A127_3, c127_3, e127, hx127_0, hx127_1, hx127_2, hx127_3, hl127_1, hi127_1, hl127_3, hi127_3⟩ := at_T44 (Kd.V_reads' HO0_0.out).2.2 t126 p127 q127; (try rw [← Nbq10.out] at hx127_2); cases e127; obtain ⟨ce127, hce127, hMe127, hcc127⟩ := Kd.V_get HO0_0.out z44 t126 p127 (by first | exact q127 | exact of_decide_eq_true (by first | (with_reducible assumption) | assumption) | (have e_ := (Kd.V_reads' HO0_0.out).1; omega)); obtain ⟨ua127_1, uc127_1, ua127_3, uc127_3, rfl, ul127_1, ge127_1, ul127_3, ge127_3⟩ := k44_openF hMe127; have hv127_1 := hcc127 1 _ rfl; rw [add_field _ _ 1 (by omega)] at hv127_1; replace hv127_1 := Option.some.inj (hv127_1.symm.trans hx127_1); injection hv127_1 with hva_ hvn_ hvc_; rw [hva_] at ge127_1; rw [hvc_] at ul127_1; have HL127_1 := Aside0.mk (show Kd.V (Kd.slice 3 (Kd.int .i64)) 42 _ w.heap.size _ _ ((rd_T44 l0_0 t126).f1) from Kd.V_mk ul127_1 ge127_1); clear hva_ hvn_ hvc_ ge127_1 ul127_1; have hv127_3 := hcc127 3 _ rfl; rw [add_field _ _ 3 (by omega)] at hv127_3; replace hv127_3 := Option.some.inj (hv127_3.symm.trans hx127_3); injection hv127_3 with hva_ hvn_ hvc_; rw [hva_] at ge127_3; rw [hvc_] at ul127_3; have HL127_3 := Aside0.mk (show Kd.V (Kd.slice 3 (Kd.int .i64)) 42 _ w.heap.size _ _ ((rd_T44 l0_0 t126).f3) from Kd.V_mk ul127_3 ge127_3); clear hva_ hvn_ hvc_ ge127_3 ul127_3; clear hcc127 hce127; have HR127_1 := Aside0.mk hi127_1; have HC127_1 := Aside0.mk hl127_1; clear hi127_1 hl127_1; have HR127_3 := Aside0.mk hi127_3; have HC127_3 := Aside0.mk hl127_3; clear hi127_3 hl127_3; replace p127 := eq_true p127; replace q127 := eq_true q127; have p128 : 0 ≤ (t126 : Int) := of_decide_eq_true (by first | (with_reducible assumption) | assumption); have q128 : t126 < (l0_0.length : Int) := of_decide_eq_true (by first | (with_reducible assumption) | assumption); obtain ⟨ad128, A128_1, c128_1, A128_3, c128_3, e128, hx128_0, hx128_1, hx128_2, hx128_3, hl128_1, hi128_1, hl128_3, hi128_3⟩ := at_T44 (Kd.V_reads' HO0_0.out).2.2 t126 p128 q128; (try rw [← Nbq10.out] at hx128_2); obtain rfl : ad127 = ad128 := (by injection e128); obtain ⟨ce128, hce128, hMe128, hcc128⟩ := Kd.V_get HO0_0.out z44 t126 p128 (by first | exact q128 | exact of_decide_eq_true (by first | (with_reducible assumption) | assumption) | (have e_ := (Kd.V_reads' HO0_0.out).1; omega)); obtain ⟨ua128_1, uc128_1, ua128_3, uc128_3, rfl, ul128_1, ge128_1, ul128_3, ge128_3⟩ := k44_openF hMe128; have hv128_1 := hcc128 1 _ rfl; rw [add_field _ _ 1 (by omega)] at hv128_1; replace hv128_1 := Option.some.inj (hv128_1.symm.trans hx128_1); injection hv128_1 with hva_ hvn_ hvc_; rw [hva_] at ge128_1; rw [hvc_] at ul128_1; have HL128_1 := Aside0.mk (show Kd.V (Kd.slice 3 (Kd.int .i64)) 42 _ w.heap.size _ _ ((rd_T44 l0_0 t126).f1) from Kd.V_mk ul128_1 ge128_1); clear hva_ hvn_ hvc_ ge128_1 ul128_1; have hv128_3 := hcc128 3 _ rfl; rw [add_field _ _ 3 (by omega)] at hv128_3; replace hv128_3 := Option.some.inj (hv128_3.symm.trans hx128_3); injection hv128_3 with hva_ hvn_ hvc_; rw [hva_] at ge128_3; rw [hvc_] at ul128_3; have HL128_3 := Aside0.mk (show Kd.V (Kd.slice 3 (Kd.int .i64)) 42 _ w.heap.size _ _ ((rd_T44 l0_0 t126).f3) from Kd.V_mk ul128_3 ge128_3); clear hva_ hvn_ hvc_ ge128_3 ul128_3; clear hcc128 hce128; have HR128_1 := Aside0.mk hi128_1; have HC128_1 := Aside0.mk hl128_1; clear hi128_1 hl128_1; have HR128_3 := Aside0.mk hi128_3; have HC128_3 := Aside0.mk hl128_3; clear hi128_3 hl128_3; replace p128 := eq_true p128; replace q128 := eq_true q128; have ea_ := Option.some.inj (hx127_1.symm.trans hx128_1); injection ea_ with ea_ en_ ec_; subst ea_; subst ec_; clear en_; have ea_ := Option.some.inj (hx127_3.symm.trans hx128_3); injection ea_ with ea_ en_ ec_; subst ea_; subst ec_; clear en_) | ((with_reducible refine gate_callee (f := 26) rfl ?_); refine goesL_ (some 27) rfl rfl Tryd.func26 (by kernel_rfl) rfl #[.slice A127_3 ((rd_T44 l0_0 t126).f3).length c127_3] rfl (by (try simp only [List.map_toArray, List.map_cons, List.map_nil]); first | done | rfl | (simp only [List.length_drop, List.length_take]; rfl)) ?_; (with_reducible refine (slices_Clone_int_int.calls (fun k_ => ((P0_0_ k_ ∨ w.heap.size ≤ k_) ∧ k_ ≠ gb125)) _ _ ((rd_T44 l0_0 t126).f3) t129 _ ?side1 A12.out).mono ?_); (case side1 => exact HL128_3.out); rintro e w17 ⟨v130, rfl, ho0, hb⟩; refine ⟨_, rfl, ?_⟩; have n0_ := Aside0.mk (Kd.V_elder' (by (with_reducible repeat (first | apply Kd.V_alloc | apply Kd.V_drewN | apply Kd.V_drew)); exact HO0_0.out) (Kd.N_base ho0) hb); have n1_ := Aside0.mk (Kd.V_elder' (by (with_reducible repeat (first | apply Kd.V_alloc | apply Kd.V_drewN | apply Kd.V_drew)); exact HL127_1.out) (Kd.N_base ho0) hb); have n2_ := Aside0.mk (Kd.V_elder' (by (with_reducible repeat (first | apply Kd.V_alloc | apply Kd.V_drewN | apply Kd.V_drew)); exact HL127_3.out) (Kd.N_base ho0) hb); have n3_ := Aside0.mk (Kd.V_elder' (by (with_reducible repeat (first | apply Kd.V_alloc | apply Kd.V_drewN | apply Kd.V_drew)); exact HL128_1.out) (Kd.N_base ho0) hb); have n4_ := Aside0.mk (Kd.V_elder' (by (with_reducible repeat (first | apply Kd.V_alloc | apply Kd.V_drewN | apply Kd.V_drew)); exact HL128_3.out) (Kd.N_base ho0) hb); have n5_ := Aside0.mk (Kd.N_lower (Kd.N_mono (ok' := fun k_ => (P0_0_ k_ ∨ w.heap.size ≤ k_) ∧ k_ ≠ gb125) ho0 (fun k_ hk_ => ⟨Or.elim hk_ (fun hs_ => hs_.1) (fun hn_ => (.inr (Nat.le_trans (below_size (by repeat (first | (with_reducible first | exact HB.out | apply below_alloc | apply pw_below_drewN | apply below_drew1 | refine below_set ?_ GE125.out) | exact HB.out))) hn_))), Or.elim hk_ (fun hs_ => hs_.2) (fun hn_ => (Kd.freshB (g := gb125) (o := .cells #[.slice (some ad127) l0_0.length c0_0] 24 (0, 0)) (by (with_reducible repeat (first | refine blk_drewN ?_ _ | refine blk_drew ?_ | refine blk_alloc ?_ _)); exact BK125.out) k_ hn_))⟩)) (below_size (by repeat (first | (with_reducible first | exact HB.out | apply below_alloc | apply pw_below_drewN | apply below_drew1 | refine below_set ?_ GE125.out) | exact HB.out)))); have n6_ := Aside0.mk (blk_below (g := gb125) (o := .cells #[.slice (some ad127) l0_0.length c0_0] 24 (0, 0)) (by (with_reducible repeat (first | refine blk_drewN ?_ _ | refine blk_drew ?_ | refine blk_alloc ?_ _)); exact BK125.out) hb); have n7_ := Aside0.mk (Kd.C_below (by repeat (first | (with_reducible exact HR127_1.out) | (with_reducible refine Kd.C_alloc ?_ _) | (with_reducible refine Kd.C_drewN ?_ _) | (with_reducible refine Kd.C_drew ?_) | exact HR127_1.out)) hb); have n8_ := Aside0.mk (Kd.C_below (by repeat (first | (with_reducible exact HR127_3.out) | (with_reducible refine Kd.C_alloc ?_ _) | (with_reducible refine Kd.C_drewN ?_ _) | (with_reducible refine Kd.C_drew ?_) | exact HR127_3.out)) hb); have n9_ := Aside0.mk (Kd.C_below (by repeat (first | (with_reducible exact HR128_1.out) | (with_reducible refine Kd.C_alloc ?_ _) | (with_reducible refine Kd.C_drewN ?_ _) | (with_reducible refine Kd.C_drew ?_) | exact HR128_1.out)) hb); have n10_ := Aside0.mk (Kd.C_below (by repeat (first | (with_reducible exact HR128_3.out) | (with_reducible refine Kd.C_alloc ?_ _) | (with_reducible refine Kd.C_drewN ?_ _) | (with_reducible refine Kd.C_drew ?_) | exact HR128_3.out)) hb); have n11_ := Aside0.mk (below_step (by repeat (first | (with_reducible first | exact HB.out | apply below_alloc | apply pw_below_drewN | apply below_drew1 | refine below_set ?_ GE125.out) | exact HB.out)) hb); clear HO0_0; clear HL127_1; clear HL127_3; clear HL128_1; clear HL128_3; clear BK125; clear HR127_1; clear HR127_3; clear HR128_1; clear HR128_3; clear HB; have HO0_0 := n0_; have HL127_1 := n1_; have HL127_3 := n2_; have HL128_1 := n3_; have HL128_3 := n4_; have HO131 := n5_; have BK125 := n6_; have HR127_1 := n7_; have HR127_3 := n8_; have HR128_1 := n9_; have HR128_3 := n10_; have HB := n11_; clear n0_ n1_ n2_ n3_ n4_ n5_ n6_ n7_ n8_ n9_ n10_ n11_; (try clear hb); (try clear hb2); (try clear hk); (try clear hi); (try clear ho0)))
          go_ret2
          exact ⟨_, by first | rfl | (simp [errW_none, errW_some] <;> rfl) | (simp [*, errW_none, errW_some] <;> rfl), by (with_reducible repeat (first | apply Kd.N_alloc | apply Kd.N_drewN | apply Kd.N_drew)); exact Kd.N_mono HO131.out (fun _ hk => hk.1), by repeat (first | (with_reducible first | exact HB.out | apply below_alloc | apply pw_below_drewN | apply below_drew1 | refine below_set ?_ GE125.out) | exact HB.out)⟩
        · replace c11 := Bool.eq_false_iff.mpr c11
          subst c11
          have H1 : (some (([] : List (List Int)), 8)) = some (r1, r2) := by rw [if_neg (show ¬ (false = true) by decide)] at H; exact H
          clear H
          have H := H1
          clear H1
          simp only [Option.some.injEq, Prod.mk.injEq] at H
          obtain ⟨rfl, rfl⟩ := H
          go_enter Tryd.func12, Tryd.ntmps12
          go_wp2_with (first | ((with_reducible refine gate_dst (N := 2) rfl ?_); refine box_event ?hg (N := 2) ?hd (cs := #[.slice A0_0 l0_0.length c0_0]) (t := 24) ?hr ?_; (case hd => rfl); (case hg => rfl); (case hr => first | (go_simp; done) | (go_simp; rfl)); intro gb125 hg w18 hbox hb; have n0_ := Aside0.mk (Kd.V_below (Kd.V_elderB (by (with_reducible repeat (first | apply Kd.V_alloc | apply Kd.V_drewN | apply Kd.V_drew)); exact HO0_0.out) gb125 (Nat.le_of_eq hg.symm)) hb); have n1_ := Aside0.mk (below_step (by repeat (first | (with_reducible first | exact HB.out | apply below_alloc | apply pw_below_drewN | apply below_drew1) | exact HB.out)) hb); have n2_ := Aside0.mk (hbox); have n3_ := Aside0.mk ((by rw [hg]; exact (below_size (by repeat (first | (with_reducible first | exact HB.out | apply below_alloc | apply pw_below_drewN | apply below_drew1) | exact HB.out))) : w.heap.size ≤ gb125)); have n4_ := Aside0.mk ((by rw [hg]; exact (below_size (by repeat (first | (with_reducible first | exact HB.out | apply below_alloc | apply pw_below_drewN | apply below_drew1) | exact HB.out))) : w.heap.size ≤ gb125)); clear HO0_0; clear HB; have HO0_0 := n0_; have HB := n1_; have BK125 := n2_; have GW125 := n3_; have GE125 := n4_; clear n0_ n1_ n2_ n3_ n4_; clear hb hbox hg; have hcz19_0 : w18.cell? ⟨gb125, 0, none⟩ = some (.slice A0_0 l0_0.length c0_0) := (blk_cell BK125.out 0).trans rfl; have hfz19_0 := blk_frozen BK125.out 0) | ((with_reducible refine gate_callee (f := 24) rfl ?_); refine goesL_ (some 9) rfl rfl Tryd.func24 (by kernel_rfl) rfl #[.agg #[.slice A0_0 l0_0.length c0_0], .int .i64 a1, .bool false] rfl (by (try simp only [List.map_toArray, List.map_cons, List.map_nil]); first | done | rfl | (simp only [List.length_drop, List.length_take]; rfl)) ?_; (with_reducible refine (hall_find.calls _ _ l0_0 a1 false t126 _ ?side1 ?side2 A3.out).mono ?_); (case side1 => repeat (first | exact (Kd.V_reads' HO0_0.out).2.2 | (with_reducible refine Kd.C_alloc ?_ _) | (with_reducible refine Kd.C_drewN ?_ _) | (with_reducible refine Kd.C_drew ?_))); (case side2 => exact (Kd.V_reads' HO0_0.out).2.1); rintro e w20 ⟨rfl, hb⟩; refine ⟨_, rfl, ?_⟩; have n0_ := Aside0.mk (Kd.V_below (by (with_reducible repeat (first | apply Kd.V_alloc | apply Kd.V_drewN | apply Kd.V_drew)); exact HO0_0.out) hb); have n1_ := Aside0.mk (blk_below (g := gb125) (o := .cells #[.slice A0_0 l0_0.length c0_0] 24 (0, 0)) (by (with_reducible repeat (first | refine blk_drewN ?_ _ | refine blk_drew ?_ | refine blk_alloc ?_ _)); exact BK125.out) hb); have n2_ := Aside0.mk (below_step (by repeat (first | (with_reducible first | exact HB.out | apply below_alloc | apply pw_below_drewN | apply below_drew1 | refine below_set ?_ GE125.out) | exact HB.out)) hb); clear HO0_0; clear BK125; clear HB; have HO0_0 := n0_; have BK125 := n1_; have HB := n2_; clear n0_ n1_ n2_; (try clear hb); (try clear hb2); (try clear hk); (try clear hi); have hcz21_0 : w20.cell? ⟨gb125, 0, none⟩ = some (.slice A0_0 l0_0.length c0_0) := (blk_cell BK125.out 0).trans rfl; have hfz21_0 := blk_frozen BK125.out 0; have p127 : 0 ≤ (t126 : Int) := of_decide_eq_true (by first | (with_reducible assumption) | assumption); have q127 : t126 < (l0_0.length : Int) := of_decide_eq_true (by first | (with_reducible assumption) | assumption); obtain ⟨ad127, A127_1, c127_1, A127_3, c127_3, e127, hx127_0, hx127_1, hx127_2, hx127_3, hl127_1, hi127_1, hl127_3, hi127_3⟩ := at_T44 (Kd.V_reads' HO0_0.out).2.2 t126 p127 q127; (try rw [← Nbq10.out] at hx127_2); cases e127; obtain ⟨ce127, hce127, hMe127, hcc127⟩ := Kd.V_get HO0_0.out z44 t126 p127 (by first | exact q127 | exact of_decide_eq_true (by first | (with_reducible assumption) | assumption) | (have e_ := (Kd.V_reads' HO0_0.out).1; omega)); obtain ⟨ua127_1, uc127_1, ua127_3, uc127_3, rfl, ul127_1, ge127_1, ul127_3, ge127_3⟩ := k44_openF hMe127; have hv127_1 := hcc127 1 _ rfl; rw [add_field _ _ 1 (by omega)] at hv127_1; replace hv127_1 := Option.some.inj (hv127_1.symm.trans hx127_1); injection hv127_1 with hva_ hvn_ hvc_; rw [hva_] at ge127_1; rw [hvc_] at ul127_1; have HL127_1 := Aside0.mk (show Kd.V (Kd.slice 3 (Kd.int .i64)) 42 _ w.heap.size _ _ ((rd_T44 l0_0 t126).f1) from Kd.V_mk ul127_1 ge127_1); clear hva_ hvn_ hvc_ ge127_1 ul127_1; have hv127_3 := hcc127 3 _ rfl; rw [add_field _ _ 3 (by omega)] at hv127_3; replace hv127_3 := Option.some.inj (hv127_3.symm.trans hx127_3); injection hv127_3 with hva_ hvn_ hvc_; rw [hva_] at ge127_3; rw [hvc_] at ul127_3; have HL127_3 := Aside0.mk (show Kd.V (Kd.slice 3 (Kd.int .i64)) 42 _ w.heap.size _ _ ((rd_T44 l0_0 t126).f3) from Kd.V_mk ul127_3 ge127_3); clear hva_ hvn_ hvc_ ge127_3 ul127_3; clear hcc127 hce127; have HR127_1 := Aside0.mk hi127_1; have HC127_1 := Aside0.mk hl127_1; clear hi127_1 hl127_1; have HR127_3 := Aside0.mk hi127_3; have HC127_3 := Aside0.mk hl127_3; clear hi127_3 hl127_3; replace p127 := eq_true p127; replace q127 := eq_true q127))
          go_ret2
          exact ⟨_, by first | rfl | (simp [errW_none, errW_some] <;> rfl) | (simp [*, errW_none, errW_some] <;> rfl), by first | exact Kd.S_nil _ _ _ _ _ | exact Kd.N_nil _ _ _ _ _ | exact Kd.V_nil _ _ _ _ _ | exact Kd.Q_nil _ _ _ _ _ | exact Kd.R_nil _ _ _ _ _, by repeat (first | (with_reducible first | exact HB.out | apply below_alloc | apply pw_below_drewN | apply below_drew1 | refine below_set ?_ GE125.out) | exact HB.out)⟩
      · rw [if_neg c9] at H
        exact absurd H (by simp)
    · rw [if_neg c8] at H
      exact absurd H (by simp)

/-! ### hall_Open: function 17 -/
def hall_Open.l0 : Nat → List Int → List (S44) → Int → Int → Option (List Int)
  | 0, _, _, _, _ => none
  | k + 1, x3, x7, x8, x9 => if x9 < x8 then (if 0 ≤ x9 then (if x9 < (x7.length : Int) then (if ((rd_T44 x7 x9).f2 = true) then (hall_Open.l0 k x3 x7 x8 (wrap64 (x9 + 1))) else (if x3.length < 17592186044416 then (hall_Open.l0 k (x3 ++ [(rd_T44 x7 x9).f0]) x7 x8 (wrap64 (x9 + 1))) else (none))) else (none)) else (none)) else (some x3)
def hall_Open.f (k : Nat) (l0_0 : List (S44)) : Option (List Int) := hall_Open.l0 k ([] : List Int) l0_0 (l0_0.length : Int) 0
theorem hall_Open.mono_l : ∀ k, (∀ y0 y1 y2 y3, LeO (hall_Open.l0 k y0 y1 y2 y3) (hall_Open.l0 (k + 1) y0 y1 y2 y3))
  | 0 => fun _ _ _ _ r h => by simp [hall_Open.l0] at h
  | k + 1 => by
    have ih0 := hall_Open.mono_l k
    · intro y0 y1 y2 y3
      unfold hall_Open.l0
      repeat' first
      | (with_reducible exact ih0 _ _ _ _)
      | (with_reducible exact LeO.refl _)
      | (with_reducible exact LeO.none _)
      | (with_reducible refine LeO.ite ?_ ?_)
      | (with_reducible refine LeO.bind ?_ (fun _ => ?_))
      | exact ih0 _ _ _ _
      | exact LeO.none _
      | refine LeO.ite ?_ ?_
      | refine LeO.bind ?_ (fun _ => ?_)
theorem hall_Open.mono : ∀ a0 k, LeO (hall_Open.f k a0) (hall_Open.f (k + 1) a0) := by
  intro a0 k
  have ih0 := hall_Open.mono_l k
  unfold hall_Open.f
  repeat' first
      | (with_reducible exact ih0 _ _ _ _)
      | (with_reducible exact LeO.refl _)
      | (with_reducible exact LeO.none _)
      | (with_reducible refine LeO.ite ?_ ?_)
      | (with_reducible refine LeO.bind ?_ (fun _ => ?_))
      | exact ih0 _ _ _ _
      | exact LeO.none _
      | refine LeO.ite ?_ ?_
      | refine LeO.bind ?_ (fun _ => ?_)
set_option maxHeartbeats 8000000 in
set_option maxRecDepth 100000 in
theorem hall_Open.calls (k : Nat) (A0_0 : Option Addr) (c0_0 : Nat) (l0_0 : List (S44)) (r : List Int) (w : World) (hr0_0 : Kd.C k44 w A0_0 l0_0.length l0_0) (hc0_0 : l0_0.length ≤ c0_0) (h : hall_Open.f k l0_0 = some r) :
    Calls Tryd.prog 17 #[.agg #[.slice A0_0 l0_0.length c0_0]] w fun e w' => ∃ v0_ : Value, e = .returned (v0_) ∧ Kd.R (Kd.int .i64) 3 w' w.heap.size (fun _ => True) v0_ r ∧ Below w.heap.size w w' := by
  have hu24 := Tryd.underlying24
  have hu44 := Tryd.underlying44
  have HR0_0 := Aside0.mk hr0_0
  have HC0_0 := Aside0.mk hc0_0
  clear hr0_0 hc0_0
  have HB := Aside0.mk (Below.refl w.heap.size w)
  have H : (hall_Open.l0 k ([] : List Int) l0_0 (l0_0.length : Int) 0) = some r := h
  clear h
  have H' := Aside0.mk H
  clear H
  go_enter Tryd.func17, Tryd.ntmps17
  go_wp2_with (first | ((with_reducible refine gate_dst (N := 1) rfl ?_); refine box_event ?hg (N := 1) ?hd (cs := #[.slice A0_0 l0_0.length c0_0]) (t := 24) ?hr ?_; (case hd => rfl); (case hg => rfl); (case hr => first | (go_simp; done) | (go_simp; rfl)); intro gb132 hg w2 hbox hb; have n0_ := Aside0.mk (below_step (by repeat (first | (with_reducible first | exact HB.out | apply below_alloc | apply pw_below_drewN | apply below_drew1) | exact HB.out)) hb); have n1_ := Aside0.mk (hbox); have n2_ := Aside0.mk ((by rw [hg]; exact (below_size (by repeat (first | (with_reducible first | exact HB.out | apply below_alloc | apply pw_below_drewN | apply below_drew1) | exact HB.out))) : w.heap.size ≤ gb132)); have n3_ := Aside0.mk ((by rw [hg]; exact (below_size (by repeat (first | (with_reducible first | exact HB.out | apply below_alloc | apply pw_below_drewN | apply below_drew1) | exact HB.out))) : w.heap.size ≤ gb132)); clear HB; have HB := n0_; have BK132 := n1_; have GW132 := n2_; have GE132 := n3_; clear n0_ n1_ n2_ n3_; clear hb hbox hg; have hcz3_0 : w2.cell? ⟨gb132, 0, none⟩ = some (.slice A0_0 l0_0.length c0_0) := (blk_cell BK132.out 0).trans rfl; have hfz3_0 := blk_frozen BK132.out 0))
  go_loopg [3, 9] k (fun kq v3 v9 w' => ∃ (x3_1 : List Int) (x9_1 : Int), v9 = .int .i64 x9_1 ∧ Aside0 (hall_Open.l0 kq x3_1 l0_0 (l0_0.length : Int) x9_1 = some r) ∧ Aside0 (kq ≤ k) ∧ Aside0 (Kd.R (Kd.int .i64) 3 w' w.heap.size (fun _ => True) v3 x3_1) ∧ Aside0 (w'.heap[gb132]? = some (.cells #[(.slice A0_0 l0_0.length c0_0)] 24 (0, 0))) ∧ Aside0 (Below w.heap.size w w'))
  case atStart => exact ⟨(([] : List Int)), (0), (by first | rfl | (simp; done) | (simp [*]; done)), H', ⟨Nat.le_refl _⟩, ⟨by first | exact Kd.R_nil _ _ _ _ _ | exact Kd.N_nil _ _ _ _ _ | exact Kd.V_nil _ _ _ _ _ | exact Kd.Q_nil _ _ _ _ _ | exact Kd.S_nil _ _ _ _ _⟩, ⟨by (with_reducible repeat (first | refine blk_drewN ?_ _ | refine blk_drew ?_ | refine blk_alloc ?_ _)); exact BK132.out⟩, ⟨by repeat (first | (with_reducible first | exact HB.out | apply below_alloc | apply pw_below_drewN | apply below_drew1 | refine below_set ?_ GE132.out) | exact HB.out)⟩⟩
  case round =>
    clear H'
    try clear c1
    try clear p2
    try clear hcz3_0
    try clear hfz3_0
    obtain ⟨x3_1, x9_1, rfl, HA, HK1, HO_3, BK132, HB⟩ := hrel
    cases gk with
    | zero => exact absurd HA.out (by simp [hall_Open.l0])
    | succ k1 =>
      have H := HA.out
      clear HA
      simp only [hall_Open.l0] at H
      by_cases c4 : x9_1 < (l0_0.length : Int)
      · rw [if_pos c4] at H
        have c4b0 : decide (x9_1 < (l0_0.length : Int)) = true := decide_eq_true c4
        clear c4
        by_cases c5 : 0 ≤ x9_1
        · rw [if_pos c5] at H
          have c5b0 : decide (0 ≤ x9_1) = true := decide_eq_true c5
          clear c5
          by_cases c6 : x9_1 < (l0_0.length : Int)
          · rw [if_pos c6] at H
            have c6b0 : decide (x9_1 < (l0_0.length : Int)) = true := decide_eq_true c6
            clear c6
            obtain ⟨bq7, hbq7⟩ : ∃ b_ : Bool, b_ = ((rd_T44 l0_0 x9_1).f2) := ⟨_, rfl⟩
            replace H : (if (bq7 = true) then (hall_Open.l0 k1 x3_1 l0_0 (l0_0.length : Int) (wrap64 (x9_1 + 1))) else (if x3_1.length < 17592186044416 then (hall_Open.l0 k1 (x3_1 ++ [(rd_T44 l0_0 x9_1).f0]) l0_0 (l0_0.length : Int) (wrap64 (x9_1 + 1))) else (none))) = some r := by rw [← hbq7] at H; exact H
            have Nbq7 := Aside0.mk hbq7
            clear hbq7
            by_cases c8 : (bq7 = true)
            · subst c8
              have H1 : (hall_Open.l0 k1 x3_1 l0_0 (l0_0.length : Int) (wrap64 (x9_1 + 1))) = some r := by rw [if_pos rfl] at H; exact H
              clear H
              have H := H1
              clear H1
              have H' := Aside0.mk H
              clear H
              have p133 : 0 ≤ (x9_1 : Int) := of_decide_eq_true (by first | (with_reducible assumption) | assumption)
              have q133 : x9_1 < (l0_0.length : Int) := of_decide_eq_true (by first | (with_reducible assumption) | assumption)
              obtain ⟨ad133, A133_1, c133_1, A133_3, c133_3, e133, hx133_0, hx133_1, hx133_2, hx133_3, hl133_1, hi133_1, hl133_3, hi133_3⟩ := at_T44 HR0_0.out x9_1 p133 q133
              (try rw [← Nbq7.out] at hx133_2)
              cases e133
              replace hx133_0 := (HB.out.cell (World.block_lt_of_cell? w _ hx133_0)).trans hx133_0
              replace hx133_1 := (HB.out.cell (World.block_lt_of_cell? w _ hx133_1)).trans hx133_1
              replace hx133_2 := (HB.out.cell (World.block_lt_of_cell? w _ hx133_2)).trans hx133_2
              replace hx133_3 := (HB.out.cell (World.block_lt_of_cell? w _ hx133_3)).trans hx133_3
              have HR133_1 := Aside0.mk hi133_1
              have HC133_1 := Aside0.mk hl133_1
              clear hi133_1 hl133_1
              have HR133_3 := Aside0.mk hi133_3
              have HC133_3 := Aside0.mk hl133_3
              clear hi133_3 hl133_3
              replace p133 := eq_true p133
              replace q133 := eq_true q133
              go_wp2_with (first | ((with_reducible refine gate_dst (N := 5) rfl ?_); refine box_event ?hg (N := 5) ?hd (cs := #[.int .i64 0, .slice none 0 0, .bool false, .slice none 0 0]) (t := 44) ?hr ?_; (case hd => rfl); (case hg => rfl); (case hr => first | (go_simp; done) | (go_simp; rfl)); intro gb134 hg w9 hbox hb; have n0_ := Aside0.mk (Kd.R_below (by (with_reducible repeat (first | apply Kd.R_alloc | apply Kd.R_drewN | apply Kd.R_drew)); exact HO_3.out) hb); have n1_ := Aside0.mk (blk_below (g := gb132) (o := .cells #[.slice (some ad133) l0_0.length c0_0] 24 (0, 0)) (by (with_reducible repeat (first | refine blk_drewN ?_ _ | refine blk_drew ?_ | refine blk_alloc ?_ _)); exact BK132.out) hb); have n2_ := Aside0.mk (below_step (by repeat (first | (with_reducible first | exact HB.out | apply below_alloc | apply pw_below_drewN | apply below_drew1 | refine below_set ?_ GE132.out) | exact HB.out)) hb); have n3_ := Aside0.mk (hbox); have n4_ := Aside0.mk ((by rw [hg]; exact (below_size (by repeat (first | (with_reducible first | exact HB.out | apply below_alloc | apply pw_below_drewN | apply below_drew1 | refine below_set ?_ GE132.out) | exact HB.out))) : w.heap.size ≤ gb134)); have n5_ := Aside0.mk ((by rw [hg]; exact (below_size (by repeat (first | (with_reducible first | exact HB.out | apply below_alloc | apply pw_below_drewN | apply below_drew1 | refine below_set ?_ GE132.out) | exact HB.out))) : w.heap.size ≤ gb134)); have n6_ := Aside0.mk ((by rw [hg]; exact Nat.ne_of_lt (blk_lt (g := gb132) (o := .cells #[.slice (some ad133) l0_0.length c0_0] 24 (0, 0)) (by (with_reducible repeat (first | refine blk_drewN ?_ _ | refine blk_drew ?_ | refine blk_alloc ?_ _)); exact BK132.out)) : gb132 ≠ gb134)); have n7_ := Aside0.mk ((by rw [hg]; exact Nat.ne_of_gt (blk_lt (g := gb132) (o := .cells #[.slice (some ad133) l0_0.length c0_0] 24 (0, 0)) (by (with_reducible repeat (first | refine blk_drewN ?_ _ | refine blk_drew ?_ | refine blk_alloc ?_ _)); exact BK132.out)) : gb134 ≠ gb132)); clear HO_3; clear BK132; clear HB; have HO_3 := n0_; have BK132 := n1_; have HB := n2_; have BK134 := n3_; have GW134 := n4_; have GE134 := n5_; have NB132_134 := n6_; have NB134_132 := n7_; clear n0_ n1_ n2_ n3_ n4_ n5_ n6_ n7_; clear hb hbox hg; have hnb10 := NB134_132.out; have hnc10 := NB132_134.out; have hcz11_0 : w9.cell? ⟨gb134, 0, none⟩ = some (.int .i64 0) := (blk_cell BK134.out 0).trans rfl; have hcz11_1 : w9.cell? ⟨gb134, 1, none⟩ = some (.slice none 0 0) := (blk_cell BK134.out 1).trans rfl; have hcz11_2 : w9.cell? ⟨gb134, 2, none⟩ = some (.bool false) := (blk_cell BK134.out 2).trans rfl; have hcz11_3 : w9.cell? ⟨gb134, 3, none⟩ = some (.slice none 0 0) := (blk_cell BK134.out 3).trans rfl; have hfz11_0 := blk_frozen BK134.out 0; have hfz11_1 := blk_frozen BK134.out 1; have hfz11_2 := blk_frozen BK134.out 2; have hfz11_3 := blk_frozen BK134.out 3))
              go_roundg k1
              case measure => have := HK1.out; omega
              case rel => exact ⟨(x3_1), (wrap64 (x9_1 + 1)), (by first | rfl | (simp; done) | (simp [*]; done)), H', ⟨by have := HK1.out; omega⟩, ⟨by (with_reducible repeat (first | apply Kd.R_alloc | apply Kd.R_drewN | apply Kd.R_drew)); exact Kd.R_mono (Kd.R_far (p := ⟨gb134, 3, none⟩) (Kd.R_far (p := ⟨gb134, 2, none⟩) (Kd.R_far (p := ⟨gb134, 1, none⟩) (Kd.R_far (p := ⟨gb134, 0, none⟩) (Kd.R_types HO_3.out BK134.out (by decide)) (fun _ hk => hk.2) (.int .i64 ((rd_T44 l0_0 x9_1).f0))) (fun _ hk => hk.2) (.slice A133_1 ((rd_T44 l0_0 x9_1).f1).length c133_1)) (fun _ hk => hk.2) (.bool true)) (fun _ hk => hk.2) (.slice A133_3 ((rd_T44 l0_0 x9_1).f3).length c133_3)) (fun _ hk => trivial)⟩, ⟨by (with_reducible repeat (first | refine blk_drewN ?_ _ | refine blk_drew ?_ | refine blk_alloc ?_ _)); refine blk_far ?_ NB132_134.out _; (with_reducible repeat (first | refine blk_drewN ?_ _ | refine blk_drew ?_ | refine blk_alloc ?_ _)); refine blk_far ?_ NB132_134.out _; (with_reducible repeat (first | refine blk_drewN ?_ _ | refine blk_drew ?_ | refine blk_alloc ?_ _)); refine blk_far ?_ NB132_134.out _; (with_reducible repeat (first | refine blk_drewN ?_ _ | refine blk_drew ?_ | refine blk_alloc ?_ _)); refine blk_far ?_ NB132_134.out _; (with_reducible repeat (first | refine blk_drewN ?_ _ | refine blk_drew ?_ | refine blk_alloc ?_ _)); exact BK132.out⟩, ⟨by repeat (first | (with_reducible first | exact HB.out | apply below_alloc | apply pw_below_drewN | apply below_drew1 | refine below_set ?_ GE132.out | refine below_set ?_ GE134.out) | exact HB.out)⟩⟩
            · replace c8 := Bool.eq_false_iff.mpr c8
              subst c8
              have H1 : (if x3_1.length < 17592186044416 then (hall_Open.l0 k1 (x3_1 ++ [(rd_T44 l0_0 x9_1).f0]) l0_0 (l0_0.length : Int) (wrap64 (x9_1 + 1))) else (none)) = some r := by rw [if_neg (show ¬ (false = true) by decide)] at H; exact H
              clear H
              have H := H1
              clear H1
              by_cases c12 : x3_1.length < 17592186044416
              · rw [if_pos c12] at H
                have LMc12 := Aside0.mk c12
                clear c12
                obtain ⟨y135, hy135⟩ : ∃ y_ : List Int, y_ = (x3_1 ++ [(rd_T44 l0_0 x9_1).f0]) := ⟨_, rfl⟩
                replace H : (hall_Open.l0 k1 y135 l0_0 (l0_0.length : Int) (wrap64 (x9_1 + 1))) = some r := by first | (rw [hy135]; with_reducible exact H) | (have H2_ := (Option.bind_some _ _).symm.trans H; rw [hy135]; with_reducible exact H2_) | (have H2_ := (Option.bind_some _ _).symm.trans H; with_reducible exact H2_) | with_reducible exact H | (rw [hy135]; exact H) | exact H
                have Ny135 := Aside0.mk hy135
                clear hy135
                have H' := Aside0.mk H
                clear H
                have p133 : 0 ≤ (x9_1 : Int) := of_decide_eq_true (by first | (with_reducible assumption) | assumption)
                have q133 : x9_1 < (l0_0.length : Int) := of_decide_eq_true (by first | (with_reducible assumption) | assumption)
                obtain ⟨ad133, A133_1, c133_1, A133_3, c133_3, e133, hx133_0, hx133_1, hx133_2, hx133_3, hl133_1, hi133_1, hl133_3, hi133_3⟩ := at_T44 HR0_0.out x9_1 p133 q133
                (try rw [← Nbq7.out] at hx133_2)
                cases e133
                replace hx133_0 := (HB.out.cell (World.block_lt_of_cell? w _ hx133_0)).trans hx133_0
                replace hx133_1 := (HB.out.cell (World.block_lt_of_cell? w _ hx133_1)).trans hx133_1
                replace hx133_2 := (HB.out.cell (World.block_lt_of_cell? w _ hx133_2)).trans hx133_2
                replace hx133_3 := (HB.out.cell (World.block_lt_of_cell? w _ hx133_3)).trans hx133_3
                have HR133_1 := Aside0.mk hi133_1
                have HC133_1 := Aside0.mk hl133_1
                clear hi133_1 hl133_1
                have HR133_3 := Aside0.mk hi133_3
                have HC133_3 := Aside0.mk hl133_3
                clear hi133_3 hl133_3
                replace p133 := eq_true p133
                replace q133 := eq_true q133
                go_wp2_with (first | ((with_reducible refine gate_dst (N := 5) rfl ?_); refine box_event ?hg (N := 5) ?hd (cs := #[.int .i64 0, .slice none 0 0, .bool false, .slice none 0 0]) (t := 44) ?hr ?_; (case hd => rfl); (case hg => rfl); (case hr => first | (go_simp; done) | (go_simp; rfl)); intro gb134 hg w13 hbox hb; have n0_ := Aside0.mk (Kd.R_below (by (with_reducible repeat (first | apply Kd.R_alloc | apply Kd.R_drewN | apply Kd.R_drew)); exact HO_3.out) hb); have n1_ := Aside0.mk (blk_below (g := gb132) (o := .cells #[.slice (some ad133) l0_0.length c0_0] 24 (0, 0)) (by (with_reducible repeat (first | refine blk_drewN ?_ _ | refine blk_drew ?_ | refine blk_alloc ?_ _)); exact BK132.out) hb); have n2_ := Aside0.mk (below_step (by repeat (first | (with_reducible first | exact HB.out | apply below_alloc | apply pw_below_drewN | apply below_drew1 | refine below_set ?_ GE132.out) | exact HB.out)) hb); have n3_ := Aside0.mk (hbox); have n4_ := Aside0.mk ((by rw [hg]; exact (below_size (by repeat (first | (with_reducible first | exact HB.out | apply below_alloc | apply pw_below_drewN | apply below_drew1 | refine below_set ?_ GE132.out) | exact HB.out))) : w.heap.size ≤ gb134)); have n5_ := Aside0.mk ((by rw [hg]; exact (below_size (by repeat (first | (with_reducible first | exact HB.out | apply below_alloc | apply pw_below_drewN | apply below_drew1 | refine below_set ?_ GE132.out) | exact HB.out))) : w.heap.size ≤ gb134)); have n6_ := Aside0.mk ((by rw [hg]; exact Nat.ne_of_lt (blk_lt (g := gb132) (o := .cells #[.slice (some ad133) l0_0.length c0_0] 24 (0, 0)) (by (with_reducible repeat (first | refine blk_drewN ?_ _ | refine blk_drew ?_ | refine blk_alloc ?_ _)); exact BK132.out)) : gb132 ≠ gb134)); have n7_ := Aside0.mk ((by rw [hg]; exact Nat.ne_of_gt (blk_lt (g := gb132) (o := .cells #[.slice (some ad133) l0_0.length c0_0] 24 (0, 0)) (by (with_reducible repeat (first | refine blk_drewN ?_ _ | refine blk_drew ?_ | refine blk_alloc ?_ _)); exact BK132.out)) : gb134 ≠ gb132)); clear HO_3; clear BK132; clear HB; have HO_3 := n0_; have BK132 := n1_; have HB := n2_; have BK134 := n3_; have GW134 := n4_; have GE134 := n5_; have NB132_134 := n6_; have NB134_132 := n7_; clear n0_ n1_ n2_ n3_ n4_ n5_ n6_ n7_; clear hb hbox hg; have hnb14 := NB134_132.out; have hnc14 := NB132_134.out; have hcz15_0 : w13.cell? ⟨gb134, 0, none⟩ = some (.int .i64 0) := (blk_cell BK134.out 0).trans rfl; have hcz15_1 : w13.cell? ⟨gb134, 1, none⟩ = some (.slice none 0 0) := (blk_cell BK134.out 1).trans rfl; have hcz15_2 : w13.cell? ⟨gb134, 2, none⟩ = some (.bool false) := (blk_cell BK134.out 2).trans rfl; have hcz15_3 : w13.cell? ⟨gb134, 3, none⟩ = some (.slice none 0 0) := (blk_cell BK134.out 3).trans rfl; have hfz15_0 := blk_frozen BK134.out 0; have hfz15_1 := blk_frozen BK134.out 1; have hfz15_2 := blk_frozen BK134.out 2; have hfz15_3 := blk_frozen BK134.out 3) | ((with_reducible refine gate_builtin (b := .append) (xs := #[.tmp 16, .tmp 19]) rfl ?_); at_builtin; refine Kd.R_append (Kd.int .i64) (w0 := w) w.heap.size rfl (.tmp 16) (.tmp 19) 42 3 (.int .i64 0) 8 rfl Tryd.underlying42 info3 rfl (by decide) (by omega) u3 x3_1 ((rd_T44 l0_0 x9_1).f0) [.int .i64 ((rd_T44 l0_0 x9_1).f0)] (fun _ => True) (fun _ => False) rfl (by first | (go_simp; done) | (go_simp; rfl)) ?aP (fun _ hk => hk.elim) ?aF ?aO ?aB ?aS ?aL ?_; (case aP => exact rfl); (case aB => exact (by repeat (first | (with_reducible first | exact HB.out | apply below_alloc | apply pw_below_drewN | apply below_drew1 | refine below_set ?_ GE132.out | refine below_set ?_ GE134.out) | exact HB.out))); (case aF => exact (fun _ _ => trivial)); (case aO => exact (by (with_reducible repeat (first | apply Kd.R_alloc | apply Kd.R_drewN | apply Kd.R_drew)); exact Kd.R_mono (Kd.R_far (p := ⟨gb134, 3, none⟩) (Kd.R_far (p := ⟨gb134, 2, none⟩) (Kd.R_far (p := ⟨gb134, 1, none⟩) (Kd.R_far (p := ⟨gb134, 0, none⟩) (Kd.R_types HO_3.out BK134.out (by decide)) (fun _ hk => hk.2) (.int .i64 ((rd_T44 l0_0 x9_1).f0))) (fun _ hk => hk.2) (.slice A133_1 ((rd_T44 l0_0 x9_1).f1).length c133_1)) (fun _ hk => hk.2) (.bool false)) (fun _ hk => hk.2) (.slice A133_3 ((rd_T44 l0_0 x9_1).f3).length c133_3)) (fun _ hk => trivial))); (case aS => exact (below_size (by repeat (first | (with_reducible first | exact HB.out | apply below_alloc | apply pw_below_drewN | apply below_drew1 | refine below_set ?_ GE132.out | refine below_set ?_ GE134.out) | exact HB.out)))); (case aL => have := LMc12.out; omega); intro v136 w16 ho hb hg hat; rw [← Ny135.out] at ho; have n0_ := Aside0.mk (blk_grown (g := gb132) (o := .cells #[.slice (some ad133) l0_0.length c0_0] 24 (0, 0)) (by (with_reducible repeat (first | refine blk_drewN ?_ _ | refine blk_drew ?_ | refine blk_alloc ?_ _)); refine blk_far ?_ NB132_134.out _; (with_reducible repeat (first | refine blk_drewN ?_ _ | refine blk_drew ?_ | refine blk_alloc ?_ _)); refine blk_far ?_ NB132_134.out _; (with_reducible repeat (first | refine blk_drewN ?_ _ | refine blk_drew ?_ | refine blk_alloc ?_ _)); refine blk_far ?_ NB132_134.out _; (with_reducible repeat (first | refine blk_drewN ?_ _ | refine blk_drew ?_ | refine blk_alloc ?_ _)); refine blk_far ?_ NB132_134.out _; (with_reducible repeat (first | refine blk_drewN ?_ _ | refine blk_drew ?_ | refine blk_alloc ?_ _)); exact BK132.out) hg (Kd.R_ne HO_3.out BK132.out (by decide))); have n1_ := Aside0.mk (blk_grown (g := gb134) (o := .cells #[.int .i64 ((rd_T44 l0_0 x9_1).f0), .slice A133_1 ((rd_T44 l0_0 x9_1).f1).length c133_1, .bool false, .slice A133_3 ((rd_T44 l0_0 x9_1).f3).length c133_3] 44 (0, 0)) (by (with_reducible repeat (first | refine blk_drewN ?_ _ | refine blk_drew ?_ | refine blk_alloc ?_ _)); refine blk_put (cs := #[.int .i64 ((rd_T44 l0_0 x9_1).f0), .slice A133_1 ((rd_T44 l0_0 x9_1).f1).length c133_1, .bool false, .slice none 0 0]) ?_ 3 _ rfl; (with_reducible repeat (first | refine blk_drewN ?_ _ | refine blk_drew ?_ | refine blk_alloc ?_ _)); refine blk_put (cs := #[.int .i64 ((rd_T44 l0_0 x9_1).f0), .slice A133_1 ((rd_T44 l0_0 x9_1).f1).length c133_1, .bool false, .slice none 0 0]) ?_ 2 _ rfl; (with_reducible repeat (first | refine blk_drewN ?_ _ | refine blk_drew ?_ | refine blk_alloc ?_ _)); refine blk_put (cs := #[.int .i64 ((rd_T44 l0_0 x9_1).f0), .slice none 0 0, .bool false, .slice none 0 0]) ?_ 1 _ rfl; (with_reducible repeat (first | refine blk_drewN ?_ _ | refine blk_drew ?_ | refine blk_alloc ?_ _)); refine blk_put (cs := #[.int .i64 0, .slice none 0 0, .bool false, .slice none 0 0]) ?_ 0 _ rfl; (with_reducible repeat (first | refine blk_drewN ?_ _ | refine blk_drew ?_ | refine blk_alloc ?_ _)); exact BK134.out) hg (Kd.R_ne HO_3.out BK134.out (by decide))); have n2_ := Aside0.mk (hb); have n3_ := Aside0.mk (ho); clear BK132; clear BK134; clear HB; clear HO_3; have BK132 := n0_; have BK134 := n1_; have HB := n2_; have HO137 := n3_; clear n0_ n1_ n2_ n3_; clear ho hb hg hat))
                go_roundg k1
                case measure => have := HK1.out; omega
                case rel => exact ⟨(y135), (wrap64 (x9_1 + 1)), (by first | rfl | (simp; done) | (simp [*]; done)), H', ⟨by have := HK1.out; omega⟩, ⟨by (with_reducible repeat (first | apply Kd.R_alloc | apply Kd.R_drewN | apply Kd.R_drew)); exact HO137.out⟩, ⟨by (with_reducible repeat (first | refine blk_drewN ?_ _ | refine blk_drew ?_ | refine blk_alloc ?_ _)); exact BK132.out⟩, ⟨by repeat (first | (with_reducible first | exact HB.out | apply below_alloc | apply pw_below_drewN | apply below_drew1 | refine below_set ?_ GE132.out | refine below_set ?_ GE134.out) | exact HB.out)⟩⟩
              · rw [if_neg c12] at H
                exact absurd H (by simp)
          · rw [if_neg c6] at H
            exact absurd H (by simp)
        · rw [if_neg c5] at H
          exact absurd H (by simp)
      · rw [if_neg c4] at H
        have c4b0 : decide (x9_1 < (l0_0.length : Int)) = false := decide_eq_false c4
        clear c4
        obtain rfl := Option.some.inj H
        go_wp2
        go_ret
        exact ⟨_, by first | rfl | (simp [errW_none, errW_some] <;> rfl) | (simp [*, errW_none, errW_some] <;> rfl), by (with_reducible repeat (first | apply Kd.R_alloc | apply Kd.R_drewN | apply Kd.R_drew)); exact HO_3.out, by repeat (first | (with_reducible first | exact HB.out | apply below_alloc | apply pw_below_drewN | apply below_drew1 | refine below_set ?_ GE132.out) | exact HB.out)⟩

-- NOT PRINTED: function 37 (reflectlite_TypeOf)

-- NOT PRINTED: function 38 (errors_is)

-- NOT PRINTED: function 33 (errors_Is)

-- NOT PRINTED: function 39 (reflectlite_ValueOf)

-- NOT PRINTED: function 40 (reflectlite_Value_Type)

-- NOT PRINTED: function 41 (reflectlite_Value_IsNil)

-- NOT PRINTED: function 51 (reflectlite_Value_Elem)

-- NOT PRINTED: function 52 (reflectlite_Value_Set)

-- NOT PRINTED: function 42 (errors_as)

-- NOT PRINTED: function 34 (errors_As)

-- NOT PRINTED: function 29 (hall_number)

/-! ### api_Layer_53: function 53 (given by hand) -/
/-- The place of the first element for which p holds, counted from i on; -1: there is none. -/
def idxFrom53 {α : Type} (p : α → Bool) : List α → Nat → Int
  | [], _ => -1
  | x :: r, i => if p x = true then (i : Int) else idxFrom53 p r (i + 1)
theorem drop_at53 {α : Type} (l : List α) (k : Nat) (h : k < l.length) : l.drop k = l[k] :: l.drop (k + 1) := List.drop_eq_getElem_cons h
set_option maxHeartbeats 8000000 in
set_option maxRecDepth 100000 in
theorem idx53_calls {α : Type} (d : Kd α) (hsz : d.sz = 3) (g : Nat) {fn : Func} (hfn : Tryd.prog.funcs[g]? = some fn) (hname : (fn.name == "runtime.NumGoroutine") = false) (hbody : fn.body.isSome = true) (lb : Array Value) (p : α → Bool)
    (A0 : Option Addr) (c0 : Nat) (l0 : List α) (w : World) (hr0 : Kd.C d w A0 l0.length l0)
    (hP : ∀ (x : α) (v0 v1 v2 : Value) (W : World), x ∈ l0 → d.K w x [v0, v1, v2] → Below w.heap.size w W → Calls Tryd.prog g (#[.agg #[v0, v1, v2]] ++ lb) W fun e w' => e = .returned (.bool (p x)) ∧ Below W.heap.size W w') :
    Calls Tryd.prog 53 #[.slice A0 l0.length c0, .func (.func g) #[] lb] w fun e w' => e = .returned (.int .i64 (idxFrom53 p l0 0)) ∧ Below w.heap.size w w' := by
  have HR0 := Aside0.mk hr0
  have HP := Aside0.mk hP
  clear hr0 hP
  have HB := Aside0.mk (Below.refl w.heap.size w)
  have hmax : l0.length ≤ 9223372036854775807 := HR0.out.2.1
  have eg : ∀ (args : Array Value) (w : World), (callFunc g args).run Tryd.prog w = .ok (.enter g args) w := fun args w => enters_ hfn hname hbody args w
  go_enter Tryd.func53, Tryd.ntmps53
  go_wp2
  go_loopw [8] (fun v8 w' => ∃ k : Nat, Aside0 (k ≤ l0.length) ∧ v8 = .int .i64 (k : Int) ∧ Aside0 (idxFrom53 p (l0.drop k) k = idxFrom53 p l0 0) ∧ Aside0 (Below w.heap.size w w')) (fun v8 _ => l0.length - (intOf v8).toNat)
  case atStart => exact ⟨0, ⟨Nat.zero_le _⟩, rfl, ⟨rfl⟩, HB⟩
  case round =>
    obtain ⟨k, HK, rfl, HI, HB⟩ := hrel
    by_cases hlt : k < l0.length
    · obtain ⟨ad, cs, hA, hcl, hKx, hcell⟩ := Kd.C_get HR0.out l0[k] (k : Int) (by omega) (by omega)
      cases hA
      have hget : l0.getD (k : Int).toNat l0[k] = l0[k] := by
        rw [Int.toNat_natCast, List.getD_eq_getElem?_getD, List.getElem?_eq_getElem hlt]
        rfl
      rw [hget] at hKx
      rw [hsz] at hcl
      obtain ⟨v0, v1, v2, rfl⟩ : ∃ v0 v1 v2, cs = [v0, v1, v2] := by
        match cs, hcl with
        | [v0, v1, v2], _ => exact ⟨v0, v1, v2, rfl⟩
      have hx0 := hcell 0 v0 rfl
      rw [Int.toNat_natCast, hsz, Nat.add_zero] at hx0
      have hx1 := hcell 1 v1 rfl
      rw [Int.toNat_natCast, hsz, add_field _ _ 1 (by omega)] at hx1
      have hx2 := hcell 2 v2 rfl
      rw [Int.toNat_natCast, hsz, add_field _ _ 2 (by omega)] at hx2
      clear hcell
      replace hx0 := (HB.out.cell (World.block_lt_of_cell? w _ hx0)).trans hx0
      replace hx1 := (HB.out.cell (World.block_lt_of_cell? w _ hx1)).trans hx1
      replace hx2 := (HB.out.cell (World.block_lt_of_cell? w _ hx2)).trans hx2
      have hc : decide (k < l0.length) = true := decide_eq_true hlt
      have HC := Aside0.mk (fun W => HP.out l0[k] v0 v1 v2 W (List.getElem_mem hlt) hKx)
      have HD := Aside0.mk (drop_at53 l0 k hlt)
      clear hKx hget hcl
      cases hp : p l0[k]
      · have HC1 : Aside0 (∀ W : World, Below w.heap.size w W → Calls Tryd.prog g (#[.agg #[v0, v1, v2]] ++ lb) W fun e w' => e = .returned (.bool false) ∧ Below W.heap.size W w') := ⟨fun W hW => by have := HC.out W hW; rwa [hp] at this⟩
        have HN : Aside0 (idxFrom53 p (l0.drop (k + 1)) (k + 1) = idxFrom53 p l0 0) := ⟨by have := HI.out; rw [HD.out] at this; simp only [idxFrom53, hp] at this; exact this⟩
        clear HC HI HD hp
        go_wp2_with (go_at_fn g; refine (HC1.out _ ?cb).mono ?_; (case cb => exact HB.out); rintro e w' ⟨rfl, hb0⟩; have n1_ := Aside0.mk (below_step HB.out hb0); clear hb0; clear HB; have HB := n1_; clear n1_)
        go_roundw
        case rel => exact ⟨k + 1, ⟨by omega⟩, by go_num, HN, HB⟩
        case measure => simp [intOf]; omega
      · have HC1 : Aside0 (∀ W : World, Below w.heap.size w W → Calls Tryd.prog g (#[.agg #[v0, v1, v2]] ++ lb) W fun e w' => e = .returned (.bool true) ∧ Below W.heap.size W w') := ⟨fun W hW => by have := HC.out W hW; rwa [hp] at this⟩
        have HN : Aside0 (((k : Nat) : Int) = idxFrom53 p l0 0) := ⟨by have := HI.out; rw [HD.out] at this; simp only [idxFrom53, hp] at this; exact this⟩
        clear HC HI HD hp
        go_wp2_with (go_at_fn g; refine (HC1.out _ ?cb).mono ?_; (case cb => exact HB.out); rintro e w' ⟨rfl, hb0⟩; have n1_ := Aside0.mk (below_step HB.out hb0); clear hb0; clear HB; have HB := n1_; clear n1_)
        go_ret
        exact ⟨by rw [← HN.out]; rfl, HB.out⟩
    · have hc : decide (k < l0.length) = false := decide_eq_false hlt
      have hk : k = l0.length := by have := HK.out; omega
      have HN : Aside0 ((-1 : Int) = idxFrom53 p l0 0) := ⟨by have := HI.out; rw [hk, List.drop_length] at this; exact this⟩
      clear hk
      go_wp2
      go_ret
      exact ⟨by rw [← HN.out]; rfl, HB.out⟩

/-! ### api_Layer_43: function 43 (given by hand) -/
theorem idxFrom53_iff {α : Type} (p : α → Bool) : ∀ (l : List α) (i : Nat), 0 ≤ idxFrom53 p l i ↔ l.any p = true := by
  intro l
  induction l with
  | nil => intro i; simp [idxFrom53]
  | cons x r ih =>
    intro i
    by_cases h : p x = true
    · have e : idxFrom53 p (x :: r) i = (i : Int) := by simp only [idxFrom53]; rw [if_pos h]
      rw [e]
      simp [h]
    · have e : idxFrom53 p (x :: r) i = idxFrom53 p r (i + 1) := by simp only [idxFrom53]; rw [if_neg h]
      rw [e, ih, List.any_cons, Bool.eq_false_iff.mpr h, Bool.false_or]
theorem idxFrom53_any {α : Type} (p : α → Bool) (l : List α) (i : Nat) : decide (0 ≤ idxFrom53 p l i) = l.any p := by
  rw [Bool.eq_iff_iff, decide_eq_true_iff]
  exact idxFrom53_iff p l i
set_option maxHeartbeats 8000000 in
set_option maxRecDepth 100000 in
theorem has43_calls {α : Type} (d : Kd α) (hsz : d.sz = 3) (g : Nat) {fn : Func} (hfn : Tryd.prog.funcs[g]? = some fn) (hname : (fn.name == "runtime.NumGoroutine") = false) (hbody : fn.body.isSome = true) (lb : Array Value) (p : α → Bool)
    (A0 : Option Addr) (c0 : Nat) (l0 : List α) (w : World) (hr0 : Kd.C d w A0 l0.length l0)
    (hP : ∀ (x : α) (v0 v1 v2 : Value) (W : World), x ∈ l0 → d.K w x [v0, v1, v2] → Below w.heap.size w W → Calls Tryd.prog g (#[.agg #[v0, v1, v2]] ++ lb) W fun e w' => e = .returned (.bool (p x)) ∧ Below W.heap.size W w') :
    Calls Tryd.prog 43 #[.slice A0 l0.length c0, .func (.func g) #[] lb] w fun e w' => e = .returned (.bool (l0.any p)) ∧ Below w.heap.size w w' := by
  have HR0 := Aside0.mk hr0
  have HP := Aside0.mk hP
  clear hr0 hP
  have hd := idxFrom53_any p l0 0
  rw [← hd]
  clear hd
  generalize hi : idxFrom53 p l0 0 = i
  have HI := Aside0.mk hi
  clear hi
  cases hb : decide (0 ≤ i)
  · have hb' : decide (i ≥ 0) = false := hb
    go_enter Tryd.func43, Tryd.ntmps43
    go_wp2_with (go_at_call 53; refine (idx53_calls d hsz g hfn hname hbody lb p A0 c0 l0 _ HR0.out HP.out).mono ?_; rw [HI.out]; rintro e w' ⟨rfl, hbl⟩; have HB := Aside0.mk hbl; clear hbl)
    go_ret
    exact ⟨rfl, HB.out⟩
  · have hb' : decide (i ≥ 0) = true := hb
    go_enter Tryd.func43, Tryd.ntmps43
    go_wp2_with (go_at_call 53; refine (idx53_calls d hsz g hfn hname hbody lb p A0 c0 l0 _ HR0.out HP.out).mono ?_; rw [HI.out]; rintro e w' ⟨rfl, hbl⟩; have HB := Aside0.mk hbl; clear hbl)
    go_ret
    exact ⟨rfl, HB.out⟩

/-! ### slices_IndexFunc_int_int_58: function 58 (given by hand) -/
/-- The place of the first element for which p holds, counted from i on; -1: there is none. -/
def idxFrom58 {α : Type} (p : α → Bool) : List α → Nat → Int
  | [], _ => -1
  | x :: r, i => if p x = true then (i : Int) else idxFrom58 p r (i + 1)
theorem drop_at58 {α : Type} (l : List α) (k : Nat) (h : k < l.length) : l.drop k = l[k] :: l.drop (k + 1) := List.drop_eq_getElem_cons h
set_option maxHeartbeats 8000000 in
set_option maxRecDepth 100000 in
theorem idx58_calls {α : Type} (d : Kd α) (hsz : d.sz = 1) (g : Nat) {fn : Func} (hfn : Tryd.prog.funcs[g]? = some fn) (hname : (fn.name == "runtime.NumGoroutine") = false) (hbody : fn.body.isSome = true) (lb : Array Value) (p : α → Bool)
    (A0 : Option Addr) (c0 : Nat) (l0 : List α) (w : World) (hr0 : Kd.C d w A0 l0.length l0)
    (hP : ∀ (x : α) (v : Value) (W : World), x ∈ l0 → d.K w x [v] → Below w.heap.size w W → Calls Tryd.prog g (#[v] ++ lb) W fun e w' => e = .returned (.bool (p x)) ∧ Below W.heap.size W w') :
    Calls Tryd.prog 58 #[.slice A0 l0.length c0, .func (.func g) #[] lb] w fun e w' => e = .returned (.int .i64 (idxFrom58 p l0 0)) ∧ Below w.heap.size w w' := by
  have HR0 := Aside0.mk hr0
  have HP := Aside0.mk hP
  clear hr0 hP
  have HB := Aside0.mk (Below.refl w.heap.size w)
  have hmax : l0.length ≤ 9223372036854775807 := HR0.out.2.1
  have eg : ∀ (args : Array Value) (w : World), (callFunc g args).run Tryd.prog w = .ok (.enter g args) w := fun args w => enters_ hfn hname hbody args w
  go_enter Tryd.func58, Tryd.ntmps58
  go_wp2
  go_loopw [8] (fun v8 w' => ∃ k : Nat, Aside0 (k ≤ l0.length) ∧ v8 = .int .i64 (k : Int) ∧ Aside0 (idxFrom58 p (l0.drop k) k = idxFrom58 p l0 0) ∧ Aside0 (Below w.heap.size w w')) (fun v8 _ => l0.length - (intOf v8).toNat)
  case atStart => exact ⟨0, ⟨Nat.zero_le _⟩, rfl, ⟨rfl⟩, HB⟩
  case round =>
    obtain ⟨k, HK, rfl, HI, HB⟩ := hrel
    by_cases hlt : k < l0.length
    · obtain ⟨ad, cs, hA, hcl, hKx, hcell⟩ := Kd.C_get HR0.out l0[k] (k : Int) (by omega) (by omega)
      cases hA
      have hget : l0.getD (k : Int).toNat l0[k] = l0[k] := by
        rw [Int.toNat_natCast, List.getD_eq_getElem?_getD, List.getElem?_eq_getElem hlt]
        rfl
      rw [hget] at hKx
      rw [hsz] at hcl
      obtain ⟨v, rfl⟩ : ∃ v, cs = [v] := by
        match cs, hcl with
        | [v], _ => exact ⟨v, rfl⟩
      have hx := hcell 0 v rfl
      rw [Int.toNat_natCast, hsz, Nat.mul_one, Nat.add_zero] at hx
      clear hcell
      replace hx := (HB.out.cell (World.block_lt_of_cell? w _ hx)).trans hx
      have hc : decide (k < l0.length) = true := decide_eq_true hlt
      have HC := Aside0.mk (fun W => HP.out l0[k] v W (List.getElem_mem hlt) hKx)
      have HD := Aside0.mk (drop_at58 l0 k hlt)
      clear hKx hget hcl
      cases hp : p l0[k]
      · have HC1 : Aside0 (∀ W : World, Below w.heap.size w W → Calls Tryd.prog g (#[v] ++ lb) W fun e w' => e = .returned (.bool false) ∧ Below W.heap.size W w') := ⟨fun W hW => by have := HC.out W hW; rwa [hp] at this⟩
        have HN : Aside0 (idxFrom58 p (l0.drop (k + 1)) (k + 1) = idxFrom58 p l0 0) := ⟨by have := HI.out; rw [HD.out] at this; simp only [idxFrom58, hp] at this; exact this⟩
        clear HC HI HD hp
        go_wp2_with (go_at_fn g; refine (HC1.out _ ?cb).mono ?_; (case cb => exact HB.out); rintro e w' ⟨rfl, hb0⟩; have n1_ := Aside0.mk (below_step HB.out hb0); clear hb0; clear HB; have HB := n1_; clear n1_)
        go_roundw
        case rel => exact ⟨k + 1, ⟨by omega⟩, by go_num, HN, HB⟩
        case measure => simp [intOf]; omega
      · have HC1 : Aside0 (∀ W : World, Below w.heap.size w W → Calls Tryd.prog g (#[v] ++ lb) W fun e w' => e = .returned (.bool true) ∧ Below W.heap.size W w') := ⟨fun W hW => by have := HC.out W hW; rwa [hp] at this⟩
        have HN : Aside0 (((k : Nat) : Int) = idxFrom58 p l0 0) := ⟨by have := HI.out; rw [HD.out] at this; simp only [idxFrom58, hp] at this; exact this⟩
        clear HC HI HD hp
        go_wp2_with (go_at_fn g; refine (HC1.out _ ?cb).mono ?_; (case cb => exact HB.out); rintro e w' ⟨rfl, hb0⟩; have n1_ := Aside0.mk (below_step HB.out hb0); clear hb0; clear HB; have HB := n1_; clear n1_)
        go_ret
        exact ⟨by rw [← HN.out]; rfl, HB.out⟩
    · have hc : decide (k < l0.length) = false := decide_eq_false hlt
      have hk : k = l0.length := by have := HK.out; omega
      have HN : Aside0 ((-1 : Int) = idxFrom58 p l0 0) := ⟨by have := HI.out; rw [hk, List.drop_length] at this; exact this⟩
      clear hk
      go_wp2
      go_ret
      exact ⟨by rw [← HN.out]; rfl, HB.out⟩

end Go.Proofs.YtlbkfeelkdombaaDoor.Pq
