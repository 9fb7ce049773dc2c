-- Laid by wip/xprint.py, a program of this session that runs the kit's print with some contracts given by hand; not a text of print.sh. Lean checks it.
import Derived.Test.YtlicglgogklnkaaPr0
import Derived.Test.YtlicglgogklnkaaPr2
namespace Go.Proofs.Ytlicglgogklnkaa.Pr
open Go.RowKit Go.Proofs.YtlicglgogklnkaaW.PrintWords Go.Proofs.YtlicglgogklnkaaW.PrintLast Go.Proofs.YtlicglgogklnkaaW.PrintMore
attribute [local go_sem] max2_int min2_int max_two min_two max_three min_three max_four min_four   -- for this text's walks alone
set_option linter.unusedVariables false
set_option linter.unusedSimpArgs false

/-! ### vec_each: function 62 (given by hand) -/
def hold (x : Int) : Int := mx (-2147483647) (mn 2147483647 x)
def addI (a b : Int) : Int := hold (wrap64 (hold a + hold b))
def mulI (a b : Int) : Int := hold (wrap64 (Int.tdiv (wrap64 (hold a * hold b)) 65536))
/-- The first numbers of a row, each with its place, through a function. -/
def mapTo (F : Int → Int → Int) (l : List Int) (k : Nat) : List Int := (List.range k).map fun i : Nat => F (i : Int) (rd l (i : Int))
theorem mapTo_length (F : Int → Int → Int) (l : List Int) (k : Nat) : (mapTo F l k).length = k := by simp [mapTo]
theorem mapTo_succ (F : Int → Int → Int) (l : List Int) (k : Nat) : mapTo F l (k + 1) = mapTo F l k ++ [F (k : Int) (rd l (k : Int))] := by
  unfold mapTo
  rw [List.range_succ, List.map_append]
  rfl

set_option maxHeartbeats 8000000 in
set_option maxRecDepth 100000 in
theorem each_calls (g : Nat) {fn : Func} (hfn : Try.prog.funcs[g]? = some fn) (hname : (fn.name == "runtime.NumGoroutine") = false) (hbody : fn.body.isSome = true) (lb : Array Value) (F : Int → Int → Int)
    (A0 : Option Addr) (c0 : Nat) (l0 : List Int) (w : World) (hr0 : Kd.C (Kd.int .i64) w A0 l0.length l0) (hc0 : l0.length ≤ c0) (hlen : l0.length < 17592186044416)
    (hF : ∀ (i : Nat) (W : World), i < l0.length → Below w.heap.size w W → Calls Try.prog g (#[.int .i64 (i : Int), .int .i64 (rd l0 i)] ++ lb) W fun e w' => e = .returned (.int .i64 (F i (rd l0 i))) ∧ Below W.heap.size W w') :
    Calls Try.prog 62 #[.slice A0 l0.length c0, .func (.func g) #[] lb] w fun e w' => ∃ v0_ : Value, e = .returned v0_ ∧ Kd.R (Kd.int .i64) 3 w' w.heap.size (fun _ => True) v0_ (mapTo F l0 l0.length) ∧ Below w.heap.size w w' := by
  have HR0 := Aside0.mk hr0
  have HC0 := Aside0.mk hc0
  have HL := Aside0.mk hlen
  have HF := Aside0.mk hF
  clear hr0 hc0 hF
  have HB := Aside0.mk (Below.refl w.heap.size w)
  have eg : ∀ (args : Array Value) (w : World), (callFunc g args).run Try.prog w = .ok (.enter g args) w := fun args w => enters_ hfn hname hbody args w
  go_enter Try.func62, Try.ntmps62
  go_wp2
  go_loopw [5, 10] (fun v5 v10 w' => ∃ k : Nat, Aside0 (k ≤ l0.length) ∧ v10 = .int .i64 (k : Int) ∧ Aside0 (Kd.R (Kd.int .i64) 3 w' w.heap.size (fun _ => True) v5 (mapTo F l0 k)) ∧ Aside0 (Below w.heap.size w w')) (fun _ v10 _ => l0.length - (intOf v10).toNat)
  case atStart => exact ⟨0, ⟨Nat.zero_le _⟩, rfl, ⟨Kd.R_nil _ _ _ _ _⟩, HB⟩
  case round =>
    obtain ⟨k, HK, rfl, HO, HB⟩ := hrel
    by_cases hlt : k < l0.length
    · obtain ⟨ad, hA, hx⟩ := Kd.at_int HR0.out (k : Int) (by omega) (by omega)
      cases hA
      replace hx := (HB.out.cell (World.block_lt_of_cell? w _ hx)).trans hx
      rw [Int.toNat_natCast] at hx
      have hc : decide (k < l0.length) = true := decide_eq_true hlt
      have HC := HF.out k
      have HS := Aside0.mk (mapTo_succ F l0 k)
      have HM := Aside0.mk (mapTo_length F l0 k)
      generalize hv : F (k : Int) (rd l0 (k : Int)) = y at HC HS
      have HV := Aside0.mk hv
      clear hv
      have HC := Aside0.mk HC
      obtain ⟨y', hy'⟩ : ∃ y_ : List Int, y_ = mapTo F l0 k ++ [y] := ⟨_, rfl⟩
      have HY := Aside0.mk hy'
      clear hy'
      go_wp2_with (first
        | (go_at_fn g; refine (HC.out _ hlt ?cb).mono ?_; (case cb => exact HB.out); rintro e w' ⟨rfl, hb0⟩; have n0_ := Aside0.mk (Kd.R_below HO.out hb0); have n1_ := Aside0.mk (below_step HB.out hb0); clear hb0; clear HO HB; have HO := n0_; have HB := n1_; clear n0_ n1_)
        | (at_builtin; refine Kd.R_append (Kd.int .i64) (w0 := w) w.heap.size rfl (.tmp 15) (.tmp 20) 47 3 (.int .i64 0) 8 rfl Try.underlying47 info3 rfl (by decide) (by omega) u5 (mapTo F l0 k) y [.int .i64 y] (fun _ => True) (fun _ => False) rfl rfl ?aP (fun _ hk => hk.elim) ?aF ?aO ?aB ?aS ?aL ?_; (case aP => exact rfl); (case aF => exact (fun _ _ => trivial)); (case aO => exact HO.out); (case aB => exact HB.out); (case aS => exact below_size HB.out); (case aL => rw [HM.out]; have := HL.out; omega); intro v1 w1 ho hb hg hat; rw [← HY.out] at ho; have HO1 := Aside0.mk ho; have HB1 := Aside0.mk hb; clear ho hb hg hat))
      go_roundw
      case rel => exact ⟨k + 1, ⟨by omega⟩, by go_num, ⟨by rw [HS.out, ← HY.out]; exact HO1.out⟩, HB1⟩
      case measure => simp [intOf]; omega
    · have hc : decide (k < l0.length) = false := decide_eq_false hlt
      have hk : k = l0.length := by have := HK.out; omega
      go_wp2
      go_ret
      exact ⟨_, rfl, by rw [← hk]; exact HO.out, HB.out⟩


/-! ### vec_Add: function 42 (given by hand) -/
theorem hold_f (x : Int) : fix_Hold.f x = some (hold x) := rfl
theorem add_f (a b : Int) : fix_Add.f a b = some (addI a b) := rfl
set_option maxHeartbeats 8000000 in
set_option maxRecDepth 100000 in
theorem vec_Add_1.calls (i x : Int) (B : Nat) (A1 : Option Addr) (c1 : Nat) (l1 : List Int) (W : World) (hr1 : Kd.C (Kd.int .i64) W A1 l1.length l1) (hx : W.cell? ⟨B, 0, none⟩ = some (.slice A1 l1.length c1)) (h0 : 0 ≤ i) (h1 : i < l1.length) :
    Calls Try.prog 63 #[.int .i64 i, .int .i64 x, .pointer (some ⟨B, 0, none⟩)] W fun e w' => e = .returned (.int .i64 (addI x (rd l1 i))) ∧ Below W.heap.size W w' := by
  obtain ⟨ad, hA, hc⟩ := Kd.at_int hr1 i h0 h1
  cases hA
  have HR1 := Aside0.mk hr1
  clear hr1
  have p0 := eq_true h0
  have p1 := eq_true h1
  have q0 : decide (0 ≤ i) = true := decide_eq_true h0
  have q1 : decide (i < (l1.length : Int)) = true := decide_eq_true h1
  go_enter Try.func63, Try.ntmps63
  go_wp2_with (go_at_call 64; refine (fix_Add.calls x (rd l1 i) (addI x (rd l1 i)) _ (add_f _ _)).mono ?_; rintro e w' ⟨rfl, hb⟩)
  go_ret
  exact ⟨rfl, hb⟩
def vec_Add.f (l0 : List Int) (l1 : List Int) : Option (List Int × Bool) := if (l0.length : Int) = (l1.length : Int) then (if l0.length < 17592186044416 then some (mapTo (fun i x => addI x (rd l1 i)) l0 l0.length, true) else none) else (some (([] : List Int), false))
set_option maxHeartbeats 8000000 in
set_option maxRecDepth 100000 in
theorem vec_Add.calls (A0 : Option Addr) (c0 : Nat) (l0 : List Int) (A1 : Option Addr) (c1 : Nat) (l1 : List Int) (r1 : List Int) (r2 : Bool) (w : World) (hr0 : Kd.C (Kd.int .i64) w A0 l0.length l0) (hc0 : l0.length ≤ c0) (hr1 : Kd.C (Kd.int .i64) w A1 l1.length l1) (hc1 : l1.length ≤ c1) (h : vec_Add.f l0 l1 = some (r1, r2)) :
    Calls Try.prog 42 #[.slice A0 l0.length c0, .slice A1 l1.length c1] w fun e w' => ∃ v0_ : Value, e = .returned (.tuple #[v0_, .bool r2]) ∧ Kd.R (Kd.int .i64) 3 w' w.heap.size (fun _ => True) v0_ r1 ∧ Below w.heap.size w w' := by
  have hmf : ∀ (fn : Fn) (first cap : Array Value) (w : World), (Instr.makeFunc fn first cap).run Try.prog w = .ok (.func fn first cap) w := fun _ _ _ _ => rfl
  unfold vec_Add.f at h
  by_cases he : (l0.length : Int) = (l1.length : Int)
  · rw [if_pos he] at h
    by_cases hl : l0.length < 17592186044416
    · rw [if_pos hl] at h
      simp only [Option.some.injEq, Prod.mk.injEq] at h
      obtain ⟨rfl, rfl⟩ := h
      have HL := Aside0.mk hl
      have HR0 := Aside0.mk hr0
      have HC0 := Aside0.mk hc0
      have HR1 := Aside0.mk hr1
      have hq : ((l0.length : Int) == (l1.length : Int)) = true := beq_iff_eq.2 he
      have hq1 : (l0.length == l1.length) = true := beq_iff_eq.2 (by omega)
      have hq2 : ((l0.length : Int) != (l1.length : Int)) = false := by rw [bne, hq]; rfl
      have HE := Aside0.mk he
      clear hl hr0 hc0 hr1 hc1 he
      go_enter Try.func42, Try.ntmps42
      go_wp2_with (go_at_call 62; refine (each_calls 63 Try.func63 rfl rfl #[.pointer (some ⟨w.heap.size, 0, none⟩)] (fun i x => addI x (rd l1 i)) _ _ l0 _ ?s1 HC0.out HL.out ?s2).mono ?_; (case s1 => exact Kd.C_alloc HR0.out _); (case s2 => (intro i W hi hb; refine (vec_Add_1.calls (i : Int) (rd l0 i) w.heap.size A1 c1 l1 W ?_ ?_ (by omega) (by have := HE.out; omega)); exact (Kd.C_below (Kd.C_alloc HR1.out _) hb); exact ((hb.cell (p := ⟨w.heap.size, 0, none⟩) (by simp)).trans (by rw [World.cell?_alloc_at _ _ _ _ rfl]; rfl)))); rintro e w1 ⟨v, rfl, ho, hb⟩; have HO := Aside0.mk ho; have HB := Aside0.mk hb; clear ho hb)
      go_ret2
      exact ⟨_, rfl, Kd.R_lower HO.out (by simp), (below_alloc (Below.refl _ _) _).trans (HB.out.mono (by simp))⟩
    · rw [if_neg hl] at h
      cases h
  · rw [if_neg he] at h
    simp only [Option.some.injEq, Prod.mk.injEq] at h
    obtain ⟨rfl, rfl⟩ := h
    have hq : ((l0.length : Int) == (l1.length : Int)) = false := beq_eq_false_iff_ne.2 he
    have hq1 : (l0.length == l1.length) = false := beq_eq_false_iff_ne.2 (by omega)
    have hq2 : ((l0.length : Int) != (l1.length : Int)) = true := by rw [bne, hq]; rfl
    go_enter Try.func42, Try.ntmps42
    go_wp2
    go_ret2
    exact ⟨_, rfl, Kd.R_nil _ _ _ _ _, below_alloc (Below.refl _ _) _⟩

/-! ### vec_Scale: function 43 (given by hand) -/
theorem mul_f (a b : Int) : fix_Mul.f a b = some (mulI a b) := rfl
set_option maxHeartbeats 8000000 in
set_option maxRecDepth 100000 in
theorem vec_Scale_1.calls (i x y : Int) (B : Nat) (W : World) (hx : W.cell? ⟨B, 0, none⟩ = some (.int .i64 y)) :
    Calls Try.prog 65 #[.int .i64 i, .int .i64 x, .pointer (some ⟨B, 0, none⟩)] W fun e w' => e = .returned (.int .i64 (mulI x y)) ∧ Below W.heap.size W w' := by
  go_enter Try.func65, Try.ntmps65
  go_wp2_with (go_at_call 66; refine (fix_Mul.calls x y (mulI x y) _ (mul_f _ _)).mono ?_; rintro e w' ⟨rfl, hb⟩)
  go_ret
  exact ⟨rfl, hb⟩
def vec_Scale.f (l0 : List Int) (a1 : Int) : Option (List Int) := if l0.length < 17592186044416 then some (mapTo (fun _ x => mulI x a1) l0 l0.length) else none
set_option maxHeartbeats 8000000 in
set_option maxRecDepth 100000 in
theorem vec_Scale.calls (A0 : Option Addr) (c0 : Nat) (l0 : List Int) (a1 : Int) (r : List Int) (w : World) (hr0 : Kd.C (Kd.int .i64) w A0 l0.length l0) (hc0 : l0.length ≤ c0) (h : vec_Scale.f l0 a1 = some r) :
    Calls Try.prog 43 #[.slice A0 l0.length c0, .int .i64 a1] w fun e w' => ∃ v0_ : Value, e = .returned (v0_) ∧ Kd.R (Kd.int .i64) 3 w' w.heap.size (fun _ => True) v0_ r ∧ Below w.heap.size w w' := by
  have hmf : ∀ (fn : Fn) (first cap : Array Value) (w : World), (Instr.makeFunc fn first cap).run Try.prog w = .ok (.func fn first cap) w := fun _ _ _ _ => rfl
  unfold vec_Scale.f at h
  by_cases hl : l0.length < 17592186044416
  · rw [if_pos hl] at h
    simp only [Option.some.injEq] at h
    subst h
    have HL := Aside0.mk hl
    have HR0 := Aside0.mk hr0
    have HC0 := Aside0.mk hc0
    clear hl hr0 hc0
    go_enter Try.func43, Try.ntmps43
    go_wp2_with (go_at_call 62; refine (each_calls 65 Try.func65 rfl rfl #[.pointer (some ⟨w.heap.size, 0, none⟩)] (fun _ x => mulI x a1) _ _ l0 _ ?s1 HC0.out HL.out ?s2).mono ?_; (case s1 => exact Kd.C_alloc HR0.out _); (case s2 => (intro i W hi hb; refine (vec_Scale_1.calls (i : Int) (rd l0 i) a1 w.heap.size W ?_); exact ((hb.cell (p := ⟨w.heap.size, 0, none⟩) (by simp)).trans (by rw [World.cell?_alloc_at _ _ _ _ rfl]; rfl)))); rintro e w1 ⟨v, rfl, ho, hb⟩; have HO := Aside0.mk ho; have HB := Aside0.mk hb; clear ho hb)
    go_ret
    exact ⟨_, rfl, Kd.R_lower HO.out (by simp), (below_alloc (Below.refl _ _) _).trans (HB.out.mono (by simp))⟩
  · rw [if_neg hl] at h
    cases h

end Go.Proofs.Ytlicglgogklnkaa.Pr
