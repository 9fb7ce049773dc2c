-- Laid by wip/xprint.py, a program of this session that runs the kit's print with some contracts given by hand; not a text of print.sh. Lean checks it.
import Derived.Test.YtglcmnhaoeohdaaPr0
import Derived.Test.YtglcmnhaoeohdaaPr1
namespace Go.Proofs.Ytglcmnhaoeohdaa.Pr
open Go.RowKit Go.Proofs.YtglcmnhaoeohdaaW.PrintWords Go.Proofs.YtglcmnhaoeohdaaW.PrintLast Go.Proofs.YtglcmnhaoeohdaaW.PrintMore
attribute [local go_sem] max2_int min2_int max_two min_two max_three min_three max_four min_four   -- for this text's walks alone
set_option linter.unusedVariables false
set_option linter.unusedSimpArgs false

attribute [local go_sem high] eqA25
/-! ### slots_Assign: function 8 (given by hand) -/
/-- The slot of a part; the parts given behind it. -/
def slotOne (e c : Int) (g : Int → Int) (x : Int) : Int := if x < 0 then -1 else if x ≥ e then -1 else if g x ≥ c then -1 else g x
def slotUp (e c : Int) (g : Int → Int) (x : Int) : Int → Int := if x < 0 then g else if x ≥ e then g else if g x ≥ c then g else fun y => if y = x then g x + 1 else g y
def assignL (e c : Int) : (Int → Int) → List S25 → List S25
  | _, [] => []
  | g, p :: r => (⟨slotOne e c g p.f0, slotOne e c (slotUp e c g p.f0) p.f1⟩ : S25) :: assignL e c (slotUp e c (slotUp e c g p.f0) p.f1) r
def assignG (e c : Int) : (Int → Int) → List S25 → (Int → Int)
  | g, [] => g
  | g, p :: r => assignG e c (slotUp e c (slotUp e c g p.f0) p.f1) r
theorem assignL_snoc (e c : Int) (p : S25) : ∀ (l : List S25) (g : Int → Int), assignL e c g (l ++ [p]) = assignL e c g l ++ [(⟨slotOne e c (assignG e c g l) p.f0, slotOne e c (slotUp e c (assignG e c g l) p.f0) p.f1⟩ : S25)]
  | [], g => rfl
  | q :: r, g => by simp only [List.cons_append, assignL, assignG, assignL_snoc e c p r]
theorem assignG_snoc (e c : Int) (p : S25) : ∀ (l : List S25) (g : Int → Int), assignG e c g (l ++ [p]) = slotUp e c (slotUp e c (assignG e c g l) p.f0) p.f1
  | [], g => rfl
  | q :: r, g => by simp only [List.cons_append, assignG, assignG_snoc e c p r]
theorem assignL_length (e c : Int) : ∀ (l : List S25) (g : Int → Int), (assignL e c g l).length = l.length
  | [], g => rfl
  | q :: r, g => by simp only [assignL, List.length_cons, assignL_length e c r]
theorem slotUp_range (e c : Int) {g : Int → Int} {n : Int} (h : ∀ y, 0 ≤ g y ∧ g y ≤ n) (x y : Int) : 0 ≤ slotUp e c g x y ∧ slotUp e c g x y ≤ n + 1 := by
  have h1 := h x
  have h2 := h y
  unfold slotUp
  split
  · omega
  · split
    · omega
    · split
      · omega
      · dsimp only; split <;> omega
theorem assignG_range (e c : Int) : ∀ (l : List S25) (g : Int → Int) (n : Int), (∀ y, 0 ≤ g y ∧ g y ≤ n) → ∀ y, 0 ≤ assignG e c g l y ∧ assignG e c g l y ≤ n + 2 * l.length
  | [], g, n, h, y => by have := h y; simp only [assignG, List.length_nil]; omega
  | q :: r, g, n, h, y => by
    have := assignG_range e c r _ _ (fun y => slotUp_range e c (fun y => slotUp_range e c h q.f0 y) q.f1 y) y
    simp only [assignG, List.length_cons]
    omega
/-- Block b of w is a map of at most n entries that tells g x for x. -/
def MapIs (w : World) (b n : Nat) (g : Int → Int) : Prop := ∃ D : DataW Unit, w.ownsMap Try.prog 3 (plainElem Try.prog 3) b n D ∧ Maps.IsMap D ∧ ∀ x, (Lit.int .i64 x).wf = true → D.atKey (.int .i64 x) (.lit (.int .i64 0)) = .lit (.int .i64 (g x))
theorem MapIs.made (w : World) : MapIs (w.alloc (.map #[] 0)) w.heap.size 0 (fun _ => 0) := ⟨.map [], World.ownsMap_made _ _ _ _, Maps.isMap_empty, fun x _ => rfl⟩
theorem MapIs.kept {w w' : World} {b n : Nat} {g : Int → Int} {row : Option Nat} (h : MapIs w b n g) (hg : w.grownBy w' row) (hne : some b ≠ row) : MapIs w' b n g := by
  obtain ⟨D, h1, h2⟩ := h
  exact ⟨D, h1.kept hg hne, h2⟩
theorem MapIs.below {w w' : World} {b n : Nat} {g : Int → Int} (h : MapIs w b n g) (hb : Below w.heap.size w w') : MapIs w' b n g := h.kept (grown_of_below hb none) (by simp)
theorem MapIs.alloc {w : World} {b n : Nat} {g : Int → Int} (h : MapIs w b n g) (o : Obj) : MapIs (w.alloc o) b n g := h.below (below_alloc (Below.refl _ _) o)
theorem MapIs.mono {w : World} {b n m : Nat} {g : Int → Int} (h : MapIs w b n g) (hm : n ≤ m) : MapIs w b m g := by
  obtain ⟨D, h1, h2⟩ := h
  exact ⟨D, h1.mono hm, h2⟩
theorem MapIs.lt {w : World} {b n : Nat} {g : Int → Int} (h : MapIs w b n g) : b < w.heap.size := by
  obtain ⟨D, h1, _⟩ := h
  exact h1.lt
theorem MapIs.far {w : World} {b n : Nat} {g : Int → Int} (h : MapIs w b n g) {p : Addr} (hne : b ≠ p.block) (u : Value) : MapIs (w.setCell p u) b n g := by
  obtain ⟨D, ⟨es, clock, hb, h1⟩, h2⟩ := h
  exact ⟨D, ⟨es, clock, (Below.heap_setCell w p u b hne).trans hb, h1⟩, h2⟩
theorem mapZero (w : World) : (zeroValue 3).run Try.prog w = .ok (.int .i64 0) w := by kernel_rfl
theorem MapIs.lookup {w : World} {b n : Nat} {g : Int → Int} (h : MapIs w b n g) {x : Int} (hx : (Lit.int .i64 x).wf = true) : (Instr.lookup 30 (.map (some b)) (.int .i64 x) false).run Try.prog w = .ok (.int .i64 (g x)) w := by
  obtain ⟨D, h1, _, h3⟩ := h
  obtain ⟨c, hrun, hat, _⟩ := h1.lookup_int (Maps.int_keyed Try.underlying3) Try.underlying30 Try.underlying3 (mapZero w) (Maps.keyOf_int_mk Try.underlying3 hx)
  rw [h3 x hx] at hat
  obtain rfl : g x = c := by injection hat with h; injection h
  exact hrun
theorem MapIs.update {w : World} {b n : Nat} {g : Int → Int} (h : MapIs w b n g) (hn : n < maxLen) {x v : Int} (hx : (Lit.int .i64 x).wf = true) (hv : (Lit.int .i64 v).wf = true) : ∃ w', (Instr.mapUpdate 30 (.map (some b)) (.int .i64 x) (.int .i64 v)).run Try.prog w = .ok () w' ∧ MapIs w' b (n + 1) (fun y => if y = x then v else g y) ∧ w.grownBy w' (some b) := by
  obtain ⟨D, h1, h2, h3⟩ := h
  obtain ⟨w', hrun, ho, hg⟩ := h1.update (Maps.int_keyed Try.underlying3) Try.underlying30 hn (Maps.keyOf_int_mk Try.underlying3 hx) (plainElem_int Try.underlying3 hv)
  refine ⟨w', hrun, ⟨_, ho, h2.put _ _, fun y hy => ?_⟩, hg⟩
  by_cases e : y = x
  · subst e
    rw [Maps.atKey_put_same h2 (by trivial)]
    simp
  · rw [Maps.atKey_put_other (by intro e'; injection e' with _ e'; exact e e'), h3 y hy]
    simp [e]
def slots_Assign.f (l0 : List S25) (a1 : Int) (a2 : Int) : Option (List S25) := if a1 ≤ 9223372036854775807 ∧ l0.length < 8796093022208 then some (assignL a1 a2 (fun _ => 0) l0) else none
theorem slotOne_no {e c : Int} {g : Int → Int} {x : Int} (h : x < 0 ∨ x ≥ e ∨ g x ≥ c) : slotOne e c g x = -1 ∧ slotUp e c g x = g := by
  unfold slotOne slotUp
  by_cases h1 : x < 0
  · rw [if_pos h1, if_pos h1]; exact ⟨rfl, rfl⟩
  rw [if_neg h1, if_neg h1]
  by_cases h2 : x ≥ e
  · rw [if_pos h2, if_pos h2]; exact ⟨rfl, rfl⟩
  rw [if_neg h2, if_neg h2]
  by_cases h3 : g x ≥ c
  · rw [if_pos h3, if_pos h3]; exact ⟨rfl, rfl⟩
  · omega
theorem slotOne_yes {e c : Int} {g : Int → Int} {x : Int} (h1 : ¬ x < 0) (h2 : ¬ x ≥ e) (h3 : ¬ g x ≥ c) : slotOne e c g x = g x ∧ slotUp e c g x = (fun y => if y = x then g x + 1 else g y) := by
  unfold slotOne slotUp
  rw [if_neg h1, if_neg h2, if_neg h3, if_neg h1, if_neg h2, if_neg h3]
  exact ⟨rfl, rfl⟩
theorem infoAssign : (Try.prog.info? 25).map (fun i => (i.zero, i.size, i.bytes)) = some (some (.agg #[.int .i64 0, .int .i64 0]), 2, 16) := by kernel_rfl
set_option maxHeartbeats 8000000 in
set_option maxRecDepth 100000 in
theorem slots_Assign.calls (A0 : Option Addr) (c0 : Nat) (l0 : List S25) (a1 : Int) (a2 : Int) (r : List S25) (w : World) (hr0 : Kd.C k25 w A0 l0.length l0) (hc0 : l0.length ≤ c0) (h : slots_Assign.f l0 a1 a2 = some r) :
    Calls Try.prog 8 #[.slice A0 l0.length c0, .int .i64 a1, .int .i64 a2] w fun e w' => ∃ v0_ : Value, e = .returned (v0_) ∧ Kd.R k25 25 w' w.heap.size (fun _ => True) v0_ r ∧ Below w.heap.size w w' := by
  unfold slots_Assign.f at h
  by_cases hA : a1 ≤ 9223372036854775807 ∧ l0.length < 8796093022208
  case neg => rw [if_neg hA] at h; cases h
  rw [if_pos hA] at h
  obtain rfl := Option.some.inj h
  have HR := Aside0.mk hr0
  have HC := Aside0.mk hc0
  have HA := Aside0.mk hA
  have hmax : l0.length ≤ 9223372036854775807 := by omega
  clear hr0 hc0 h hA
  have hmm := @run_makeMap Try.prog
  have hu := Try.underlying30
  have hu2 := Try.underlying25
  go_enter Try.func8, Try.ntmps8
  go_wp2
  go_loopw [8, 17] (fun v8 v17 W => ∃ k : Nat, Aside0 (k ≤ l0.length) ∧ v17 = .int .i64 (k : Int) ∧ Aside0 (Kd.R k25 25 W w.heap.size (fun b => b ≠ w.heap.size) v8 (assignL a1 a2 (fun _ => 0) (l0.take k))) ∧ Aside0 (MapIs W w.heap.size (2 * k) (assignG a1 a2 (fun _ => 0) (l0.take k))) ∧ Aside0 (Below w.heap.size w W)) (fun _ v17 _ => l0.length - (intOf v17).toNat)
  case atStart => exact ⟨0, ⟨Nat.zero_le _⟩, rfl, ⟨Kd.R_nil _ _ _ _ _⟩, ⟨MapIs.made w⟩, ⟨below_alloc (Below.refl _ _) _⟩⟩
  case round =>
    obtain ⟨k, HK, rfl, HO, HM, HB⟩ := hrel
    obtain ⟨wo, rfl⟩ : ∃ wo : World, wo = wr := ⟨_, rfl⟩
    by_cases hlt : k < l0.length
    · obtain ⟨ad, hAd, hx0, hx1⟩ := at_T25 HR.out (k : Int) (by omega) (by omega)
      cases hAd
      have hget : rd_T25 l0 (k : Int) = l0[k] := by
        unfold rd_T25
        rw [Int.toNat_natCast, List.getD_eq_getElem?_getD, List.getElem?_eq_getElem hlt]
        rfl
      have hts : l0.take (k + 1) = l0.take k ++ [l0[k]] := List.take_succ_eq_append_getElem hlt
      rw [hget, Int.toNat_natCast] at hx0 hx1
      replace hx0 := (HB.out.cell (World.block_lt_of_cell? w _ hx0)).trans hx0
      replace hx1 := (HB.out.cell (World.block_lt_of_cell? w _ hx1)).trans hx1
      have hgr := assignG_range a1 a2 (l0.take k) (fun _ => 0) 0 (fun _ => ⟨Int.le_refl _, Int.le_refl _⟩)
      have hlk : (l0.take k).length = k := by rw [List.length_take]; omega
      have hll : (assignL a1 a2 (fun _ => 0) (l0.take k)).length = k := by rw [assignL_length, hlk]
      have hsL := assignL_snoc a1 a2 l0[k] (l0.take k) (fun _ => 0)
      have hsG := assignG_snoc a1 a2 l0[k] (l0.take k) (fun _ => 0)
      rw [← hts] at hsL hsG
      rw [hlk] at hgr
      obtain ⟨p, hp⟩ : ∃ p, p = l0[k] := ⟨_, rfl⟩
      obtain ⟨g, hg⟩ : ∃ g, g = assignG a1 a2 (fun _ => 0) (l0.take k) := ⟨_, rfl⟩
      obtain ⟨o, ho⟩ : ∃ o, o = assignL a1 a2 (fun _ => 0) (l0.take k) := ⟨_, rfl⟩
      rw [← hp] at hx0 hx1
      rw [← hp, ← hg, ← ho] at hsL
      rw [← hp, ← hg] at hsG
      rw [← hg] at hgr HM
      rw [← ho] at HO hll
      have HSL := Aside0.mk hsL
      have HSG := Aside0.mk hsG
      have HGR : Aside0 (∀ y, 0 ≤ g y ∧ g y ≤ 2 * (k : Int)) := ⟨fun y => by have := hgr y; omega⟩
      have HLL := Aside0.mk hll
      have hc : decide (k < l0.length) = true := decide_eq_true hlt
      have HK2 : Aside0 (2 * k + 2 < maxLen) := ⟨by have := HA.out.2; unfold maxLen; omega⟩
      clear hget hts hgr hlk hll hsL hsG hp hg ho
      obtain ⟨p0, p1⟩ := p
      dsimp only at hx0 hx1 HSL HSG
      go_wp2
      have HGM : Aside0 (w.heap.size < wo.heap.size) := ⟨HM.out.lt⟩
      go_loopw [23] (fun v23 W => ∃ j : Int, Aside0 (j = 0 ∨ j = 1 ∨ j = 2) ∧ v23 = .int .i64 j ∧ Aside0 (W.heap[wo.heap.size + 1]? = some (.cells #[.int .i64 (if j = 0 then -1 else slotOne a1 a2 g p0), .int .i64 (if j = 2 then slotOne a1 a2 (slotUp a1 a2 g p0) p1 else -1)] 25 (0, 0))) ∧ Aside0 (MapIs W w.heap.size (2 * k + j.toNat) (if j = 0 then g else if j = 1 then slotUp a1 a2 g p0 else slotUp a1 a2 (slotUp a1 a2 g p0) p1)) ∧ Aside0 (Kd.R k25 25 W w.heap.size (fun b => b ≠ w.heap.size ∧ b ≠ wo.heap.size + 1) u8 o) ∧ Aside0 (Below w.heap.size w W)) (fun v23 _ => 2 - (intOf v23).toNat)
      case atStart => exact ⟨0, ⟨.inl rfl⟩, rfl, ⟨by have h_ := heap_alloc_new (wo.alloc (.cells #[.int .i64 p0, .int .i64 p1] 25)) (.cells #[.int .i64 (-1), .int .i64 (-1)] 25); simpa using h_⟩, ⟨(HM.out.alloc _).alloc _⟩, ⟨Kd.R_alloc (Kd.R_alloc (Kd.R_elderB HO.out (wo.heap.size + 1) (by omega)) _) _⟩, ⟨below_alloc (below_alloc HB.out _) _⟩⟩
      case round =>
        obtain ⟨j, HJ, rfl, HS, HM2, HO2, HB2⟩ := hrel
        rcases HJ.out with rfl | rfl | rfl
        · have i0 : ∀ W : World, (Instr.index 25 (.agg #[.int .i64 p0, .int .i64 p1]) (.int .i64 0)).run Try.prog W = .ok (.int .i64 p0) W := fun _ => by kernel_rfl
          have hS := HS.out
          have hM := HM2.out
          rw [if_pos rfl, if_neg (by decide)] at hS
          rw [if_pos rfl] at hM
          obtain ⟨g1, hg1⟩ : ∃ g1, g1 = g := ⟨_, rfl⟩
          have hgr : ∀ y, 0 ≤ g1 y ∧ g1 y ≤ 2 * (k : Int) + 1 := fun y => by have := HGR.out y; rw [hg1]; omega
          rw [← hg1] at hM
          obtain ⟨s0, hs0⟩ : ∃ s0 : Int, s0 = -1 := ⟨_, rfl⟩
          have HS1 := Aside0.mk hS
          have HM1 := Aside0.mk hM
          have HG1 := Aside0.mk hg1
          have HS0 := Aside0.mk hs0
          have hq0 : wr.cell? ⟨wo.heap.size + 1, 0, none⟩ = some (.int .i64 (-1)) := (blk_cell hS 0).trans rfl
          have hf0 : wr.frozen? ⟨wo.heap.size + 1, 0, none⟩ = false := blk_frozen hS 0
          have hgx := hgr p0
          clear hS hM HS HM2 HJ hg1 hs0 hgr
          by_cases h1 : p0 < 0
          · have hno := slotOne_no (e := a1) (c := a2) (g := g1) (x := p0) (.inl h1)
            have NO := Aside0.mk hno
            have c1 : decide (p0 < 0) = true := decide_eq_true h1
            clear hno
            go_wp2
            go_roundw
            case rel => exact ⟨1, ⟨by omega⟩, rfl, ⟨by rw [if_neg (by decide), if_neg (by decide), ← HG1.out, NO.out.1]; exact HS1.out⟩, ⟨by rw [if_neg (by decide), if_pos rfl, ← HG1.out, NO.out.2]; exact HM1.out.mono (show 2 * k + 0 ≤ 2 * k + 1 by omega)⟩, HO2, HB2⟩
            case measure => simp [intOf]
          have c1 : decide (p0 < 0) = false := decide_eq_false h1
          by_cases h2 : p0 ≥ a1
          · have hno := slotOne_no (e := a1) (c := a2) (g := g1) (x := p0) (.inr (.inl h2))
            have NO := Aside0.mk hno
            have c2 : decide (a1 ≤ p0) = true := decide_eq_true h2
            clear hno
            go_wp2
            go_roundw
            case rel => exact ⟨1, ⟨by omega⟩, rfl, ⟨by rw [if_neg (by decide), if_neg (by decide), ← HG1.out, NO.out.1]; exact HS1.out⟩, ⟨by rw [if_neg (by decide), if_pos rfl, ← HG1.out, NO.out.2]; exact HM1.out.mono (show 2 * k + 0 ≤ 2 * k + 1 by omega)⟩, HO2, HB2⟩
            case measure => simp [intOf]
          have c2 : decide (a1 ≤ p0) = false := decide_eq_false h2
          have hwf : (Lit.int .i64 p0).wf = true := WalkArith.wf_i64 (by have := HA.out.1; omega)
          have hl := HM1.out.lookup hwf
          by_cases h3 : g1 p0 ≥ a2
          · have hno := slotOne_no (e := a1) (c := a2) (g := g1) (x := p0) (.inr (.inr h3))
            have NO := Aside0.mk hno
            have c3 : decide (a2 ≤ g1 p0) = true := decide_eq_true h3
            clear hno
            go_wp2
            go_roundw
            case rel => exact ⟨1, ⟨by omega⟩, rfl, ⟨by rw [if_neg (by decide), if_neg (by decide), ← HG1.out, NO.out.1]; exact HS1.out⟩, ⟨by rw [if_neg (by decide), if_pos rfl, ← HG1.out, NO.out.2]; exact HM1.out.mono (show 2 * k + 0 ≤ 2 * k + 1 by omega)⟩, HO2, HB2⟩
            case measure => simp [intOf]
          have c3 : decide (a2 ≤ g1 p0) = false := decide_eq_false h3
          have hyes := slotOne_yes (e := a1) (c := a2) (g := g1) (x := p0) h1 h2 h3
          have YES := Aside0.mk hyes
          have hM4 := HM1.out.far (p := ⟨wo.heap.size + 1, 0, none⟩) (by have := HGM.out; show w.heap.size ≠ wo.heap.size + 1; omega) (.int .i64 (g1 p0))
          have hl2 := hM4.lookup hwf
          obtain ⟨w2, hrun, hM5, hgw⟩ := hM4.update (v := g1 p0 + 1) (by have := HK2.out; omega) hwf (WalkArith.wf_i64 (by have := HK2.out; unfold maxLen at this; omega))
          have HM5 := Aside0.mk hM5
          have HGW := Aside0.mk hgw
          have hk60 : 2 * (k : Int) + 2 < 9223372036854775807 := by have := HK2.out; unfold maxLen at this; omega
          clear hyes hM4 hM5 hgw
          go_wp2
          go_roundw
          case rel => exact ⟨1, ⟨by omega⟩, rfl, ⟨by rw [if_neg (by decide), if_neg (by decide), ← HG1.out, YES.out.1]; exact blk_grown (blk_set HS1.out 0 (.int .i64 (g1 p0))) HGW.out (fun e_ => by have := HGM.out; injection e_ with e_; omega)⟩, ⟨by rw [if_neg (by decide), if_pos rfl, ← HG1.out, YES.out.2]; exact HM5.out⟩, ⟨Kd.R_grown (Kd.R_far HO2.out (p := ⟨wo.heap.size + 1, 0, none⟩) (fun b hb => hb.2) _) HGW.out (fun b hb e_ => hb.1 (Option.some.inj e_))⟩, ⟨(HB2.out.setCell (by have := HGM.out; show w.heap.size ≤ wo.heap.size + 1; omega) _).grown HGW.out (Nat.le_of_lt (by have := HM1.out.lt; simp; omega)) (fun _ e_ => by injection e_ with e_; omega)⟩⟩
          case measure => simp [intOf]
        · have i0 : ∀ W : World, (Instr.index 25 (.agg #[.int .i64 p0, .int .i64 p1]) (.int .i64 1)).run Try.prog W = .ok (.int .i64 p1) W := fun _ => by kernel_rfl
          have hS := HS.out
          have hM := HM2.out
          rw [if_neg (by decide), if_neg (by decide)] at hS
          rw [if_neg (by decide), if_pos rfl] at hM
          obtain ⟨g1, hg1⟩ : ∃ g1, g1 = slotUp a1 a2 g p0 := ⟨_, rfl⟩
          have hgr : ∀ y, 0 ≤ g1 y ∧ g1 y ≤ 2 * (k : Int) + 1 := fun y => by rw [hg1]; exact slotUp_range a1 a2 HGR.out p0 y
          rw [← hg1] at hM
          obtain ⟨s0, hs0⟩ : ∃ s0 : Int, s0 = slotOne a1 a2 g p0 := ⟨_, rfl⟩
          rw [← hs0] at hS
          have HS1 := Aside0.mk hS
          have HM1 := Aside0.mk hM
          have HG1 := Aside0.mk hg1
          have HS0 := Aside0.mk hs0
          have hq0 : wr.cell? ⟨wo.heap.size + 1, 1, none⟩ = some (.int .i64 (-1)) := (blk_cell hS 1).trans rfl
          have hf0 : wr.frozen? ⟨wo.heap.size + 1, 1, none⟩ = false := blk_frozen hS 1
          have hgx := hgr p1
          clear hS hM HS HM2 HJ hg1 hs0 hgr
          by_cases h1 : p1 < 0
          · have hno := slotOne_no (e := a1) (c := a2) (g := g1) (x := p1) (.inl h1)
            have NO := Aside0.mk hno
            have c1 : decide (p1 < 0) = true := decide_eq_true h1
            clear hno
            go_wp2
            go_roundw
            case rel => exact ⟨2, ⟨by omega⟩, rfl, ⟨by rw [if_neg (by decide), if_pos rfl, ← HS0.out, ← HG1.out, NO.out.1]; exact HS1.out⟩, ⟨by rw [if_neg (by decide), if_neg (by decide), ← HG1.out, NO.out.2]; exact HM1.out.mono (show 2 * k + 1 ≤ 2 * k + 2 by omega)⟩, HO2, HB2⟩
            case measure => simp [intOf]
          have c1 : decide (p1 < 0) = false := decide_eq_false h1
          by_cases h2 : p1 ≥ a1
          · have hno := slotOne_no (e := a1) (c := a2) (g := g1) (x := p1) (.inr (.inl h2))
            have NO := Aside0.mk hno
            have c2 : decide (a1 ≤ p1) = true := decide_eq_true h2
            clear hno
            go_wp2
            go_roundw
            case rel => exact ⟨2, ⟨by omega⟩, rfl, ⟨by rw [if_neg (by decide), if_pos rfl, ← HS0.out, ← HG1.out, NO.out.1]; exact HS1.out⟩, ⟨by rw [if_neg (by decide), if_neg (by decide), ← HG1.out, NO.out.2]; exact HM1.out.mono (show 2 * k + 1 ≤ 2 * k + 2 by omega)⟩, HO2, HB2⟩
            case measure => simp [intOf]
          have c2 : decide (a1 ≤ p1) = false := decide_eq_false h2
          have hwf : (Lit.int .i64 p1).wf = true := WalkArith.wf_i64 (by have := HA.out.1; omega)
          have hl := HM1.out.lookup hwf
          by_cases h3 : g1 p1 ≥ a2
          · have hno := slotOne_no (e := a1) (c := a2) (g := g1) (x := p1) (.inr (.inr h3))
            have NO := Aside0.mk hno
            have c3 : decide (a2 ≤ g1 p1) = true := decide_eq_true h3
            clear hno
            go_wp2
            go_roundw
            case rel => exact ⟨2, ⟨by omega⟩, rfl, ⟨by rw [if_neg (by decide), if_pos rfl, ← HS0.out, ← HG1.out, NO.out.1]; exact HS1.out⟩, ⟨by rw [if_neg (by decide), if_neg (by decide), ← HG1.out, NO.out.2]; exact HM1.out.mono (show 2 * k + 1 ≤ 2 * k + 2 by omega)⟩, HO2, HB2⟩
            case measure => simp [intOf]
          have c3 : decide (a2 ≤ g1 p1) = false := decide_eq_false h3
          have hyes := slotOne_yes (e := a1) (c := a2) (g := g1) (x := p1) h1 h2 h3
          have YES := Aside0.mk hyes
          have hM4 := HM1.out.far (p := ⟨wo.heap.size + 1, 1, none⟩) (by have := HGM.out; show w.heap.size ≠ wo.heap.size + 1; omega) (.int .i64 (g1 p1))
          have hl2 := hM4.lookup hwf
          obtain ⟨w2, hrun, hM5, hgw⟩ := hM4.update (v := g1 p1 + 1) (by have := HK2.out; have e_ : Int.toNat 1 = 1 := rfl; omega) hwf (WalkArith.wf_i64 (by have := HK2.out; unfold maxLen at this; omega))
          have HM5 := Aside0.mk hM5
          have HGW := Aside0.mk hgw
          have hk60 : 2 * (k : Int) + 2 < 9223372036854775807 := by have := HK2.out; unfold maxLen at this; omega
          clear hyes hM4 hM5 hgw
          go_wp2
          go_roundw
          case rel => exact ⟨2, ⟨by omega⟩, rfl, ⟨by rw [if_neg (by decide), if_pos rfl, ← HS0.out, ← HG1.out, YES.out.1]; exact blk_grown (blk_set HS1.out 1 (.int .i64 (g1 p1))) HGW.out (fun e_ => by have := HGM.out; injection e_ with e_; omega)⟩, ⟨by rw [if_neg (by decide), if_neg (by decide), ← HG1.out, YES.out.2]; exact HM5.out⟩, ⟨Kd.R_grown (Kd.R_far HO2.out (p := ⟨wo.heap.size + 1, 1, none⟩) (fun b hb => hb.2) _) HGW.out (fun b hb e_ => hb.1 (Option.some.inj e_))⟩, ⟨(HB2.out.setCell (by have := HGM.out; show w.heap.size ≤ wo.heap.size + 1; omega) _).grown HGW.out (Nat.le_of_lt (by have := HM1.out.lt; simp; omega)) (fun _ e_ => by injection e_ with e_; omega)⟩⟩
          case measure => simp [intOf]
        · obtain ⟨s0, hs0⟩ : ∃ s, s = slotOne a1 a2 g p0 := ⟨_, rfl⟩
          obtain ⟨s1, hs1⟩ : ∃ s, s = slotOne a1 a2 (slotUp a1 a2 g p0) p1 := ⟨_, rfl⟩
          have hS := HS.out
          rw [if_neg (by decide), if_pos rfl, ← hs0, ← hs1] at hS
          have hsL := HSL.out
          rw [← hs0, ← hs1] at hsL
          have hM := HM2.out
          rw [if_neg (by decide), if_neg (by decide), ← HSG.out] at hM
          have HSL2 := Aside0.mk hsL
          have HM3 := Aside0.mk hM
          have hq0 : wr.cell? ⟨wo.heap.size + 1, 0, none⟩ = some (.int .i64 s0) := (blk_cell hS 0).trans rfl
          have hq1 : wr.cell? ⟨wo.heap.size + 1, 1, none⟩ = some (.int .i64 s1) := (blk_cell hS 1).trans rfl
          clear hS hsL hM hs0 hs1 HSL HS HM2 HJ
          go_wp2_with ((with_reducible refine gate_builtin (b := .append) (xs := #[.tmp 51, .tmp 53]) rfl ?_); at_builtin; refine Kd.R_append k25 (w0 := w) w.heap.size rfl (.tmp 51) (.tmp 53) 22 25 (.agg #[.int .i64 0, .int .i64 0]) 16 rfl Try.underlying22 infoAssign rfl (by decide) (by omega) u8 o (⟨s0, s1⟩ : S25) [.int .i64 s0, .int .i64 s1] (fun b => b ≠ w.heap.size) (fun _ => False) rfl rfl ?aP (fun _ hk => hk.elim) ?aF ?aO ?aB ?aS ?aL ?_; (case aP => exact k25_mkM _ _ _ (⟨s0, s1⟩ : S25)); (case aB => exact HB2.out); (case aF => exact (fun b hb => by have := HM3.out.lt; omega)); (case aO => exact Kd.R_mono HO2.out (fun b hb => hb.1)); (case aS => exact HB2.out.size); (case aL => have := HLL.out; have := HA.out.2; omega); intro v1 w1 ho hb hg hat; have HO3 := Aside0.mk ho; have HB3 := Aside0.mk hb; have HM4 := Aside0.mk (HM3.out.kept hg (fun e_ => HO2.out.1 _ e_.symm |>.1 rfl)); clear ho hb hg hat)
          go_roundw
          case rel => exact ⟨k + 1, ⟨by omega⟩, by go_num, ⟨by rw [HSL2.out]; exact HO3.out⟩, HM4, HB3⟩
          case measure => simp [intOf]; omega
    · have hc : decide (k < l0.length) = false := decide_eq_false hlt
      have hk : k = l0.length := by have := HK.out; omega
      have HN : Aside0 (Kd.R k25 25 wo w.heap.size (fun _ => True) u8 (assignL a1 a2 (fun _ => 0) l0)) := ⟨by have := HO.out; rw [hk, List.take_length] at this; exact Kd.R_mono this (fun _ _ => trivial)⟩
      clear hk
      go_wp2
      go_ret
      exact ⟨_, rfl, HN.out, HB.out⟩

/-! ### switchboardlaw14_awake: function 7 -/
def switchboardlaw14_awake.f  : Option (Bool) := (slots_Assign.f (([(⟨0, 1⟩ : S25), (⟨0, 1⟩ : S25)] : List (S25))) 2 1).bind fun t104 => (if (t104.length : Int) = 2 then (if 0 < (t104.length : Int) then (if (((rd_T25 t104 0).f0) == 0 && (((rd_T25 t104 0).f1) == 0)) = true then (if 1 < (t104.length : Int) then (some (((rd_T25 t104 1).f0) == (-1) && (((rd_T25 t104 1).f1) == (-1)))) else (none)) else (some false)) else (none)) else (some false))
set_option maxHeartbeats 8000000 in
set_option maxRecDepth 100000 in
theorem switchboardlaw14_awake.calls  (r : Bool) (w : World) (h : switchboardlaw14_awake.f  = some r) :
    Calls Try.prog 7 #[] w fun e w' => e = .returned (.bool r) ∧ Below w.heap.size w w' := by
  have hu25 := Try.underlying25
  have HB := Aside0.mk (Below.refl w.heap.size w)
  have H : ((slots_Assign.f (([(⟨0, 1⟩ : S25), (⟨0, 1⟩ : S25)] : List (S25))) 2 1).bind fun t104 => (if (t104.length : Int) = 2 then (if 0 < (t104.length : Int) then (if (((rd_T25 t104 0).f0) == 0 && (((rd_T25 t104 0).f1) == 0)) = true then (if 1 < (t104.length : Int) then (some (((rd_T25 t104 1).f0) == (-1) && (((rd_T25 t104 1).f1) == (-1)))) else (none)) else (some false)) else (none)) else (some false))) = some r := h
  clear h
  obtain ⟨y101, hy101⟩ : ∃ y_ : List (S25), y_ = (([(⟨0, 1⟩ : S25), (⟨0, 1⟩ : S25)] : List (S25))) := ⟨_, rfl⟩
  replace H : ((slots_Assign.f y101 2 1).bind fun t104 => (if (t104.length : Int) = 2 then (if 0 < (t104.length : Int) then (if (((rd_T25 t104 0).f0) == 0 && (((rd_T25 t104 0).f1) == 0)) = true then (if 1 < (t104.length : Int) then (some (((rd_T25 t104 1).f0) == (-1) && (((rd_T25 t104 1).f1) == (-1)))) else (none)) else (some false)) else (none)) else (some false))) = some r := by first | (rw [hy101]; with_reducible exact H) | (have H2_ := (Option.bind_some _ _).symm.trans H; rw [hy101]; with_reducible exact H2_) | (have H2_ := (Option.bind_some _ _).symm.trans H; with_reducible exact H2_) | with_reducible exact H | (rw [hy101]; exact H) | exact H
  have Ny101 := Aside0.mk hy101
  clear hy101
  replace H := Option.bind_eq_some_iff.mp H
  obtain ⟨t104, A10, H⟩ := H
  replace H : (if (t104.length : Int) = 2 then (if 0 < (t104.length : Int) then (if (((rd_T25 t104 0).f0) == 0 && (((rd_T25 t104 0).f1) == 0)) = true then (if 1 < (t104.length : Int) then (some (((rd_T25 t104 1).f0) == (-1) && (((rd_T25 t104 1).f1) == (-1)))) else (none)) else (some false)) else (none)) else (some false)) = some r := H
  have A1 := Aside0.mk A10
  clear A10
  by_cases c2 : (t104.length : Int) = 2
  · rw [if_pos c2] at H
    have c2b0 : ((t104.length : Int) == 2) = true := beq_iff_eq.mpr c2
    have c2b1 : ((t104.length : Int) != 2) = false := bne_eq_false_iff_eq.mpr c2
    clear c2
    by_cases c3 : 0 < (t104.length : Int)
    · rw [if_pos c3] at H
      have c3b0 : decide (0 < (t104.length : Int)) = true := decide_eq_true c3
      have c3b1 : decide (0 < t104.length) = true := decide_eq_true (by omega)
      clear c3
      by_cases c4 : (((rd_T25 t104 0).f0) == 0 && (((rd_T25 t104 0).f1) == 0)) = true
      · rw [if_pos c4] at H
        have c4b0 : (((rd_T25 t104 0).f0) == 0 && (((rd_T25 t104 0).f1) == 0)) = true := c4
        (try (have c4b1 : decide (((rd_T25 t104 0).f0) = 0 && (((rd_T25 t104 0).f1) == 0)) = true := by simpa using c4))
        (try (have c4b2 : (((rd_T25 t104 0).f0) == 0 && (((rd_T25 t104 0).f1) == 0)) = true := by simpa using c4))
        clear c4
        by_cases c5 : 1 < (t104.length : Int)
        · rw [if_pos c5] at H
          have c5b0 : decide (1 < (t104.length : Int)) = true := decide_eq_true c5
          have c5b1 : decide (1 < t104.length) = true := decide_eq_true (by omega)
          clear c5
          obtain rfl := Option.some.inj H
          go_enter Try.func7, Try.ntmps7
          go_wp2_with (first | ((with_reducible refine gate_dst (N := 4) rfl ?_); refine Kd.R_lit k25 _ 25 ?hg (N := 4) ?hd (xs := ([(⟨0, 1⟩ : S25), (⟨0, 1⟩ : S25)] : List (S25))) (inner := [.int .i64 0, .int .i64 1, .int .i64 0, .int .i64 1]) (ok := fun _ => True) (okp := fun _ => True) ?hr ?hp (fun _ hk => hk) trivial (Below.refl _ _) (Nat.le_refl _) (by simp) ?_; (case hd => rfl); (case hg => rfl); (case hr => first | (go_simp; done) | (go_simp; rfl)); (case hp => exact (Reps.c2 (show Kd.M k25 _ _ _ (⟨0, 1⟩ : S25) [.int .i64 0, .int .i64 1] from (k25_mkM _ _ _ (⟨0, 1⟩ : S25) )) (Reps.c2 (show Kd.M k25 _ _ _ (⟨0, 1⟩ : S25) [.int .i64 0, .int .i64 1] from (k25_mkM _ _ _ (⟨0, 1⟩ : S25) )) (Reps.none _ _)))); intro v102 w6 ho7 hb hg_ hnew_; clear hg_ hnew_; (first | rw [← Ny101.out] at ho7 | (simp only [Int.reduceToNat] at ho7; rw [← Ny101.out] at ho7)); have n0_ := Aside0.mk (Kd.R_lower ho7 (below_size (by repeat (first | (with_reducible first | exact HB.out | apply below_alloc | apply pw_below_drewN | apply below_drew1) | exact HB.out)))); have n1_ := Aside0.mk (below_step (by repeat (first | (with_reducible first | exact HB.out | apply below_alloc | apply pw_below_drewN | apply below_drew1) | exact HB.out)) hb); clear HB; have HO103 := n0_; have HB := n1_; clear n0_ n1_; clear hb ho7; obtain ⟨Ao8, co8, eo8⟩ := Kd.R_slice HO103.out; subst eo8) | ((with_reducible refine gate_callee (f := 8) rfl ?_); refine goesL_ (some 5) rfl rfl Try.func8 (by kernel_rfl) rfl #[.slice Ao8 y101.length co8, .int .i64 2, .int .i64 1] rfl (by (try simp only [List.map_toArray, List.map_cons, List.map_nil]); first | done | rfl | (simp only [List.length_drop, List.length_take]; rfl)) ?_; (with_reducible refine (slots_Assign.calls _ _ y101 2 1 t104 _ ?side1 ?side2 A1.out).mono ?_); (case side1 => repeat (first | exact (Kd.R_reads' HO103.out).2.2 | (with_reducible refine Kd.C_alloc ?_ _) | (with_reducible refine Kd.C_drewN ?_ _) | (with_reducible refine Kd.C_drew ?_))); (case side2 => exact (Kd.R_reads' HO103.out).2.1); rintro e w9 ⟨v105, rfl, ho0, hb⟩; refine ⟨_, rfl, ?_⟩; have n0_ := Aside0.mk (Kd.R_elder' (by (with_reducible repeat (first | apply Kd.R_alloc | apply Kd.R_drewN | apply Kd.R_drew)); exact HO103.out) (Kd.R_base ho0) hb); have n1_ := Aside0.mk (Kd.R_lower (Kd.R_new' ho0 (Kd.R_lt (by (with_reducible repeat (first | apply Kd.R_alloc | apply Kd.R_drewN | apply Kd.R_drew)); exact HO103.out))) (below_size (by repeat (first | (with_reducible first | exact HB.out | apply below_alloc | apply pw_below_drewN | apply below_drew1) | exact HB.out)))); have n2_ := Aside0.mk (below_step (by repeat (first | (with_reducible first | exact HB.out | apply below_alloc | apply pw_below_drewN | apply below_drew1) | exact HB.out)) hb); clear HO103; clear HB; have HO103 := n0_; have HO106 := n1_; have HB := n2_; clear n0_ n1_ n2_; (try clear hb); (try clear hb2); (try clear hk); (try clear hi); (try clear ho0); obtain ⟨Ao10, co10, eo10⟩ := Kd.R_slice HO106.out; subst eo10; have p107 : 0 ≤ (0 : Int) := (by omega); have q107 : 0 < (t104.length : Int) := of_decide_eq_true (by first | (with_reducible assumption) | assumption); obtain ⟨ad107, e107, hx107_0, hx107_1⟩ := at_T25 (Kd.R_reads' HO106.out).2.2 0 p107 q107; cases e107; have qi107 : (0 < t104.length) = True := eq_true (by omega); (try rw [show ((0 : Int)).toNat = 0 from rfl] at hx107_0); (try rw [show 0 * 2 = 0 from rfl] at hx107_0); (try rw [Addr.add_zero'] at hx107_0); (try rw [show ((0 : Int)).toNat = 0 from rfl] at hx107_1); (try rw [show 0 * 2 = 0 from rfl] at hx107_1); (try rw [Addr.add_zero'] at hx107_1); replace p107 := eq_true p107; replace q107 := eq_true q107; have p108 : 0 ≤ (1 : Int) := (by omega); have q108 : 1 < (t104.length : Int) := of_decide_eq_true (by first | (with_reducible assumption) | assumption); obtain ⟨ad108, e108, hx108_0, hx108_1⟩ := at_T25 (Kd.R_reads' HO106.out).2.2 1 p108 q108; obtain rfl : ad107 = ad108 := (by injection e108); (try simp only [show (1 : Int).toNat = 1 from rfl, Nat.reduceMul, Nat.reduceEqDiff, Go.Addr.add, ↓reduceIte] at hx108_0); (try simp only [show (1 : Int).toNat = 1 from rfl, Nat.reduceMul, Nat.reduceEqDiff, Go.Addr.add, ↓reduceIte] at hx108_1); have qi108 : (1 < t104.length) = True := eq_true (by omega); (try rw [show ((1 : Int)).toNat = 1 from rfl] at hx108_0); (try rw [show 1 * 2 = 2 from rfl] at hx108_0); (try rw [show ((1 : Int)).toNat = 1 from rfl] at hx108_1); (try rw [show 1 * 2 = 2 from rfl] at hx108_1); replace p108 := eq_true p108; replace q108 := eq_true q108))
          go_ret
          exact ⟨by first | rfl | (simp [errW_none, errW_some] <;> rfl) | (simp [*, errW_none, errW_some] <;> rfl), by repeat (first | (with_reducible first | exact HB.out | apply below_alloc | apply pw_below_drewN | apply below_drew1) | exact HB.out)⟩
        · rw [if_neg c5] at H
          exact absurd H (by simp)
      · rw [if_neg c4] at H
        have c4b0 : (((rd_T25 t104 0).f0) == 0 && (((rd_T25 t104 0).f1) == 0)) = false := by simpa using c4
        (try (have c4b1 : decide (((rd_T25 t104 0).f0) = 0 && (((rd_T25 t104 0).f1) == 0)) = false := by simpa using c4))
        (try (have c4b2 : (((rd_T25 t104 0).f0) == 0 && (((rd_T25 t104 0).f1) == 0)) = false := by simpa using c4))
        (try (have c4b3 : ¬ (((rd_T25 t104 0).f0) = 0 && (((rd_T25 t104 0).f1) == 0)) := by simpa using c4))
        clear c4
        obtain rfl := Option.some.inj H
        go_enter Try.func7, Try.ntmps7
        go_wp2_with (first | ((with_reducible refine gate_dst (N := 4) rfl ?_); refine Kd.R_lit k25 _ 25 ?hg (N := 4) ?hd (xs := ([(⟨0, 1⟩ : S25), (⟨0, 1⟩ : S25)] : List (S25))) (inner := [.int .i64 0, .int .i64 1, .int .i64 0, .int .i64 1]) (ok := fun _ => True) (okp := fun _ => True) ?hr ?hp (fun _ hk => hk) trivial (Below.refl _ _) (Nat.le_refl _) (by simp) ?_; (case hd => rfl); (case hg => rfl); (case hr => first | (go_simp; done) | (go_simp; rfl)); (case hp => exact (Reps.c2 (show Kd.M k25 _ _ _ (⟨0, 1⟩ : S25) [.int .i64 0, .int .i64 1] from (k25_mkM _ _ _ (⟨0, 1⟩ : S25) )) (Reps.c2 (show Kd.M k25 _ _ _ (⟨0, 1⟩ : S25) [.int .i64 0, .int .i64 1] from (k25_mkM _ _ _ (⟨0, 1⟩ : S25) )) (Reps.none _ _)))); intro v102 w11 ho12 hb hg_ hnew_; clear hg_ hnew_; (first | rw [← Ny101.out] at ho12 | (simp only [Int.reduceToNat] at ho12; rw [← Ny101.out] at ho12)); have n0_ := Aside0.mk (Kd.R_lower ho12 (below_size (by repeat (first | (with_reducible first | exact HB.out | apply below_alloc | apply pw_below_drewN | apply below_drew1) | exact HB.out)))); have n1_ := Aside0.mk (below_step (by repeat (first | (with_reducible first | exact HB.out | apply below_alloc | apply pw_below_drewN | apply below_drew1) | exact HB.out)) hb); clear HB; have HO103 := n0_; have HB := n1_; clear n0_ n1_; clear hb ho12; obtain ⟨Ao13, co13, eo13⟩ := Kd.R_slice HO103.out; subst eo13) | ((with_reducible refine gate_callee (f := 8) rfl ?_); refine goesL_ (some 5) rfl rfl Try.func8 (by kernel_rfl) rfl #[.slice Ao13 y101.length co13, .int .i64 2, .int .i64 1] rfl (by (try simp only [List.map_toArray, List.map_cons, List.map_nil]); first | done | rfl | (simp only [List.length_drop, List.length_take]; rfl)) ?_; (with_reducible refine (slots_Assign.calls _ _ y101 2 1 t104 _ ?side1 ?side2 A1.out).mono ?_); (case side1 => repeat (first | exact (Kd.R_reads' HO103.out).2.2 | (with_reducible refine Kd.C_alloc ?_ _) | (with_reducible refine Kd.C_drewN ?_ _) | (with_reducible refine Kd.C_drew ?_))); (case side2 => exact (Kd.R_reads' HO103.out).2.1); rintro e w14 ⟨v105, rfl, ho0, hb⟩; refine ⟨_, rfl, ?_⟩; have n0_ := Aside0.mk (Kd.R_elder' (by (with_reducible repeat (first | apply Kd.R_alloc | apply Kd.R_drewN | apply Kd.R_drew)); exact HO103.out) (Kd.R_base ho0) hb); have n1_ := Aside0.mk (Kd.R_lower (Kd.R_new' ho0 (Kd.R_lt (by (with_reducible repeat (first | apply Kd.R_alloc | apply Kd.R_drewN | apply Kd.R_drew)); exact HO103.out))) (below_size (by repeat (first | (with_reducible first | exact HB.out | apply below_alloc | apply pw_below_drewN | apply below_drew1) | exact HB.out)))); have n2_ := Aside0.mk (below_step (by repeat (first | (with_reducible first | exact HB.out | apply below_alloc | apply pw_below_drewN | apply below_drew1) | exact HB.out)) hb); clear HO103; clear HB; have HO103 := n0_; have HO106 := n1_; have HB := n2_; clear n0_ n1_ n2_; (try clear hb); (try clear hb2); (try clear hk); (try clear hi); (try clear ho0); obtain ⟨Ao15, co15, eo15⟩ := Kd.R_slice HO106.out; subst eo15; have p107 : 0 ≤ (0 : Int) := (by omega); have q107 : 0 < (t104.length : Int) := of_decide_eq_true (by first | (with_reducible assumption) | assumption); obtain ⟨ad107, e107, hx107_0, hx107_1⟩ := at_T25 (Kd.R_reads' HO106.out).2.2 0 p107 q107; cases e107; have qi107 : (0 < t104.length) = True := eq_true (by omega); (try rw [show ((0 : Int)).toNat = 0 from rfl] at hx107_0); (try rw [show 0 * 2 = 0 from rfl] at hx107_0); (try rw [Addr.add_zero'] at hx107_0); (try rw [show ((0 : Int)).toNat = 0 from rfl] at hx107_1); (try rw [show 0 * 2 = 0 from rfl] at hx107_1); (try rw [Addr.add_zero'] at hx107_1); replace p107 := eq_true p107; replace q107 := eq_true q107))
        go_ret
        exact ⟨by first | rfl | (simp [errW_none, errW_some] <;> rfl) | (simp [*, errW_none, errW_some] <;> rfl), by repeat (first | (with_reducible first | exact HB.out | apply below_alloc | apply pw_below_drewN | apply below_drew1) | exact HB.out)⟩
    · rw [if_neg c3] at H
      exact absurd H (by simp)
  · rw [if_neg c2] at H
    have c2b0 : ((t104.length : Int) == 2) = false := beq_eq_false_iff_ne.mpr c2
    have c2b1 : ((t104.length : Int) != 2) = true := bne_iff_ne.mpr c2
    obtain rfl := Option.some.inj H
    go_enter Try.func7, Try.ntmps7
    go_wp2_with (first | ((with_reducible refine gate_dst (N := 4) rfl ?_); refine Kd.R_lit k25 _ 25 ?hg (N := 4) ?hd (xs := ([(⟨0, 1⟩ : S25), (⟨0, 1⟩ : S25)] : List (S25))) (inner := [.int .i64 0, .int .i64 1, .int .i64 0, .int .i64 1]) (ok := fun _ => True) (okp := fun _ => True) ?hr ?hp (fun _ hk => hk) trivial (Below.refl _ _) (Nat.le_refl _) (by simp) ?_; (case hd => rfl); (case hg => rfl); (case hr => first | (go_simp; done) | (go_simp; rfl)); (case hp => exact (Reps.c2 (show Kd.M k25 _ _ _ (⟨0, 1⟩ : S25) [.int .i64 0, .int .i64 1] from (k25_mkM _ _ _ (⟨0, 1⟩ : S25) )) (Reps.c2 (show Kd.M k25 _ _ _ (⟨0, 1⟩ : S25) [.int .i64 0, .int .i64 1] from (k25_mkM _ _ _ (⟨0, 1⟩ : S25) )) (Reps.none _ _)))); intro v102 w16 ho17 hb hg_ hnew_; clear hg_ hnew_; (first | rw [← Ny101.out] at ho17 | (simp only [Int.reduceToNat] at ho17; rw [← Ny101.out] at ho17)); have n0_ := Aside0.mk (Kd.R_lower ho17 (below_size (by repeat (first | (with_reducible first | exact HB.out | apply below_alloc | apply pw_below_drewN | apply below_drew1) | exact HB.out)))); have n1_ := Aside0.mk (below_step (by repeat (first | (with_reducible first | exact HB.out | apply below_alloc | apply pw_below_drewN | apply below_drew1) | exact HB.out)) hb); clear HB; have HO103 := n0_; have HB := n1_; clear n0_ n1_; clear hb ho17; obtain ⟨Ao18, co18, eo18⟩ := Kd.R_slice HO103.out; subst eo18) | ((with_reducible refine gate_callee (f := 8) rfl ?_); refine goesL_ (some 5) rfl rfl Try.func8 (by kernel_rfl) rfl #[.slice Ao18 y101.length co18, .int .i64 2, .int .i64 1] rfl (by (try simp only [List.map_toArray, List.map_cons, List.map_nil]); first | done | rfl | (simp only [List.length_drop, List.length_take]; rfl)) ?_; (with_reducible refine (slots_Assign.calls _ _ y101 2 1 t104 _ ?side1 ?side2 A1.out).mono ?_); (case side1 => repeat (first | exact (Kd.R_reads' HO103.out).2.2 | (with_reducible refine Kd.C_alloc ?_ _) | (with_reducible refine Kd.C_drewN ?_ _) | (with_reducible refine Kd.C_drew ?_))); (case side2 => exact (Kd.R_reads' HO103.out).2.1); rintro e w19 ⟨v105, rfl, ho0, hb⟩; refine ⟨_, rfl, ?_⟩; have n0_ := Aside0.mk (Kd.R_elder' (by (with_reducible repeat (first | apply Kd.R_alloc | apply Kd.R_drewN | apply Kd.R_drew)); exact HO103.out) (Kd.R_base ho0) hb); have n1_ := Aside0.mk (Kd.R_lower (Kd.R_new' ho0 (Kd.R_lt (by (with_reducible repeat (first | apply Kd.R_alloc | apply Kd.R_drewN | apply Kd.R_drew)); exact HO103.out))) (below_size (by repeat (first | (with_reducible first | exact HB.out | apply below_alloc | apply pw_below_drewN | apply below_drew1) | exact HB.out)))); have n2_ := Aside0.mk (below_step (by repeat (first | (with_reducible first | exact HB.out | apply below_alloc | apply pw_below_drewN | apply below_drew1) | exact HB.out)) hb); clear HO103; clear HB; have HO103 := n0_; have HO106 := n1_; have HB := n2_; clear n0_ n1_ n2_; (try clear hb); (try clear hb2); (try clear hk); (try clear hi); (try clear ho0); obtain ⟨Ao20, co20, eo20⟩ := Kd.R_slice HO106.out; subst eo20))
    go_ret
    exact ⟨by first | rfl | (simp [errW_none, errW_some] <;> rfl) | (simp [*, errW_none, errW_some] <;> rfl), by repeat (first | (with_reducible first | exact HB.out | apply below_alloc | apply pw_below_drewN | apply below_drew1) | exact HB.out)⟩

/-! ### switchboardref14_ahead: function 10 -/
mutual
def switchboardref14_ahead.l0 : Nat → List (S25) → Int → Int → Int → Int → Int → Option (Int)
  | 0, _, _, _, _, _, _ => none
  | k + 1, x0, x1, x2, x3, x9, x10 => if x10 ≤ x1 then (switchboardref14_ahead.l1 k x0 x1 x2 x3 x9 x10 0) else (some x9)
def switchboardref14_ahead.l1 : Nat → List (S25) → Int → Int → Int → Int → Int → Int → Option (Int)
  | 0, _, _, _, _, _, _, _ => none
  | k + 1, x0, x1, x2, x3, x9, x10, x11 => if x11 < 2 then (if 0 ≤ x10 then (if x10 < (x0.length : Int) then (if 0 ≤ x11 then (if (pick2 ((rd_T25 x0 x10).f0) ((rd_T25 x0 x10).f1) x11) = x3 then (if x10 < x1 then (switchboardref14_ahead.l1 k x0 x1 x2 x3 (wrap64 (x9 + 1)) x10 (wrap64 (x11 + 1))) else (if x11 < x2 then (switchboardref14_ahead.l1 k x0 x1 x2 x3 (wrap64 (x9 + 1)) x10 (wrap64 (x11 + 1))) else (switchboardref14_ahead.l1 k x0 x1 x2 x3 x9 x10 (wrap64 (x11 + 1))))) else (switchboardref14_ahead.l1 k x0 x1 x2 x3 x9 x10 (wrap64 (x11 + 1)))) else (none)) else (none)) else (none)) else (switchboardref14_ahead.l0 k x0 x1 x2 x3 x9 (wrap64 (x10 + 1)))
end
def switchboardref14_ahead.f (k : Nat) (l0 : List (S25)) (a1 : Int) (a2 : Int) (a3 : Int) : Option (Int) := switchboardref14_ahead.l0 k l0 a1 a2 a3 0 0
theorem switchboardref14_ahead.mono_l : ∀ k, (∀ y0 y1 y2 y3 y4 y5, LeO (switchboardref14_ahead.l0 k y0 y1 y2 y3 y4 y5) (switchboardref14_ahead.l0 (k + 1) y0 y1 y2 y3 y4 y5)) ∧ (∀ y0 y1 y2 y3 y4 y5 y6, LeO (switchboardref14_ahead.l1 k y0 y1 y2 y3 y4 y5 y6) (switchboardref14_ahead.l1 (k + 1) y0 y1 y2 y3 y4 y5 y6))
  | 0 => ⟨fun _ _ _ _ _ _ r h => by simp [switchboardref14_ahead.l0] at h, fun _ _ _ _ _ _ _ r h => by simp [switchboardref14_ahead.l1] at h⟩
  | k + 1 => by
    obtain ⟨ih0, ih1⟩ := switchboardref14_ahead.mono_l k
    refine ⟨?_, ?_⟩
    · intro y0 y1 y2 y3 y4 y5
      unfold switchboardref14_ahead.l0
      repeat' first
      | (with_reducible exact ih0 _ _ _ _ _ _)
      | (with_reducible exact ih1 _ _ _ _ _ _ _)
      | (with_reducible exact LeO.refl _)
      | (with_reducible exact LeO.none _)
      | (with_reducible refine LeO.ite ?_ ?_)
      | (with_reducible refine LeO.bind ?_ (fun _ => ?_))
      | exact ih0 _ _ _ _ _ _
      | exact ih1 _ _ _ _ _ _ _
      | exact LeO.none _
      | refine LeO.ite ?_ ?_
      | refine LeO.bind ?_ (fun _ => ?_)
    · intro y0 y1 y2 y3 y4 y5 y6
      unfold switchboardref14_ahead.l1
      repeat' first
      | (with_reducible exact ih0 _ _ _ _ _ _)
      | (with_reducible exact ih1 _ _ _ _ _ _ _)
      | (with_reducible exact LeO.refl _)
      | (with_reducible exact LeO.none _)
      | (with_reducible refine LeO.ite ?_ ?_)
      | (with_reducible refine LeO.bind ?_ (fun _ => ?_))
      | exact ih0 _ _ _ _ _ _
      | exact ih1 _ _ _ _ _ _ _
      | exact LeO.none _
      | refine LeO.ite ?_ ?_
      | refine LeO.bind ?_ (fun _ => ?_)
theorem switchboardref14_ahead.mono : ∀ a0 a1 a2 a3 k, LeO (switchboardref14_ahead.f k a0 a1 a2 a3) (switchboardref14_ahead.f (k + 1) a0 a1 a2 a3) := by
  intro a0 a1 a2 a3 k
  obtain ⟨ih0, ih1⟩ := switchboardref14_ahead.mono_l k
  unfold switchboardref14_ahead.f
  repeat' first
      | (with_reducible exact ih0 _ _ _ _ _ _)
      | (with_reducible exact ih1 _ _ _ _ _ _ _)
      | (with_reducible exact LeO.refl _)
      | (with_reducible exact LeO.none _)
      | (with_reducible refine LeO.ite ?_ ?_)
      | (with_reducible refine LeO.bind ?_ (fun _ => ?_))
      | exact ih0 _ _ _ _ _ _
      | exact ih1 _ _ _ _ _ _ _
      | exact LeO.none _
      | refine LeO.ite ?_ ?_
      | refine LeO.bind ?_ (fun _ => ?_)
set_option maxHeartbeats 8000000 in
set_option maxRecDepth 100000 in
theorem switchboardref14_ahead.calls (k : Nat) (A0 : Option Addr) (c0 : Nat) (l0 : List (S25)) (a1 : Int) (a2 : Int) (a3 : Int) (r : Int) (w : World) (hr0 : Kd.C k25 w A0 l0.length l0) (hc0 : l0.length ≤ c0) (h : switchboardref14_ahead.f k l0 a1 a2 a3 = some r) :
    Calls Try.prog 10 #[.slice A0 l0.length c0, .int .i64 a1, .int .i64 a2, .int .i64 a3] w fun e w' => e = .returned (.int .i64 r) ∧ Drawn0 w w' := by
  have HR0 := Aside0.mk hr0
  have HC0 := Aside0.mk hc0
  clear hr0 hc0
  have H : (switchboardref14_ahead.l0 k l0 a1 a2 a3 0 0) = some r := h
  clear h
  have H' := Aside0.mk H
  clear H
  go_enter Try.func10, Try.ntmps10
  go_wp2
  go_loopg [9, 10] k (fun kq v9 v10 w' => ∃ (x9_1 : Int) (x10_1 : Int), v9 = .int .i64 x9_1 ∧ v10 = .int .i64 x10_1 ∧ Aside0 (switchboardref14_ahead.l0 kq l0 a1 a2 a3 x9_1 x10_1 = some r) ∧ Aside0 (kq ≤ k) ∧ Drawn0 w w')
  case atStart => exact ⟨(0), (0), (by first | rfl | (simp; done) | (simp [*]; done)), (by first | rfl | (simp; done) | (simp [*]; done)), H', ⟨Nat.le_refl _⟩, by repeat (first | exact Drawn0.refl _ | apply Drawn0.step)⟩
  case round =>
    clear H'
    try clear c1
    try clear p2
    obtain ⟨x9_1, x10_1, rfl, rfl, HA, HK1, ⟨m1, rfl⟩⟩ := hrel
    cases gk with
    | zero => exact absurd HA.out (by simp [switchboardref14_ahead.l0])
    | succ k1 =>
      have H := HA.out
      clear HA
      simp only [switchboardref14_ahead.l0] at H
      by_cases c5 : x10_1 ≤ a1
      · rw [if_pos c5] at H
        have c5b0 : decide (x10_1 ≤ a1) = true := decide_eq_true c5
        clear c5
        have H' := Aside0.mk H
        clear H
        go_wp2
        go_loopg [9, 11] k1 (fun kq v9 v11 w' => ∃ (x9_2 : Int) (x11_2 : Int), v9 = .int .i64 x9_2 ∧ v11 = .int .i64 x11_2 ∧ Aside0 (switchboardref14_ahead.l1 kq l0 a1 a2 a3 x9_2 x10_1 x11_2 = some r) ∧ Aside0 (kq ≤ k1) ∧ Drawn0 w w')
        case atStart => exact ⟨(x9_1), (0), (by first | rfl | (simp; done) | (simp [*]; done)), (by first | rfl | (simp; done) | (simp [*]; done)), H', ⟨Nat.le_refl _⟩, by repeat (first | exact Drawn0.refl _ | apply Drawn0.step)⟩
        case round =>
          clear H'
          try clear c1
          try clear p2
          try clear c5
          try clear c5b0
          try clear p2
          obtain ⟨x9_2, x11_2, rfl, rfl, HA, HK2, ⟨m2, rfl⟩⟩ := hrel
          cases gk with
          | zero => exact absurd HA.out (by simp [switchboardref14_ahead.l1])
          | succ k2 =>
            have H := HA.out
            clear HA
            simp only [switchboardref14_ahead.l1] at H
            by_cases c6 : x11_2 < 2
            · rw [if_pos c6] at H
              have c6b0 : decide (x11_2 < 2) = true := decide_eq_true c6
              clear c6
              by_cases c7 : 0 ≤ x10_1
              · rw [if_pos c7] at H
                have c7b0 : decide (0 ≤ x10_1) = true := decide_eq_true c7
                clear c7
                by_cases c8 : x10_1 < (l0.length : Int)
                · rw [if_pos c8] at H
                  have c8b0 : decide (x10_1 < (l0.length : Int)) = true := decide_eq_true c8
                  clear c8
                  by_cases c9 : 0 ≤ x11_2
                  · rw [if_pos c9] at H
                    have c9b0 : decide (0 ≤ x11_2) = true := decide_eq_true c9
                    clear c9
                    by_cases c11 : (pick2 ((rd_T25 l0 x10_1).f0) ((rd_T25 l0 x10_1).f1) x11_2) = a3
                    · rw [if_pos c11] at H
                      have c11b0 : ((pick2 ((rd_T25 l0 x10_1).f0) ((rd_T25 l0 x10_1).f1) x11_2) == a3) = true := beq_iff_eq.mpr c11
                      have c11b1 : ((pick2 ((rd_T25 l0 x10_1).f0) ((rd_T25 l0 x10_1).f1) x11_2) != a3) = false := bne_eq_false_iff_eq.mpr c11
                      clear c11
                      by_cases c12 : x10_1 < a1
                      · rw [if_pos c12] at H
                        have c12b0 : decide (x10_1 < a1) = true := decide_eq_true c12
                        clear c12
                        have H' := Aside0.mk H
                        clear H
                        have p109 : 0 ≤ (x10_1 : Int) := of_decide_eq_true (by first | (with_reducible assumption) | assumption)
                        have q109 : x10_1 < (l0.length : Int) := of_decide_eq_true (by first | (with_reducible assumption) | assumption)
                        obtain ⟨ad109, e109, hx109_0, hx109_1⟩ := at_T25 HR0.out x10_1 p109 q109
                        cases e109
                        replace p109 := eq_true p109
                        replace q109 := eq_true q109
                        have p10 : 0 ≤ (x11_2 : Int) := of_decide_eq_true (by first | (with_reducible assumption) | assumption)
                        have q10 : x11_2 < 2 := of_decide_eq_true (by first | (with_reducible assumption) | assumption)
                        have hx10 := pick2_cell hx109_0 hx109_1 x11_2 p10 q10
                        replace p10 := eq_true p10
                        replace q10 := eq_true q10
                        go_wp2
                        go_roundg k2
                        case measure => have := HK1.out; have := HK2.out; omega
                        case rel => exact ⟨(wrap64 (x9_2 + 1)), (wrap64 (x11_2 + 1)), (by first | rfl | (simp; done) | (simp [*]; done)), (by first | rfl | (simp; done) | (simp [*]; done)), H', ⟨by have := HK1.out; have := HK2.out; omega⟩, by repeat (first | exact Drawn0.refl _ | apply Drawn0.step)⟩
                      · rw [if_neg c12] at H
                        have c12b0 : decide (x10_1 < a1) = false := decide_eq_false c12
                        clear c12
                        by_cases c13 : x11_2 < a2
                        · rw [if_pos c13] at H
                          have c13b0 : decide (x11_2 < a2) = true := decide_eq_true c13
                          clear c13
                          have H' := Aside0.mk H
                          clear H
                          have p109 : 0 ≤ (x10_1 : Int) := of_decide_eq_true (by first | (with_reducible assumption) | assumption)
                          have q109 : x10_1 < (l0.length : Int) := of_decide_eq_true (by first | (with_reducible assumption) | assumption)
                          obtain ⟨ad109, e109, hx109_0, hx109_1⟩ := at_T25 HR0.out x10_1 p109 q109
                          cases e109
                          replace p109 := eq_true p109
                          replace q109 := eq_true q109
                          have p10 : 0 ≤ (x11_2 : Int) := of_decide_eq_true (by first | (with_reducible assumption) | assumption)
                          have q10 : x11_2 < 2 := of_decide_eq_true (by first | (with_reducible assumption) | assumption)
                          have hx10 := pick2_cell hx109_0 hx109_1 x11_2 p10 q10
                          replace p10 := eq_true p10
                          replace q10 := eq_true q10
                          go_wp2
                          go_roundg k2
                          case measure => have := HK1.out; have := HK2.out; omega
                          case rel => exact ⟨(wrap64 (x9_2 + 1)), (wrap64 (x11_2 + 1)), (by first | rfl | (simp; done) | (simp [*]; done)), (by first | rfl | (simp; done) | (simp [*]; done)), H', ⟨by have := HK1.out; have := HK2.out; omega⟩, by repeat (first | exact Drawn0.refl _ | apply Drawn0.step)⟩
                        · rw [if_neg c13] at H
                          have c13b0 : decide (x11_2 < a2) = false := decide_eq_false c13
                          clear c13
                          have H' := Aside0.mk H
                          clear H
                          have p109 : 0 ≤ (x10_1 : Int) := of_decide_eq_true (by first | (with_reducible assumption) | assumption)
                          have q109 : x10_1 < (l0.length : Int) := of_decide_eq_true (by first | (with_reducible assumption) | assumption)
                          obtain ⟨ad109, e109, hx109_0, hx109_1⟩ := at_T25 HR0.out x10_1 p109 q109
                          cases e109
                          replace p109 := eq_true p109
                          replace q109 := eq_true q109
                          have p10 : 0 ≤ (x11_2 : Int) := of_decide_eq_true (by first | (with_reducible assumption) | assumption)
                          have q10 : x11_2 < 2 := of_decide_eq_true (by first | (with_reducible assumption) | assumption)
                          have hx10 := pick2_cell hx109_0 hx109_1 x11_2 p10 q10
                          replace p10 := eq_true p10
                          replace q10 := eq_true q10
                          go_wp2
                          go_roundg k2
                          case measure => have := HK1.out; have := HK2.out; omega
                          case rel => exact ⟨(x9_2), (wrap64 (x11_2 + 1)), (by first | rfl | (simp; done) | (simp [*]; done)), (by first | rfl | (simp; done) | (simp [*]; done)), H', ⟨by have := HK1.out; have := HK2.out; omega⟩, by repeat (first | exact Drawn0.refl _ | apply Drawn0.step)⟩
                    · rw [if_neg c11] at H
                      have c11b0 : ((pick2 ((rd_T25 l0 x10_1).f0) ((rd_T25 l0 x10_1).f1) x11_2) == a3) = false := beq_eq_false_iff_ne.mpr c11
                      have c11b1 : ((pick2 ((rd_T25 l0 x10_1).f0) ((rd_T25 l0 x10_1).f1) x11_2) != a3) = true := bne_iff_ne.mpr c11
                      have H' := Aside0.mk H
                      clear H
                      have p109 : 0 ≤ (x10_1 : Int) := of_decide_eq_true (by first | (with_reducible assumption) | assumption)
                      have q109 : x10_1 < (l0.length : Int) := of_decide_eq_true (by first | (with_reducible assumption) | assumption)
                      obtain ⟨ad109, e109, hx109_0, hx109_1⟩ := at_T25 HR0.out x10_1 p109 q109
                      cases e109
                      replace p109 := eq_true p109
                      replace q109 := eq_true q109
                      have p10 : 0 ≤ (x11_2 : Int) := of_decide_eq_true (by first | (with_reducible assumption) | assumption)
                      have q10 : x11_2 < 2 := of_decide_eq_true (by first | (with_reducible assumption) | assumption)
                      have hx10 := pick2_cell hx109_0 hx109_1 x11_2 p10 q10
                      replace p10 := eq_true p10
                      replace q10 := eq_true q10
                      go_wp2
                      go_roundg k2
                      case measure => have := HK1.out; have := HK2.out; omega
                      case rel => exact ⟨(x9_2), (wrap64 (x11_2 + 1)), (by first | rfl | (simp; done) | (simp [*]; done)), (by first | rfl | (simp; done) | (simp [*]; done)), H', ⟨by have := HK1.out; have := HK2.out; omega⟩, by repeat (first | exact Drawn0.refl _ | apply Drawn0.step)⟩
                  · rw [if_neg c9] at H
                    exact absurd H (by simp)
                · rw [if_neg c8] at H
                  exact absurd H (by simp)
              · rw [if_neg c7] at H
                exact absurd H (by simp)
            · rw [if_neg c6] at H
              have c6b0 : decide (x11_2 < 2) = false := decide_eq_false c6
              clear c6
              have H' := Aside0.mk H
              clear H
              go_wp2
              go_roundg k2
              case measure => have := HK1.out; have := HK2.out; omega
              case rel => exact ⟨(x9_2), (wrap64 (x10_1 + 1)), (by first | rfl | (simp; done) | (simp [*]; done)), (by first | rfl | (simp; done) | (simp [*]; done)), H', ⟨by have := HK1.out; have := HK2.out; omega⟩, by repeat (first | exact Drawn0.refl _ | apply Drawn0.step)⟩
      · rw [if_neg c5] at H
        have c5b0 : decide (x10_1 ≤ a1) = false := decide_eq_false c5
        clear c5
        obtain rfl := Option.some.inj H
        go_wp2
        go_ret
        exact ⟨by first | rfl | (simp; done) | (simp [*]; done), by repeat (first | exact Drawn0.refl _ | apply Drawn0.step)⟩

/-! ### switchboardref14_Slot: function 9 -/
def switchboardref14_Slot.f (k : Nat) (l0 : List (S25)) (a1 : Int) (a2 : Int) (a3 : Int) (a4 : Int) : Option (Int) := if 0 ≤ a3 then (if a3 < (l0.length : Int) then (if 0 ≤ a4 then (if a4 < 2 then ((switchboardref14_ahead.f k l0 a3 a4 (pick2 ((rd_T25 l0 a3).f0) ((rd_T25 l0 a3).f1) a4)).bind fun t111 => (if (pick2 ((rd_T25 l0 a3).f0) ((rd_T25 l0 a3).f1) a4) < 0 then (some (-1)) else (if (pick2 ((rd_T25 l0 a3).f0) ((rd_T25 l0 a3).f1) a4) ≥ a1 then (some (-1)) else (if t111 ≥ a2 then (some (-1)) else (some t111))))) else (none)) else (none)) else (none)) else (none)
theorem switchboardref14_Slot.mono : ∀ a0 a1 a2 a3 a4 k, LeO (switchboardref14_Slot.f k a0 a1 a2 a3 a4) (switchboardref14_Slot.f (k + 1) a0 a1 a2 a3 a4) := by
  intro a0 a1 a2 a3 a4 k
  unfold switchboardref14_Slot.f
  repeat' first
      | (with_reducible exact switchboardref14_ahead.mono _ _ _ _ _)
      | (with_reducible exact LeO.refl _)
      | (with_reducible exact LeO.none _)
      | (with_reducible refine LeO.ite ?_ ?_)
      | (with_reducible refine LeO.bind ?_ (fun _ => ?_))
      | exact switchboardref14_ahead.mono _ _ _ _ _
      | exact LeO.none _
      | refine LeO.ite ?_ ?_
      | refine LeO.bind ?_ (fun _ => ?_)
set_option maxHeartbeats 8000000 in
set_option maxRecDepth 100000 in
theorem switchboardref14_Slot.calls (k : Nat) (A0 : Option Addr) (c0 : Nat) (l0 : List (S25)) (a1 : Int) (a2 : Int) (a3 : Int) (a4 : Int) (r : Int) (w : World) (hr0 : Kd.C k25 w A0 l0.length l0) (hc0 : l0.length ≤ c0) (h : switchboardref14_Slot.f k l0 a1 a2 a3 a4 = some r) :
    Calls Try.prog 9 #[.slice A0 l0.length c0, .int .i64 a1, .int .i64 a2, .int .i64 a3, .int .i64 a4] w fun e w' => e = .returned (.int .i64 r) ∧ Drawn0 w w' := by
  have HR0 := Aside0.mk hr0
  have HC0 := Aside0.mk hc0
  clear hr0 hc0
  have H : (if 0 ≤ a3 then (if a3 < (l0.length : Int) then (if 0 ≤ a4 then (if a4 < 2 then ((switchboardref14_ahead.f k l0 a3 a4 (pick2 ((rd_T25 l0 a3).f0) ((rd_T25 l0 a3).f1) a4)).bind fun t111 => (if (pick2 ((rd_T25 l0 a3).f0) ((rd_T25 l0 a3).f1) a4) < 0 then (some (-1)) else (if (pick2 ((rd_T25 l0 a3).f0) ((rd_T25 l0 a3).f1) a4) ≥ a1 then (some (-1)) else (if t111 ≥ a2 then (some (-1)) else (some t111))))) else (none)) else (none)) else (none)) else (none)) = some r := h
  clear h
  by_cases c6 : 0 ≤ a3
  · rw [if_pos c6] at H
    have c6b0 : decide (0 ≤ a3) = true := decide_eq_true c6
    clear c6
    by_cases c7 : a3 < (l0.length : Int)
    · rw [if_pos c7] at H
      have c7b0 : decide (a3 < (l0.length : Int)) = true := decide_eq_true c7
      clear c7
      by_cases c8 : 0 ≤ a4
      · rw [if_pos c8] at H
        have c8b0 : decide (0 ≤ a4) = true := decide_eq_true c8
        clear c8
        by_cases c9 : a4 < 2
        · rw [if_pos c9] at H
          have c9b0 : decide (a4 < 2) = true := decide_eq_true c9
          clear c9
          replace H := Option.bind_eq_some_iff.mp H
          obtain ⟨t111, A110, H⟩ := H
          replace H : (if (pick2 ((rd_T25 l0 a3).f0) ((rd_T25 l0 a3).f1) a4) < 0 then (some (-1)) else (if (pick2 ((rd_T25 l0 a3).f0) ((rd_T25 l0 a3).f1) a4) ≥ a1 then (some (-1)) else (if t111 ≥ a2 then (some (-1)) else (some t111)))) = some r := H
          have A11 := Aside0.mk A110
          clear A110
          by_cases c12 : (pick2 ((rd_T25 l0 a3).f0) ((rd_T25 l0 a3).f1) a4) < 0
          · rw [if_pos c12] at H
            have c12b0 : decide ((pick2 ((rd_T25 l0 a3).f0) ((rd_T25 l0 a3).f1) a4) < 0) = true := decide_eq_true c12
            clear c12
            obtain rfl := Option.some.inj H
            have p110 : 0 ≤ (a3 : Int) := of_decide_eq_true (by first | (with_reducible assumption) | assumption)
            have q110 : a3 < (l0.length : Int) := of_decide_eq_true (by first | (with_reducible assumption) | assumption)
            obtain ⟨ad110, e110, hx110_0, hx110_1⟩ := at_T25 HR0.out a3 p110 q110
            cases e110
            replace p110 := eq_true p110
            replace q110 := eq_true q110
            have p10 : 0 ≤ (a4 : Int) := of_decide_eq_true (by first | (with_reducible assumption) | assumption)
            have q10 : a4 < 2 := of_decide_eq_true (by first | (with_reducible assumption) | assumption)
            have hx10 := pick2_cell hx110_0 hx110_1 a4 p10 q10
            replace p10 := eq_true p10
            replace q10 := eq_true q10
            go_enter Try.func9, Try.ntmps9
            go_wp2_with (first | ((with_reducible refine gate_callee (f := 10) rfl ?_); refine goesL_ (some 23) rfl rfl Try.func10 (by kernel_rfl) rfl #[.slice (some ad110) l0.length c0, .int .i64 a3, .int .i64 a4, .int .i64 (pick2 ((rd_T25 l0 a3).f0) ((rd_T25 l0 a3).f1) a4)] rfl (by (try simp only [List.map_toArray, List.map_cons, List.map_nil]); first | done | rfl | (simp only [List.length_drop, List.length_take]; rfl)) ?_; (with_reducible refine (switchboardref14_ahead.calls k _ _ l0 a3 a4 (pick2 ((rd_T25 l0 a3).f0) ((rd_T25 l0 a3).f1) a4) t111 _ ?side1 ?side2 A11.out).mono ?_); (case side1 => repeat (first | exact HR0.out | (with_reducible refine Kd.C_alloc ?_ _) | (with_reducible refine Kd.C_drewN ?_ _) | (with_reducible refine Kd.C_drew ?_))); (case side2 => exact HC0.out); rintro e w' ⟨rfl, ⟨nd, rfl⟩⟩; refine ⟨_, rfl, ?_⟩))
            go_ret
            exact ⟨by first | rfl | (simp; done) | (simp [*]; done), by repeat (first | exact Drawn0.refl _ | apply Drawn0.step)⟩
          · rw [if_neg c12] at H
            have c12b0 : decide ((pick2 ((rd_T25 l0 a3).f0) ((rd_T25 l0 a3).f1) a4) < 0) = false := decide_eq_false c12
            clear c12
            by_cases c13 : (pick2 ((rd_T25 l0 a3).f0) ((rd_T25 l0 a3).f1) a4) ≥ a1
            · rw [if_pos c13] at H
              have c13b0 : decide (a1 ≤ (pick2 ((rd_T25 l0 a3).f0) ((rd_T25 l0 a3).f1) a4)) = true := decide_eq_true c13
              clear c13
              obtain rfl := Option.some.inj H
              have p110 : 0 ≤ (a3 : Int) := of_decide_eq_true (by first | (with_reducible assumption) | assumption)
              have q110 : a3 < (l0.length : Int) := of_decide_eq_true (by first | (with_reducible assumption) | assumption)
              obtain ⟨ad110, e110, hx110_0, hx110_1⟩ := at_T25 HR0.out a3 p110 q110
              cases e110
              replace p110 := eq_true p110
              replace q110 := eq_true q110
              have p10 : 0 ≤ (a4 : Int) := of_decide_eq_true (by first | (with_reducible assumption) | assumption)
              have q10 : a4 < 2 := of_decide_eq_true (by first | (with_reducible assumption) | assumption)
              have hx10 := pick2_cell hx110_0 hx110_1 a4 p10 q10
              replace p10 := eq_true p10
              replace q10 := eq_true q10
              go_enter Try.func9, Try.ntmps9
              go_wp2_with (first | ((with_reducible refine gate_callee (f := 10) rfl ?_); refine goesL_ (some 23) rfl rfl Try.func10 (by kernel_rfl) rfl #[.slice (some ad110) l0.length c0, .int .i64 a3, .int .i64 a4, .int .i64 (pick2 ((rd_T25 l0 a3).f0) ((rd_T25 l0 a3).f1) a4)] rfl (by (try simp only [List.map_toArray, List.map_cons, List.map_nil]); first | done | rfl | (simp only [List.length_drop, List.length_take]; rfl)) ?_; (with_reducible refine (switchboardref14_ahead.calls k _ _ l0 a3 a4 (pick2 ((rd_T25 l0 a3).f0) ((rd_T25 l0 a3).f1) a4) t111 _ ?side1 ?side2 A11.out).mono ?_); (case side1 => repeat (first | exact HR0.out | (with_reducible refine Kd.C_alloc ?_ _) | (with_reducible refine Kd.C_drewN ?_ _) | (with_reducible refine Kd.C_drew ?_))); (case side2 => exact HC0.out); rintro e w' ⟨rfl, ⟨nd, rfl⟩⟩; refine ⟨_, rfl, ?_⟩))
              go_ret
              exact ⟨by first | rfl | (simp; done) | (simp [*]; done), by repeat (first | exact Drawn0.refl _ | apply Drawn0.step)⟩
            · rw [if_neg c13] at H
              have c13b0 : decide (a1 ≤ (pick2 ((rd_T25 l0 a3).f0) ((rd_T25 l0 a3).f1) a4)) = false := decide_eq_false c13
              clear c13
              by_cases c14 : t111 ≥ a2
              · rw [if_pos c14] at H
                have c14b0 : decide (a2 ≤ t111) = true := decide_eq_true c14
                clear c14
                obtain rfl := Option.some.inj H
                have p110 : 0 ≤ (a3 : Int) := of_decide_eq_true (by first | (with_reducible assumption) | assumption)
                have q110 : a3 < (l0.length : Int) := of_decide_eq_true (by first | (with_reducible assumption) | assumption)
                obtain ⟨ad110, e110, hx110_0, hx110_1⟩ := at_T25 HR0.out a3 p110 q110
                cases e110
                replace p110 := eq_true p110
                replace q110 := eq_true q110
                have p10 : 0 ≤ (a4 : Int) := of_decide_eq_true (by first | (with_reducible assumption) | assumption)
                have q10 : a4 < 2 := of_decide_eq_true (by first | (with_reducible assumption) | assumption)
                have hx10 := pick2_cell hx110_0 hx110_1 a4 p10 q10
                replace p10 := eq_true p10
                replace q10 := eq_true q10
                go_enter Try.func9, Try.ntmps9
                go_wp2_with (first | ((with_reducible refine gate_callee (f := 10) rfl ?_); refine goesL_ (some 23) rfl rfl Try.func10 (by kernel_rfl) rfl #[.slice (some ad110) l0.length c0, .int .i64 a3, .int .i64 a4, .int .i64 (pick2 ((rd_T25 l0 a3).f0) ((rd_T25 l0 a3).f1) a4)] rfl (by (try simp only [List.map_toArray, List.map_cons, List.map_nil]); first | done | rfl | (simp only [List.length_drop, List.length_take]; rfl)) ?_; (with_reducible refine (switchboardref14_ahead.calls k _ _ l0 a3 a4 (pick2 ((rd_T25 l0 a3).f0) ((rd_T25 l0 a3).f1) a4) t111 _ ?side1 ?side2 A11.out).mono ?_); (case side1 => repeat (first | exact HR0.out | (with_reducible refine Kd.C_alloc ?_ _) | (with_reducible refine Kd.C_drewN ?_ _) | (with_reducible refine Kd.C_drew ?_))); (case side2 => exact HC0.out); rintro e w' ⟨rfl, ⟨nd, rfl⟩⟩; refine ⟨_, rfl, ?_⟩))
                go_ret
                exact ⟨by first | rfl | (simp; done) | (simp [*]; done), by repeat (first | exact Drawn0.refl _ | apply Drawn0.step)⟩
              · rw [if_neg c14] at H
                have c14b0 : decide (a2 ≤ t111) = false := decide_eq_false c14
                clear c14
                obtain rfl := Option.some.inj H
                have p110 : 0 ≤ (a3 : Int) := of_decide_eq_true (by first | (with_reducible assumption) | assumption)
                have q110 : a3 < (l0.length : Int) := of_decide_eq_true (by first | (with_reducible assumption) | assumption)
                obtain ⟨ad110, e110, hx110_0, hx110_1⟩ := at_T25 HR0.out a3 p110 q110
                cases e110
                replace p110 := eq_true p110
                replace q110 := eq_true q110
                have p10 : 0 ≤ (a4 : Int) := of_decide_eq_true (by first | (with_reducible assumption) | assumption)
                have q10 : a4 < 2 := of_decide_eq_true (by first | (with_reducible assumption) | assumption)
                have hx10 := pick2_cell hx110_0 hx110_1 a4 p10 q10
                replace p10 := eq_true p10
                replace q10 := eq_true q10
                go_enter Try.func9, Try.ntmps9
                go_wp2_with (first | ((with_reducible refine gate_callee (f := 10) rfl ?_); refine goesL_ (some 23) rfl rfl Try.func10 (by kernel_rfl) rfl #[.slice (some ad110) l0.length c0, .int .i64 a3, .int .i64 a4, .int .i64 (pick2 ((rd_T25 l0 a3).f0) ((rd_T25 l0 a3).f1) a4)] rfl (by (try simp only [List.map_toArray, List.map_cons, List.map_nil]); first | done | rfl | (simp only [List.length_drop, List.length_take]; rfl)) ?_; (with_reducible refine (switchboardref14_ahead.calls k _ _ l0 a3 a4 (pick2 ((rd_T25 l0 a3).f0) ((rd_T25 l0 a3).f1) a4) t111 _ ?side1 ?side2 A11.out).mono ?_); (case side1 => repeat (first | exact HR0.out | (with_reducible refine Kd.C_alloc ?_ _) | (with_reducible refine Kd.C_drewN ?_ _) | (with_reducible refine Kd.C_drew ?_))); (case side2 => exact HC0.out); rintro e w' ⟨rfl, ⟨nd, rfl⟩⟩; refine ⟨_, rfl, ?_⟩))
                go_ret
                exact ⟨by first | rfl | (simp; done) | (simp [*]; done), by repeat (first | exact Drawn0.refl _ | apply Drawn0.step)⟩
        · rw [if_neg c9] at H
          exact absurd H (by simp)
      · rw [if_neg c8] at H
        exact absurd H (by simp)
    · rw [if_neg c7] at H
      exact absurd H (by simp)
  · rw [if_neg c6] at H
    exact absurd H (by simp)

end Go.Proofs.Ytglcmnhaoeohdaa.Pr
