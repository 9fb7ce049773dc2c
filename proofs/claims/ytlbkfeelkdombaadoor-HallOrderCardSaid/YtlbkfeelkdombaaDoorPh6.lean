/- Own text, by hand: the walk of HallOrder. -/
import Derived.Test.YtlbkfeelkdombaaDoorPh0
import Derived.Test.YtlbkfeelkdombaaDoorPh1
import Derived.Test.YtlbkfeelkdombaaDoorPh2
import Derived.Test.YtlbkfeelkdombaaDoorPh3
import Derived.Test.YtlbkfeelkdombaaDoorPh4
import Derived.Test.YtlbkfeelkdombaaDoorPh5
namespace Go.Proofs.YtlbkfeelkdombaaDoor.Ph
open Go.RowKit Go.Proofs.YtlbkfeelkdombaaDoorW.PrintWords Go.Proofs.YtlbkfeelkdombaaDoorW.PrintLast Go.Proofs.YtlbkfeelkdombaaDoorW.PrintMore
attribute [local go_sem] max2_int min2_int max_two min_two max_three min_three max_four min_four
set_option linter.unusedVariables false
set_option linter.unusedSimpArgs false

/-- What holds behind i rounds: those that wait, in the order in which they came. -/
structure OInv (i : Nat) (l : List S44) (ws : List Int) : Prop where
  len : l.length ≤ 4
  no : ∀ y ∈ l, y.f2 = false
  first : 0 < i → ws ≠ []
  ids : ws = l.map (·.f0)
theorem OInv.start : OInv 0 [] [] := ⟨by simp, by simp, by simp, rfl⟩
theorem reason_1 : hall_Reason.f 1 [tinyY] [[1]] = some 0 := by kernel_rfl
theorem OInv.wl {i : Nat} {l : List S44} {ws : List Int} (h : OInv i l ws) : ws.length = l.length := by rw [h.ids]; simp
theorem OInv.step {i : Nat} {l : List S44} {ws : List Int} (h : OInv i l ws) {id : Int} (h1 : 1 ≤ id) (h2 : id ≤ 2147483647) : ∃ (kk k2 k3 : Nat) (l' : List S44) (ws' : List Int) (e : Int), hall_Admit.f kk l 1 [tinyY] id [[1]] = some (l', e) ∧ ((e = 0 ∧ ws' = ws ++ [id]) ∨ (e ≠ 0 ∧ ws' = ws)) ∧ OInv (i + 1) l' ws' ∧ hall_Open.f k2 l' = some ws' ∧ switchboardref02_Same.f k3 ws' ws' = some true ∧ l'.length ≤ 4 := by
  have hl := h.len
  obtain ⟨kk, ha⟩ := (admit_ev l (by omega) h1 h2 reason_1).rounds
  have fin : ∀ (l' : List S44) (ws' : List Int), OInv (i + 1) l' ws' → ∃ k2 k3, hall_Open.f k2 l' = some ws' ∧ switchboardref02_Same.f k3 ws' ws' = some true := fun l' ws' h' => by
    have hl' := h'.len
    obtain ⟨k2, e2⟩ := (open_ev l' (by omega)).rounds
    obtain ⟨k3, e3⟩ := (same2_ev (a := ws') rfl (by rw [h'.wl]; omega)).rounds
    rw [openOf_none h'.no, ← h'.ids] at e2
    exact ⟨k2, k3, e2, e3⟩
  have ho : (openOf l).length = l.length := by rw [openOf_none h.no]; simp
  have keep : l ≠ [] → OInv (i + 1) l ws := fun hne => ⟨h.len, h.no, fun _ hc => hne (by have := h.ids; rw [hc] at this; simpa using this.symm), h.ids⟩
  by_cases he : ∃ y ∈ l, y.f0 = id
  · rw [if_pos he] at ha
    have h' := keep (by obtain ⟨y, hy, _⟩ := he; exact List.ne_nil_of_mem hy)
    obtain ⟨k2, k3, e2, e3⟩ := fin _ _ h'
    exact ⟨kk, k2, k3, l, ws, 5, ha, .inr ⟨by decide, rfl⟩, h', e2, e3, hl⟩
  · rw [if_neg he] at ha
    by_cases h4 : 4 ≤ (openOf l).length
    · rw [if_pos h4] at ha
      have h' := keep (by intro hc; subst hc; simp [openOf] at h4)
      obtain ⟨k2, k3, e2, e3⟩ := fin _ _ h'
      exact ⟨kk, k2, k3, l, ws, 8, ha, .inr ⟨by decide, rfl⟩, h', e2, e3, hl⟩
    · rw [if_neg h4] at ha
      have h' : OInv (i + 1) (l ++ [mkE id 1]) (ws ++ [id]) := ⟨by simp; omega, fun y hy => by rcases List.mem_append.1 hy with hy | hy; exact h.no y hy; simp at hy; subst hy; rfl, by simp, by rw [h.ids]; simp [mkE]⟩
      obtain ⟨k2, k3, e2, e3⟩ := fin _ _ h'
      exact ⟨kk, k2, k3, _, _, 0, ha, .inl ⟨rfl, rfl⟩, h', e2, e3, h'.len⟩
theorem OInv.finish {i : Nat} {l : List S44} {ws : List Int} (h : OInv i l ws) (hne : ws ≠ []) : ∃ (x0 : Int) (k2 k3 : Nat) (l' : List S44), rd ws 0 = x0 ∧ hall_Finish.f l x0 [] = some (l', 0) ∧ hall_Open.f k2 l' = Option.some (ws.drop 1) ∧ switchboardref02_Same.f k3 (ws.drop 1) (ws.drop 1) = some true := by
  have hl := h.len
  match l, h with
  | [], h => exact absurd h.ids hne
  | y :: r, h =>
    have hy := h.no y (by simp)
    have hr : ∀ z ∈ r, z.f2 = false := fun z hz => h.no z (by simp [hz])
    have hids := h.ids
    simp only [List.map_cons] at hids
    obtain ⟨k, hk, e1, e2, e3, e4⟩ := finish_some (l := y :: r) (by omega) (id := y.f0) (t := []) (by simp) ⟨y, by simp, rfl, hy⟩
    obtain rfl : k = 0 := by
      cases k with
      | zero => rfl
      | succ k => exact absurd ⟨rfl, hy⟩ (e3 0 (by simp) (by omega))
    simp only [List.getElem_cons_zero, List.set_cons_zero] at e4
    obtain ⟨k2, e5⟩ := (open_ev ((⟨y.f0, y.f1, true, []⟩ : S44) :: r) (by simp at hl ⊢; omega)).rounds
    rw [open_cons_yes rfl, openOf_none hr] at e5
    obtain ⟨k3, e6⟩ := (same2_ev (a := ws.drop 1) rfl (by have := h.wl; simp at this hl ⊢; omega)).rounds
    refine ⟨y.f0, k2, k3, _, by rw [hids]; rfl, e4, ?_, e6⟩
    rw [hids]
    exact e5

def switchboardlaw24_HallOrder.f (k : Nat) (l0 : List Int) : Option Bool := if l0.all (fun x => decide (0 ≤ x) && decide (x < 65536)) = true then some true else none
theorem u16_range {k : Nat} {l0 : List Int} (h : switchboardlaw24_HallOrder.f k l0 = some true) : ∀ j : Nat, j < l0.length → ∃ t : Nat, t < 65536 ∧ rd l0 (j : Int) = (t : Int) := by
  intro j hj
  unfold switchboardlaw24_HallOrder.f at h
  by_cases ha : l0.all (fun x => decide (0 ≤ x) && decide (x < 65536)) = true
  · rw [List.all_eq_true] at ha
    have := ha _ (rd_mem (v := l0) (i := (j : Int)) (by omega) (by omega))
    rw [Bool.and_eq_true, decide_eq_true_eq, decide_eq_true_eq] at this
    exact ⟨(rd l0 (j : Int)).toNat, by omega, by omega⟩
  · rw [if_neg ha] at h
    cases h
set_option maxHeartbeats 1600000 in
set_option maxRecDepth 100000 in
theorem switchboardlaw24_HallOrder.calls (k : Nat) (A0 : Option Addr) (c0 : Nat) (l0 : List Int) (w : World) (hr0 : Kd.C (Kd.int .u16) w A0 l0.length l0) (hc0 : l0.length ≤ c0) (h : switchboardlaw24_HallOrder.f k l0 = some true) :
    Calls Tryd.prog 6 #[.slice A0 l0.length c0] w fun e w' => e = .returned (.bool true) ∧ Below w.heap.size w w' := by
  have hu24 := Tryd.underlying24
  have HT := Aside0.mk (u16_range h)
  have HR0 := Aside0.mk hr0
  clear hr0 hc0 h
  have HL0 : Aside0 (HW w (w.alloc (.cells #[.slice none 0 0] 24)) w.heap.size #[.slice none 0 0]) := ⟨⟨below_alloc (Below.refl _ _) _, Nat.le_refl _, alloc_at _ rfl⟩⟩
  go_enter Tryd.func6, Tryd.ntmps6
  go_wp2
  go_loopw [4, 5] (fun v4 v5 W => ∃ (i : Nat) (l : List S44) (ws : List Int) (Ah : Option Addr) (ch : Nat), v5 = .int .i64 (i : Int) ∧ Aside0 (i ≤ 20) ∧ Aside0 (OInv i l ws) ∧ Aside0 (HW w W w.heap.size #[.slice Ah l.length ch]) ∧ Aside0 (Kd.V k44 44 W 0 (fun k => k ≠ w.heap.size ∧ some k ≠ v4.ownBlock) (.slice Ah l.length ch) l) ∧ Aside0 (Kd.R (Kd.int .i64) 3 W w.heap.size (fun k => k ≠ w.heap.size) v4 ws)) (fun _ v5 _ => 20 - (intOf v5).toNat)
  case atStart => exact ⟨0, [], [], none, 0, rfl, ⟨by omega⟩, ⟨OInv.start⟩, HL0, ⟨Kd.V_nil _ _ _ _ _⟩, ⟨Kd.R_nil _ _ _ _ _⟩⟩
  case round =>
    clear HL0
    obtain ⟨i, l, ws, Ah, ch, rfl, HI, HO, HL, HV, HR⟩ := hrel
    obtain ⟨Aw, cw, rfl⟩ := Kd.R_slice HR.out
    have HGW := Aside0.mk (blk_lt HL.out.box)
    by_cases hlt : i < l0.length
    case neg =>
      have k1 : decide ((i : Int) < (l0.length : Int)) = false := decide_eq_false (by omega)
      have k1n : decide (i < l0.length) = false := decide_eq_false hlt
      by_cases hws : ws = []
      · subst hws
        have h0i : i = 0 := by cases i with | zero => rfl | succ i => exact absurd rfl (HO.out.first (by omega))
        have e3 : ((l0.length : Int) == 0) = true := beq_iff_eq.2 (by omega)
        have e3n : (l0.length == 0) = true := beq_iff_eq.2 (by omega)
        have e3m : decide (l0.length = 0) = true := decide_eq_true (by omega)
        go_wp2_with (go_at_call 9; refine (switchboardlaw24_awake.calls true _ rfl).mono ?_; rintro e w9 ⟨rfl, hb⟩; have HB9 := Aside0.mk (below_step HL.out.hb hb); clear hb)
        go_ret
        exact ⟨rfl, HB9.out⟩
      · clear hlt
        have hlw : 0 < ws.length := List.length_pos_iff.2 hws
        obtain ⟨x0, k2, k3, lf, e1, e2, e3, e4⟩ := HO.out.finish hws
        have F1 := Aside0.mk e2
        have HXE := Aside0.mk e1
        have F2 := Aside0.mk e3
        have F3 := Aside0.mk e4
        obtain ⟨ad, hA, hx⟩ := Kd.at_int (Kd.R_reads' HR.out).2.2 0 (by omega) (by omega)
        cases hA
        rw [e1] at hx
        have HX : Aside0 (wr.cell? ad = some (.int .i64 x0)) := ⟨by rw [show (0 : Int).toNat = 0 from rfl, addr_add0] at hx; exact hx⟩
        have hwe : ((ws.length : Int) == 0) = false := beq_eq_false_iff_ne.2 (by omega)
        have hwn : (ws.length == 0) = false := beq_eq_false_iff_ne.2 (by omega)
        have hwp := Aside0.mk hlw
        have HWI := Aside0.mk (show (0 : Int) < (ws.length : Int) by omega)
        clear e2 e3 e4 hx e1 hws
        go_upto_region 15 with (fail)
        refine start_ (n := 10) (S := fun W => W.cell? ⟨w.heap.size, 0, none⟩ = some (.slice Ah l.length ch) ∧ W.cell? ad = some (.int .i64 x0)) (ds := [8]) #[false, false, false, false, false, false, false, false, false, false] (by kernel_rfl) rfl rfl ⟨(blk_cell (blk_drew HL.out.box) 0).trans rfl, HX.out⟩ (fun hHeld => ?_)
        have HL2 := Aside0.mk (HL.out.below (below_drew (Below.refl _ _)))
        have HV2 := Aside0.mk (Kd.V_drew HV.out)
        have HR2 := Aside0.mk (Kd.R_drew HR.out)
        generalize wr.drew = w2 at HL2 HV2 HR2 hHeld ⊢
        clear HL HV HR
        refine take_ (i := 0) (N := some 62) (v := ?_) (a' := ?_) #[true, false, false, false, false, false, false, false, false, false] rfl rfl (take_of rfl (by kernel_rfl)) (fun _ _ _ h => h) (Or.inl ⟨by rfl, ?_⟩) hHeld ?_ ?_
        rotate_left
        · rintro w' ⟨s0, s1⟩
          go_simp
          with_reducible rfl
        rotate_left
        · simp only [Act.put, List.setIfInBounds_toArray, List.set_cons_zero, List.set_cons_succ, i64_w, i32_w]
          rfl
        refine pure_ (i := 1) (N := some 63) (v := ?_) (a' := ?_) #[true, true, false, false, false, false, false, false, false, false] rfl rfl (any_of rfl (by kernel_rfl)) (fun _ _ _ h => h) (Or.inl ⟨by rfl, ?_⟩) ?_ ?_
        rotate_left
        · intro w'
          go_simp
          with_reducible rfl
        rotate_left
        · simp only [Act.put, List.setIfInBounds_toArray, List.set_cons_zero, List.set_cons_succ, i64_w, i32_w]
          rfl
        refine pure_ (i := 2) (N := some 64) (v := ?_) (a' := ?_) #[true, true, true, false, false, false, false, false, false, false] rfl rfl (any_of rfl (by kernel_rfl)) (fun _ _ _ h => h) (Or.inl ⟨by rfl, ?_⟩) ?_ ?_
        rotate_left
        · intro w'
          go_simp
          with_reducible rfl
        rotate_left
        · simp only [Act.put, List.setIfInBounds_toArray, List.set_cons_zero, List.set_cons_succ, i64_w, i32_w]
          rfl
        refine take_ (i := 3) (N := some 65) (v := ?_) (a' := ?_) #[true, true, true, true, false, false, false, false, false, false] rfl rfl (take_of rfl (by kernel_rfl)) (fun _ _ _ h => h) (Or.inl ⟨by rfl, ?_⟩) hHeld ?_ ?_
        rotate_left
        · rintro w' ⟨s0, s1⟩
          go_simp
          with_reducible rfl
        rotate_left
        · simp only [Act.put, List.setIfInBounds_toArray, List.set_cons_zero, List.set_cons_succ, i64_w, i32_w]
          rfl
        refine one_ (i := 4) (N := some 66) #[true, true, true, true, true, false, false, false, false, false] rfl rfl (one_of rfl (by kernel_rfl)) (by decide) (fun K hK => ?_)
        refine goes_ Tryd.func10 (by kernel_rfl) rfl #[.agg #[.slice Ah l.length ch], .int .i64 x0, .slice none 0 0] (by rfl) rfl rfl (by (try simp only [List.map_toArray, List.map_cons, List.map_nil]); first | done | rfl) ?_
        refine (hall_Finish.calls _ Ah ch l x0 (fun _ => False) none 0 [] lf 0 _ HV2.out (Kd.V_nil _ _ _ _ _) F1.out).mono ?_
        rintro e w3 ⟨vf, rfl, hvf, hb⟩
        have HVF := Aside0.mk (Kd.V_mono (ok' := fun k => k ≠ w.heap.size) hvf (fun k hk => by rcases hk with (hk | hk) | hk; exact hk.1; exact hk.elim; (have := blk_lt HL2.out.box; omega)))
        obtain ⟨Af, cf, rfl⟩ := Kd.V_slice hvf
        have HL3 := Aside0.mk (HL2.out.below hb)
        have HR3 := Aside0.mk (Kd.R_below HR2.out hb)
        have hx3 := (hb.cell (World.block_lt_of_cell? w2 _ hHeld.2)).trans hHeld.2
        clear hvf hb HL2 HV2 HR2 hHeld
        refine ⟨_, rfl, ?_⟩
        refine hK.out _ _ ⟨(blk_cell HL3.out.box 0).trans rfl, hx3⟩ (fun hHeld => ?_)
        clear hx3
        clear hK K
        refine norm_ (a' := ?_) ?_ ?_
        rotate_left
        · show Act.put _ (some 66) _ = _
          simp only [Act.put, List.setIfInBounds_toArray, List.set_cons_zero, List.set_cons_succ, i64_w, i32_w]
          rfl
        refine pure_ (i := 5) (N := some 61) (v := ?_) (a' := ?_) #[true, true, true, true, true, true, false, false, false, false] rfl rfl (any_of rfl (by kernel_rfl)) (fun _ _ _ h => h) (Or.inl ⟨by rfl, ?_⟩) ?_ ?_
        rotate_left
        · intro w'
          go_simp
          with_reducible rfl
        rotate_left
        · simp only [Act.put, List.setIfInBounds_toArray, List.set_cons_zero, List.set_cons_succ, i64_w, i32_w]
          rfl
        refine pure_ (i := 6) (N := some 67) (v := ?_) (a' := ?_) #[true, true, true, true, true, true, true, false, false, false] rfl rfl (any_of rfl (by kernel_rfl)) (fun _ _ _ h => h) (Or.inl ⟨by rfl, ?_⟩) ?_ ?_
        rotate_left
        · intro w'
          go_simp
          with_reducible rfl
        rotate_left
        · simp only [Act.put, List.setIfInBounds_toArray, List.set_cons_zero, List.set_cons_succ, i64_w, i32_w]
          rfl
        refine pure_ (i := 7) (N := some 68) (v := ?_) (a' := ?_) #[true, true, true, true, true, true, true, true, false, false] rfl rfl (any_of rfl (by kernel_rfl)) (fun _ _ _ h => h) (Or.inl ⟨by rfl, ?_⟩) ?_ ?_
        rotate_left
        · intro w'
          go_simp
          with_reducible rfl
        rotate_left
        · simp only [Act.put, List.setIfInBounds_toArray, List.set_cons_zero, List.set_cons_succ, i64_w, i32_w]
          rfl
        refine last_ (i := 8) (N := none) #[true, true, true, true, true, true, true, true, true, false] rfl rfl (one_of rfl (by kernel_rfl)) (by decide) (fun K hK => ?_)
        have hs : w3.cell? ⟨w.heap.size, 0, none⟩ = some (.slice Ah l.length ch) := (blk_cell HL3.out.box 0).trans rfl
        have hf := blk_frozen HL3.out.box 0
        refine skip_ (w1 := ?_) (by rfl) rfl ?_ ?_
        rotate_left
        · go_simp
          rfl
        clear hs hf
        have HL4 := Aside0.mk (HL3.out.put (.slice Af lf.length cf))
        have HV4 := Aside0.mk (Kd.V_far (p := ⟨w.heap.size, 0, none⟩) HVF.out (fun k hk => hk) (.slice Af lf.length cf))
        have HR4 := Aside0.mk (Kd.R_far (p := ⟨w.heap.size, 0, none⟩) HR3.out (fun k hk => hk) (.slice Af lf.length cf))
        generalize (w3.setCell ⟨w.heap.size, 0, none⟩ (.slice Af lf.length cf)) = w4 at HL4 HV4 HR4 ⊢
        clear HL3 HVF HR3 hHeld
        refine hK.out _ _ ?_
        clear hK K
        refine pure_ (i := 9) (N := some 9) (v := ?_) (a' := ?_) #[true, true, true, true, true, true, true, true, true, true] rfl rfl (any_of rfl (by kernel_rfl)) (fun _ _ _ h => h) (Or.inl ⟨by rfl, ?_⟩) ?_ ?_
        rotate_left
        · intro w'
          go_simp
          with_reducible rfl
        rotate_left
        · simp only [Act.put, List.setIfInBounds_toArray, List.set_cons_zero, List.set_cons_succ, i64_w, i32_w]
          rfl
        refine done_ (done_of rfl (by kernel_rfl)) ?_
        go_upto_region 16 with (fail)
        refine start_ (n := 13) (S := fun W => W.cell? ⟨w.heap.size, 0, none⟩ = some (.slice Af lf.length cf) ∧ True) (ds := []) #[false, false, false, false, false, false, false, false, false, false, false, false, false] (by kernel_rfl) rfl rfl ⟨(blk_cell (blk_drew HL4.out.box) 0).trans rfl, trivial⟩ (fun hHeld => ?_)
        have HL5 := Aside0.mk (HL4.out.below (below_drew (Below.refl _ _)))
        have HV5 := Aside0.mk (Kd.V_drew HV4.out)
        have HR5 := Aside0.mk (Kd.R_drew HR4.out)
        generalize w4.drew = w5 at HL5 HV5 HR5 hHeld ⊢
        clear HL4 HV4 HR4
        have hw1 := hwp.out
        refine pure_ (i := 0) (N := some 69) (v := ?_) (a' := ?_) #[true, false, false, false, false, false, false, false, false, false, false, false, false] rfl rfl (any_of rfl (by kernel_rfl)) (fun _ _ _ h => h) (Or.inl ⟨by rfl, ?_⟩) ?_ ?_
        rotate_left
        · intro w'
          go_simp
          with_reducible rfl
        rotate_left
        · simp only [Act.put, List.setIfInBounds_toArray, List.set_cons_zero, List.set_cons_succ, i64_w, i32_w]
          rfl
        refine pure_ (i := 1) (N := some 70) (v := ?_) (a' := ?_) #[true, true, false, false, false, false, false, false, false, false, false, false, false] rfl rfl (any_of rfl (by kernel_rfl)) (fun _ _ _ h => h) (Or.inl ⟨by rfl, ?_⟩) ?_ ?_
        rotate_left
        · intro w'
          go_simp
          with_reducible rfl
        rotate_left
        · simp only [Act.put, List.setIfInBounds_toArray, List.set_cons_zero, List.set_cons_succ, i64_w, i32_w]
          rfl
        refine pure_ (i := 2) (N := some 71) (v := ?_) (a' := ?_) #[true, true, true, false, false, false, false, false, false, false, false, false, false] rfl rfl (any_of rfl (by kernel_rfl)) (fun _ _ _ h => h) (Or.inl ⟨by rfl, ?_⟩) ?_ ?_
        rotate_left
        · intro w'
          go_simp
          with_reducible rfl
        rotate_left
        · simp only [Act.put, List.setIfInBounds_toArray, List.set_cons_zero, List.set_cons_succ, i64_w, i32_w]
          rfl
        refine take_ (i := 3) (N := some 72) (v := ?_) (a' := ?_) #[true, true, true, true, false, false, false, false, false, false, false, false, false] rfl rfl (take_of rfl (by kernel_rfl)) (fun _ _ _ h => h) (Or.inl ⟨by rfl, ?_⟩) hHeld ?_ ?_
        rotate_left
        · rintro w' ⟨s0, s1⟩
          go_simp
          with_reducible rfl
        rotate_left
        · simp only [Act.put, List.setIfInBounds_toArray, List.set_cons_zero, List.set_cons_succ, i64_w, i32_w]
          rfl
        refine pure_ (i := 5) (N := some 74) (v := ?_) (a' := ?_) #[true, true, true, true, false, true, false, false, false, false, false, false, false] rfl rfl (any_of rfl (by kernel_rfl)) (fun _ _ _ h => h) (Or.inl ⟨by rfl, ?_⟩) ?_ ?_
        rotate_left
        · intro w'
          go_simp
          with_reducible rfl
        rotate_left
        · simp only [Act.put, List.setIfInBounds_toArray, List.set_cons_zero, List.set_cons_succ, i64_w, i32_w]
          rfl
        refine pure_ (i := 6) (N := some 75) (v := .slice (if cw = 1 then some ad else some (ad.add 1)) (ws.drop 1).length (cw - 1)) (a' := ?_) #[true, true, true, true, false, true, true, false, false, false, false, false, false] rfl rfl (any_of rfl (by kernel_rfl)) (fun _ _ _ h => h) (Or.inl ⟨by rfl, ?_⟩) ?_ ?_
        · intro w'
          have hcw := (Kd.R_reads' HR5.out).2.1
          go_simp
          intro hcc
          exact absurd hcc (by omega)
        rotate_left
        · simp only [Act.put, List.setIfInBounds_toArray, List.set_cons_zero, List.set_cons_succ, i64_w, i32_w]
          rfl
        refine one_ (i := 4) (N := some 73) #[true, true, true, true, true, true, true, false, false, false, false, false, false] rfl rfl (one_of rfl (by kernel_rfl)) (by decide) (fun K hK => ?_)
        refine goes_ Tryd.func17 (by kernel_rfl) rfl #[.agg #[.slice Af lf.length cf]] (by rfl) rfl rfl (by (try simp only [List.map_toArray, List.map_cons, List.map_nil]); first | done | rfl) ?_
        refine (hall_Open.calls k2 Af cf lf (ws.drop 1) _ (Kd.V_reads' HV5.out).2.2 (Kd.V_reads' HV5.out).2.1 F2.out).mono ?_
        rintro e w6 ⟨vo, rfl, ho, hb⟩
        obtain ⟨Ao, co, rfl⟩ := Kd.R_slice ho
        have HO6 := Aside0.mk ho
        have HL6 := Aside0.mk (HL5.out.below hb)
        have HR6 := Aside0.mk (Kd.R_below HR5.out hb)
        clear ho hb HL5 HV5 HR5 hHeld
        refine ⟨_, rfl, ?_⟩
        refine hK.out _ _ (⟨(blk_cell HL6.out.box 0).trans rfl, trivial⟩) (fun hHeld => ?_)
        clear hK K
        refine norm_ (a' := ?_) ?_ ?_
        rotate_left
        · show Act.put _ (some 73) _ = _
          simp only [Act.put, List.setIfInBounds_toArray, List.set_cons_zero, List.set_cons_succ, i64_w, i32_w]
          rfl
        refine one_ (i := 7) (N := some 76) #[true, true, true, true, true, true, true, true, false, false, false, false, false] rfl rfl (one_of rfl (by kernel_rfl)) (by decide) (fun K hK => ?_)
        refine goes_ Tryd.func16 (by kernel_rfl) rfl #[.slice Ao (ws.drop 1).length co, .slice (if cw = 1 then some ad else some (ad.add 1)) (ws.drop 1).length (cw - 1)] (by rfl) rfl rfl (by (try simp only [List.map_toArray, List.map_cons, List.map_nil]); first | done | rfl) ?_
        refine (switchboardref02_Same.calls k3 Ao co (ws.drop 1) _ _ (ws.drop 1) true _ (Kd.R_reads' HO6.out).2.2 (Kd.R_reads' HO6.out).2.1 (Kd.C_drop (m := 1) (c := cw) (Kd.R_reads' HR6.out).2.2 (by have := hwp.out; omega) (Kd.R_reads' HR6.out).2.1) (by have := (Kd.R_reads' HR6.out).2.1; rw [List.length_drop]; omega) F3.out).mono ?_
        rintro e w7 ⟨rfl, hd⟩
        have HL7 := Aside0.mk (HL6.out.below hd.below)
        clear hd HL6 HR6 HO6 hHeld
        refine ⟨_, rfl, ?_⟩
        refine hK.out _ _ (⟨(blk_cell HL7.out.box 0).trans rfl, trivial⟩) (fun hHeld => ?_)
        clear hK K
        refine norm_ (a' := ?_) ?_ ?_
        rotate_left
        · show Act.put _ (some 76) _ = _
          simp only [Act.put, List.setIfInBounds_toArray, List.set_cons_zero, List.set_cons_succ, i64_w, i32_w]
          rfl
        refine pure_ (i := 8) (N := some 77) (v := ?_) (a' := ?_) #[true, true, true, true, true, true, true, true, true, false, false, false, false] rfl rfl (any_of rfl (by kernel_rfl)) (fun _ _ _ h => h) (Or.inl ⟨by rfl, ?_⟩) ?_ ?_
        rotate_left
        · intro w'
          go_simp
          with_reducible rfl
        rotate_left
        · simp only [Act.put, List.setIfInBounds_toArray, List.set_cons_zero, List.set_cons_succ, i64_w, i32_w]
          rfl
        refine pure_ (i := 9) (N := some 78) (v := ?_) (a' := ?_) #[true, true, true, true, true, true, true, true, true, true, false, false, false] rfl rfl (any_of rfl (by kernel_rfl)) (fun _ _ _ h => h) (Or.inl ⟨by rfl, ?_⟩) ?_ ?_
        rotate_left
        · intro w'
          go_simp
          with_reducible rfl
        rotate_left
        · simp only [Act.put, List.setIfInBounds_toArray, List.set_cons_zero, List.set_cons_succ, i64_w, i32_w]
          rfl
        refine one_ (i := 10) (N := some 79) #[true, true, true, true, true, true, true, true, true, true, true, false, false] rfl rfl (one_of rfl (by kernel_rfl)) (by decide) (fun K hK => ?_)
        refine goes_ Tryd.func9 (by kernel_rfl) rfl #[] (by rfl) rfl rfl (by (try simp only [List.map_toArray, List.map_cons, List.map_nil]); first | done | rfl) ?_
        refine (switchboardlaw24_awake.calls true _ rfl).mono ?_
        rintro e w8 ⟨rfl, hb⟩
        have HL8 := Aside0.mk (HL7.out.below hb)
        clear hb HL7 hHeld
        refine ⟨_, rfl, ?_⟩
        refine hK.out _ _ (⟨(blk_cell HL8.out.box 0).trans rfl, trivial⟩) (fun hHeld => ?_)
        clear hK K
        refine norm_ (a' := ?_) ?_ ?_
        rotate_left
        · show Act.put _ (some 79) _ = _
          simp only [Act.put, List.setIfInBounds_toArray, List.set_cons_zero, List.set_cons_succ, i64_w, i32_w]
          rfl
        refine pure_ (i := 11) (N := some 80) (v := ?_) (a' := ?_) #[true, true, true, true, true, true, true, true, true, true, true, true, false] rfl rfl (any_of rfl (by kernel_rfl)) (fun _ _ _ h => h) (Or.inl ⟨by rfl, ?_⟩) ?_ ?_
        rotate_left
        · intro w'
          go_simp
          with_reducible rfl
        rotate_left
        · simp only [Act.put, List.setIfInBounds_toArray, List.set_cons_zero, List.set_cons_succ, i64_w, i32_w]
          rfl
        refine pure_ (i := 12) (N := some 2) (v := ?_) (a' := ?_) #[true, true, true, true, true, true, true, true, true, true, true, true, true] rfl rfl (any_of rfl (by kernel_rfl)) (fun _ _ _ h => h) (Or.inl ⟨by rfl, ?_⟩) ?_ ?_
        rotate_left
        · intro w'
          go_simp
          with_reducible rfl
        rotate_left
        · simp only [Act.put, List.setIfInBounds_toArray, List.set_cons_zero, List.set_cons_succ, i64_w, i32_w]
          rfl
        refine done_ (done_of rfl (by kernel_rfl)) ?_
        go_wp2
        all_goals (go_ret; exact ⟨rfl, HL8.out.hb⟩)
    have k1 : decide ((i : Int) < (l0.length : Int)) = true := decide_eq_true (by omega)
    have k1n : decide (i < l0.length) = true := decide_eq_true hlt
    by_cases h20 : i < 20
    case neg =>
      have k2 : decide ((i : Int) < 20) = false := decide_eq_false (by omega)
      have k2n : decide (i < 20) = false := decide_eq_false h20
      have hws : ws ≠ [] := HO.out.first (by omega)
      clear hlt h20
      have hlw : 0 < ws.length := List.length_pos_iff.2 hws
      obtain ⟨x0, k2, k3, lf, e1, e2, e3, e4⟩ := HO.out.finish hws
      have F1 := Aside0.mk e2
      have HXE := Aside0.mk e1
      have F2 := Aside0.mk e3
      have F3 := Aside0.mk e4
      obtain ⟨ad, hA, hx⟩ := Kd.at_int (Kd.R_reads' HR.out).2.2 0 (by omega) (by omega)
      cases hA
      rw [e1] at hx
      have HX : Aside0 (wr.cell? ad = some (.int .i64 x0)) := ⟨by rw [show (0 : Int).toNat = 0 from rfl, addr_add0] at hx; exact hx⟩
      have hwe : ((ws.length : Int) == 0) = false := beq_eq_false_iff_ne.2 (by omega)
      have hwn : (ws.length == 0) = false := beq_eq_false_iff_ne.2 (by omega)
      have hwp := Aside0.mk hlw
      have HWI := Aside0.mk (show (0 : Int) < (ws.length : Int) by omega)
      clear e2 e3 e4 hx e1 hws
      go_upto_region 15 with (fail)
      refine start_ (n := 10) (S := fun W => W.cell? ⟨w.heap.size, 0, none⟩ = some (.slice Ah l.length ch) ∧ W.cell? ad = some (.int .i64 x0)) (ds := [8]) #[false, false, false, false, false, false, false, false, false, false] (by kernel_rfl) rfl rfl ⟨(blk_cell (blk_drew HL.out.box) 0).trans rfl, HX.out⟩ (fun hHeld => ?_)
      have HL2 := Aside0.mk (HL.out.below (below_drew (Below.refl _ _)))
      have HV2 := Aside0.mk (Kd.V_drew HV.out)
      have HR2 := Aside0.mk (Kd.R_drew HR.out)
      generalize wr.drew = w2 at HL2 HV2 HR2 hHeld ⊢
      clear HL HV HR
      refine take_ (i := 0) (N := some 62) (v := ?_) (a' := ?_) #[true, false, false, false, false, false, false, false, false, false] rfl rfl (take_of rfl (by kernel_rfl)) (fun _ _ _ h => h) (Or.inl ⟨by rfl, ?_⟩) hHeld ?_ ?_
      rotate_left
      · rintro w' ⟨s0, s1⟩
        go_simp
        with_reducible rfl
      rotate_left
      · simp only [Act.put, List.setIfInBounds_toArray, List.set_cons_zero, List.set_cons_succ, i64_w, i32_w]
        rfl
      refine pure_ (i := 1) (N := some 63) (v := ?_) (a' := ?_) #[true, true, false, false, false, false, false, false, false, false] rfl rfl (any_of rfl (by kernel_rfl)) (fun _ _ _ h => h) (Or.inl ⟨by rfl, ?_⟩) ?_ ?_
      rotate_left
      · intro w'
        go_simp
        with_reducible rfl
      rotate_left
      · simp only [Act.put, List.setIfInBounds_toArray, List.set_cons_zero, List.set_cons_succ, i64_w, i32_w]
        rfl
      refine pure_ (i := 2) (N := some 64) (v := ?_) (a' := ?_) #[true, true, true, false, false, false, false, false, false, false] rfl rfl (any_of rfl (by kernel_rfl)) (fun _ _ _ h => h) (Or.inl ⟨by rfl, ?_⟩) ?_ ?_
      rotate_left
      · intro w'
        go_simp
        with_reducible rfl
      rotate_left
      · simp only [Act.put, List.setIfInBounds_toArray, List.set_cons_zero, List.set_cons_succ, i64_w, i32_w]
        rfl
      refine take_ (i := 3) (N := some 65) (v := ?_) (a' := ?_) #[true, true, true, true, false, false, false, false, false, false] rfl rfl (take_of rfl (by kernel_rfl)) (fun _ _ _ h => h) (Or.inl ⟨by rfl, ?_⟩) hHeld ?_ ?_
      rotate_left
      · rintro w' ⟨s0, s1⟩
        go_simp
        with_reducible rfl
      rotate_left
      · simp only [Act.put, List.setIfInBounds_toArray, List.set_cons_zero, List.set_cons_succ, i64_w, i32_w]
        rfl
      refine one_ (i := 4) (N := some 66) #[true, true, true, true, true, false, false, false, false, false] rfl rfl (one_of rfl (by kernel_rfl)) (by decide) (fun K hK => ?_)
      refine goes_ Tryd.func10 (by kernel_rfl) rfl #[.agg #[.slice Ah l.length ch], .int .i64 x0, .slice none 0 0] (by rfl) rfl rfl (by (try simp only [List.map_toArray, List.map_cons, List.map_nil]); first | done | rfl) ?_
      refine (hall_Finish.calls _ Ah ch l x0 (fun _ => False) none 0 [] lf 0 _ HV2.out (Kd.V_nil _ _ _ _ _) F1.out).mono ?_
      rintro e w3 ⟨vf, rfl, hvf, hb⟩
      have HVF := Aside0.mk (Kd.V_mono (ok' := fun k => k ≠ w.heap.size) hvf (fun k hk => by rcases hk with (hk | hk) | hk; exact hk.1; exact hk.elim; (have := blk_lt HL2.out.box; omega)))
      obtain ⟨Af, cf, rfl⟩ := Kd.V_slice hvf
      have HL3 := Aside0.mk (HL2.out.below hb)
      have HR3 := Aside0.mk (Kd.R_below HR2.out hb)
      have hx3 := (hb.cell (World.block_lt_of_cell? w2 _ hHeld.2)).trans hHeld.2
      clear hvf hb HL2 HV2 HR2 hHeld
      refine ⟨_, rfl, ?_⟩
      refine hK.out _ _ ⟨(blk_cell HL3.out.box 0).trans rfl, hx3⟩ (fun hHeld => ?_)
      clear hx3
      clear hK K
      refine norm_ (a' := ?_) ?_ ?_
      rotate_left
      · show Act.put _ (some 66) _ = _
        simp only [Act.put, List.setIfInBounds_toArray, List.set_cons_zero, List.set_cons_succ, i64_w, i32_w]
        rfl
      refine pure_ (i := 5) (N := some 61) (v := ?_) (a' := ?_) #[true, true, true, true, true, true, false, false, false, false] rfl rfl (any_of rfl (by kernel_rfl)) (fun _ _ _ h => h) (Or.inl ⟨by rfl, ?_⟩) ?_ ?_
      rotate_left
      · intro w'
        go_simp
        with_reducible rfl
      rotate_left
      · simp only [Act.put, List.setIfInBounds_toArray, List.set_cons_zero, List.set_cons_succ, i64_w, i32_w]
        rfl
      refine pure_ (i := 6) (N := some 67) (v := ?_) (a' := ?_) #[true, true, true, true, true, true, true, false, false, false] rfl rfl (any_of rfl (by kernel_rfl)) (fun _ _ _ h => h) (Or.inl ⟨by rfl, ?_⟩) ?_ ?_
      rotate_left
      · intro w'
        go_simp
        with_reducible rfl
      rotate_left
      · simp only [Act.put, List.setIfInBounds_toArray, List.set_cons_zero, List.set_cons_succ, i64_w, i32_w]
        rfl
      refine pure_ (i := 7) (N := some 68) (v := ?_) (a' := ?_) #[true, true, true, true, true, true, true, true, false, false] rfl rfl (any_of rfl (by kernel_rfl)) (fun _ _ _ h => h) (Or.inl ⟨by rfl, ?_⟩) ?_ ?_
      rotate_left
      · intro w'
        go_simp
        with_reducible rfl
      rotate_left
      · simp only [Act.put, List.setIfInBounds_toArray, List.set_cons_zero, List.set_cons_succ, i64_w, i32_w]
        rfl
      refine last_ (i := 8) (N := none) #[true, true, true, true, true, true, true, true, true, false] rfl rfl (one_of rfl (by kernel_rfl)) (by decide) (fun K hK => ?_)
      have hs : w3.cell? ⟨w.heap.size, 0, none⟩ = some (.slice Ah l.length ch) := (blk_cell HL3.out.box 0).trans rfl
      have hf := blk_frozen HL3.out.box 0
      refine skip_ (w1 := ?_) (by rfl) rfl ?_ ?_
      rotate_left
      · go_simp
        rfl
      clear hs hf
      have HL4 := Aside0.mk (HL3.out.put (.slice Af lf.length cf))
      have HV4 := Aside0.mk (Kd.V_far (p := ⟨w.heap.size, 0, none⟩) HVF.out (fun k hk => hk) (.slice Af lf.length cf))
      have HR4 := Aside0.mk (Kd.R_far (p := ⟨w.heap.size, 0, none⟩) HR3.out (fun k hk => hk) (.slice Af lf.length cf))
      generalize (w3.setCell ⟨w.heap.size, 0, none⟩ (.slice Af lf.length cf)) = w4 at HL4 HV4 HR4 ⊢
      clear HL3 HVF HR3 hHeld
      refine hK.out _ _ ?_
      clear hK K
      refine pure_ (i := 9) (N := some 9) (v := ?_) (a' := ?_) #[true, true, true, true, true, true, true, true, true, true] rfl rfl (any_of rfl (by kernel_rfl)) (fun _ _ _ h => h) (Or.inl ⟨by rfl, ?_⟩) ?_ ?_
      rotate_left
      · intro w'
        go_simp
        with_reducible rfl
      rotate_left
      · simp only [Act.put, List.setIfInBounds_toArray, List.set_cons_zero, List.set_cons_succ, i64_w, i32_w]
        rfl
      refine done_ (done_of rfl (by kernel_rfl)) ?_
      go_upto_region 16 with (fail)
      refine start_ (n := 13) (S := fun W => W.cell? ⟨w.heap.size, 0, none⟩ = some (.slice Af lf.length cf) ∧ True) (ds := []) #[false, false, false, false, false, false, false, false, false, false, false, false, false] (by kernel_rfl) rfl rfl ⟨(blk_cell (blk_drew HL4.out.box) 0).trans rfl, trivial⟩ (fun hHeld => ?_)
      have HL5 := Aside0.mk (HL4.out.below (below_drew (Below.refl _ _)))
      have HV5 := Aside0.mk (Kd.V_drew HV4.out)
      have HR5 := Aside0.mk (Kd.R_drew HR4.out)
      generalize w4.drew = w5 at HL5 HV5 HR5 hHeld ⊢
      clear HL4 HV4 HR4
      have hw1 := hwp.out
      refine pure_ (i := 0) (N := some 69) (v := ?_) (a' := ?_) #[true, false, false, false, false, false, false, false, false, false, false, false, false] rfl rfl (any_of rfl (by kernel_rfl)) (fun _ _ _ h => h) (Or.inl ⟨by rfl, ?_⟩) ?_ ?_
      rotate_left
      · intro w'
        go_simp
        with_reducible rfl
      rotate_left
      · simp only [Act.put, List.setIfInBounds_toArray, List.set_cons_zero, List.set_cons_succ, i64_w, i32_w]
        rfl
      refine pure_ (i := 1) (N := some 70) (v := ?_) (a' := ?_) #[true, true, false, false, false, false, false, false, false, false, false, false, false] rfl rfl (any_of rfl (by kernel_rfl)) (fun _ _ _ h => h) (Or.inl ⟨by rfl, ?_⟩) ?_ ?_
      rotate_left
      · intro w'
        go_simp
        with_reducible rfl
      rotate_left
      · simp only [Act.put, List.setIfInBounds_toArray, List.set_cons_zero, List.set_cons_succ, i64_w, i32_w]
        rfl
      refine pure_ (i := 2) (N := some 71) (v := ?_) (a' := ?_) #[true, true, true, false, false, false, false, false, false, false, false, false, false] rfl rfl (any_of rfl (by kernel_rfl)) (fun _ _ _ h => h) (Or.inl ⟨by rfl, ?_⟩) ?_ ?_
      rotate_left
      · intro w'
        go_simp
        with_reducible rfl
      rotate_left
      · simp only [Act.put, List.setIfInBounds_toArray, List.set_cons_zero, List.set_cons_succ, i64_w, i32_w]
        rfl
      refine take_ (i := 3) (N := some 72) (v := ?_) (a' := ?_) #[true, true, true, true, false, false, false, false, false, false, false, false, false] rfl rfl (take_of rfl (by kernel_rfl)) (fun _ _ _ h => h) (Or.inl ⟨by rfl, ?_⟩) hHeld ?_ ?_
      rotate_left
      · rintro w' ⟨s0, s1⟩
        go_simp
        with_reducible rfl
      rotate_left
      · simp only [Act.put, List.setIfInBounds_toArray, List.set_cons_zero, List.set_cons_succ, i64_w, i32_w]
        rfl
      refine pure_ (i := 5) (N := some 74) (v := ?_) (a' := ?_) #[true, true, true, true, false, true, false, false, false, false, false, false, false] rfl rfl (any_of rfl (by kernel_rfl)) (fun _ _ _ h => h) (Or.inl ⟨by rfl, ?_⟩) ?_ ?_
      rotate_left
      · intro w'
        go_simp
        with_reducible rfl
      rotate_left
      · simp only [Act.put, List.setIfInBounds_toArray, List.set_cons_zero, List.set_cons_succ, i64_w, i32_w]
        rfl
      refine pure_ (i := 6) (N := some 75) (v := .slice (if cw = 1 then some ad else some (ad.add 1)) (ws.drop 1).length (cw - 1)) (a' := ?_) #[true, true, true, true, false, true, true, false, false, false, false, false, false] rfl rfl (any_of rfl (by kernel_rfl)) (fun _ _ _ h => h) (Or.inl ⟨by rfl, ?_⟩) ?_ ?_
      · intro w'
        have hcw := (Kd.R_reads' HR5.out).2.1
        go_simp
        intro hcc
        exact absurd hcc (by omega)
      rotate_left
      · simp only [Act.put, List.setIfInBounds_toArray, List.set_cons_zero, List.set_cons_succ, i64_w, i32_w]
        rfl
      refine one_ (i := 4) (N := some 73) #[true, true, true, true, true, true, true, false, false, false, false, false, false] rfl rfl (one_of rfl (by kernel_rfl)) (by decide) (fun K hK => ?_)
      refine goes_ Tryd.func17 (by kernel_rfl) rfl #[.agg #[.slice Af lf.length cf]] (by rfl) rfl rfl (by (try simp only [List.map_toArray, List.map_cons, List.map_nil]); first | done | rfl) ?_
      refine (hall_Open.calls k2 Af cf lf (ws.drop 1) _ (Kd.V_reads' HV5.out).2.2 (Kd.V_reads' HV5.out).2.1 F2.out).mono ?_
      rintro e w6 ⟨vo, rfl, ho, hb⟩
      obtain ⟨Ao, co, rfl⟩ := Kd.R_slice ho
      have HO6 := Aside0.mk ho
      have HL6 := Aside0.mk (HL5.out.below hb)
      have HR6 := Aside0.mk (Kd.R_below HR5.out hb)
      clear ho hb HL5 HV5 HR5 hHeld
      refine ⟨_, rfl, ?_⟩
      refine hK.out _ _ (⟨(blk_cell HL6.out.box 0).trans rfl, trivial⟩) (fun hHeld => ?_)
      clear hK K
      refine norm_ (a' := ?_) ?_ ?_
      rotate_left
      · show Act.put _ (some 73) _ = _
        simp only [Act.put, List.setIfInBounds_toArray, List.set_cons_zero, List.set_cons_succ, i64_w, i32_w]
        rfl
      refine one_ (i := 7) (N := some 76) #[true, true, true, true, true, true, true, true, false, false, false, false, false] rfl rfl (one_of rfl (by kernel_rfl)) (by decide) (fun K hK => ?_)
      refine goes_ Tryd.func16 (by kernel_rfl) rfl #[.slice Ao (ws.drop 1).length co, .slice (if cw = 1 then some ad else some (ad.add 1)) (ws.drop 1).length (cw - 1)] (by rfl) rfl rfl (by (try simp only [List.map_toArray, List.map_cons, List.map_nil]); first | done | rfl) ?_
      refine (switchboardref02_Same.calls k3 Ao co (ws.drop 1) _ _ (ws.drop 1) true _ (Kd.R_reads' HO6.out).2.2 (Kd.R_reads' HO6.out).2.1 (Kd.C_drop (m := 1) (c := cw) (Kd.R_reads' HR6.out).2.2 (by have := hwp.out; omega) (Kd.R_reads' HR6.out).2.1) (by have := (Kd.R_reads' HR6.out).2.1; rw [List.length_drop]; omega) F3.out).mono ?_
      rintro e w7 ⟨rfl, hd⟩
      have HL7 := Aside0.mk (HL6.out.below hd.below)
      clear hd HL6 HR6 HO6 hHeld
      refine ⟨_, rfl, ?_⟩
      refine hK.out _ _ (⟨(blk_cell HL7.out.box 0).trans rfl, trivial⟩) (fun hHeld => ?_)
      clear hK K
      refine norm_ (a' := ?_) ?_ ?_
      rotate_left
      · show Act.put _ (some 76) _ = _
        simp only [Act.put, List.setIfInBounds_toArray, List.set_cons_zero, List.set_cons_succ, i64_w, i32_w]
        rfl
      refine pure_ (i := 8) (N := some 77) (v := ?_) (a' := ?_) #[true, true, true, true, true, true, true, true, true, false, false, false, false] rfl rfl (any_of rfl (by kernel_rfl)) (fun _ _ _ h => h) (Or.inl ⟨by rfl, ?_⟩) ?_ ?_
      rotate_left
      · intro w'
        go_simp
        with_reducible rfl
      rotate_left
      · simp only [Act.put, List.setIfInBounds_toArray, List.set_cons_zero, List.set_cons_succ, i64_w, i32_w]
        rfl
      refine pure_ (i := 9) (N := some 78) (v := ?_) (a' := ?_) #[true, true, true, true, true, true, true, true, true, true, false, false, false] rfl rfl (any_of rfl (by kernel_rfl)) (fun _ _ _ h => h) (Or.inl ⟨by rfl, ?_⟩) ?_ ?_
      rotate_left
      · intro w'
        go_simp
        with_reducible rfl
      rotate_left
      · simp only [Act.put, List.setIfInBounds_toArray, List.set_cons_zero, List.set_cons_succ, i64_w, i32_w]
        rfl
      refine one_ (i := 10) (N := some 79) #[true, true, true, true, true, true, true, true, true, true, true, false, false] rfl rfl (one_of rfl (by kernel_rfl)) (by decide) (fun K hK => ?_)
      refine goes_ Tryd.func9 (by kernel_rfl) rfl #[] (by rfl) rfl rfl (by (try simp only [List.map_toArray, List.map_cons, List.map_nil]); first | done | rfl) ?_
      refine (switchboardlaw24_awake.calls true _ rfl).mono ?_
      rintro e w8 ⟨rfl, hb⟩
      have HL8 := Aside0.mk (HL7.out.below hb)
      clear hb HL7 hHeld
      refine ⟨_, rfl, ?_⟩
      refine hK.out _ _ (⟨(blk_cell HL8.out.box 0).trans rfl, trivial⟩) (fun hHeld => ?_)
      clear hK K
      refine norm_ (a' := ?_) ?_ ?_
      rotate_left
      · show Act.put _ (some 79) _ = _
        simp only [Act.put, List.setIfInBounds_toArray, List.set_cons_zero, List.set_cons_succ, i64_w, i32_w]
        rfl
      refine pure_ (i := 11) (N := some 80) (v := ?_) (a' := ?_) #[true, true, true, true, true, true, true, true, true, true, true, true, false] rfl rfl (any_of rfl (by kernel_rfl)) (fun _ _ _ h => h) (Or.inl ⟨by rfl, ?_⟩) ?_ ?_
      rotate_left
      · intro w'
        go_simp
        with_reducible rfl
      rotate_left
      · simp only [Act.put, List.setIfInBounds_toArray, List.set_cons_zero, List.set_cons_succ, i64_w, i32_w]
        rfl
      refine pure_ (i := 12) (N := some 2) (v := ?_) (a' := ?_) #[true, true, true, true, true, true, true, true, true, true, true, true, true] rfl rfl (any_of rfl (by kernel_rfl)) (fun _ _ _ h => h) (Or.inl ⟨by rfl, ?_⟩) ?_ ?_
      rotate_left
      · intro w'
        go_simp
        with_reducible rfl
      rotate_left
      · simp only [Act.put, List.setIfInBounds_toArray, List.set_cons_zero, List.set_cons_succ, i64_w, i32_w]
        rfl
      refine done_ (done_of rfl (by kernel_rfl)) ?_
      go_wp2
      all_goals (go_ret; exact ⟨rfl, HL8.out.hb⟩)
    have k2 : decide ((i : Int) < 20) = true := decide_eq_true (by omega)
    have k2n : decide (i < 20) = true := decide_eq_true h20
    obtain ⟨t, ht, het⟩ := HT.out i hlt
    obtain ⟨ad, hA, hx⟩ := Kd.at_int HR0.out (i : Int) (by omega) (by omega)
    cases hA
    rw [Int.toNat_natCast, het] at hx
    have HX := Aside0.mk hx
    replace hx := (HL.out.hb.cell (World.block_lt_of_cell? w _ hx)).trans hx
    have hwt : wrap64 (t : Int) = (t : Int) := wrap_small (by omega) (by omega)
    have hwi : wrap64 (1 + (t : Int)) = 1 + (t : Int) := wrap_small (by omega) (by omega)
    have hw1 : wrap64 ((i : Int) + 1) = (i : Int) + 1 := wrap_small (by omega) (by omega)
    obtain ⟨kk, k2, k3, l', ws', e0, hE, hcase, hO', hF2, hF3, hl4⟩ := HO.out.step (id := 1 + (t : Int)) (by omega) (by omega)
    have HE := Aside0.mk hE
    have HO' := Aside0.mk hO'
    have F2 := Aside0.mk hF2
    have F3 := Aside0.mk hF3
    have HC := Aside0.mk hcase
    clear hE hO' hF2 hF3 hl4 hcase het
    go_upto_region 7 with (fail)
    refine start_ (n := 12) (S := fun W => W.cell? ⟨w.heap.size, 0, none⟩ = some (.slice Ah l.length ch)) (ds := []) #[false, false, false, false, false, false, false, false, false, false, false, false] (by kernel_rfl) rfl rfl ((blk_cell (blk_drew HL.out.box) 0).trans rfl) (fun hHeld => ?_)
    have HZ : Aside0 (wr.heap.size ≤ wr.drew.heap.size) := ⟨Nat.le_refl _⟩
    have NL := Aside0.mk (HL.out.below (below_drew (Below.refl _ _)))
    have NV := Aside0.mk (Kd.V_drew HV.out)
    have NR := Aside0.mk (Kd.R_mono (ok' := fun k => k ≠ w.heap.size ∧ k < wr.heap.size) (Kd.R_bound (Kd.R_drew HR.out)) (fun k hk => ⟨hk.1, hk.2.2.1⟩))
    have HFR : Aside0 (∀ k, wr.heap.size ≤ k → k ≠ w.heap.size ∧ some k ≠ (Value.slice Aw ws.length cw).ownBlock) := ⟨fun k hk => ⟨by have := HGW.out; omega, fun e => by have := Kd.R_lt HR.out k e.symm; omega⟩⟩
    clear HL HV HR hx
    have HL := NL
    have HV := NV
    have HR := NR
    clear NL NV NR
    generalize wr.drew = w1 at HZ HL HV HR hHeld ⊢
    refine take_ (i := 0) (N := some 27) (v := ?_) (a' := ?_) #[true, false, false, false, false, false, false, false, false, false, false, false] rfl rfl (take_of rfl (by kernel_rfl)) (fun _ _ _ h => h) (Or.inl ⟨by rfl, ?_⟩) hHeld ?_ ?_
    rotate_left
    · rintro w' s0
      go_simp
      with_reducible rfl
    rotate_left
    · simp only [Act.put, List.setIfInBounds_toArray, List.set_cons_zero, List.set_cons_succ, i64_w, i32_w]
      rfl
    refine pure_ (i := 2) (N := some 29) (v := ?_) (a' := ?_) #[true, false, true, false, false, false, false, false, false, false, false, false] rfl rfl (any_of rfl (by kernel_rfl)) (fun _ _ _ h => h) (Or.inl ⟨by rfl, ?_⟩) ?_ ?_
    rotate_left
    · intro w'
      go_simp
      with_reducible rfl
    rotate_left
    · simp only [Act.put, List.setIfInBounds_toArray, List.set_cons_zero, List.set_cons_succ, i64_w, i32_w]
      rfl
    clear hHeld
    refine join_ (σ := Value × Value × Value × Value × Nat) 2 #[true, true, true, true, true, true, true, true, true, true, false, false] (fun s_ => [(28, s_.1), (30, s_.2.1), (31, s_.2.2.1), (32, .tuple #[.agg #[s_.2.2.2.1], .int .i64 e0]), (26, .tuple #[.agg #[s_.2.2.2.1], .int .i64 e0]), (33, .agg #[s_.2.2.2.1]), (34, .int .i64 e0), (7, .pointer (some ⟨s_.2.2.2.2, 0, none⟩))]) (fun s_ w' => (w'.cell? ⟨w.heap.size, 0, none⟩ = some (.slice Ah l.length ch)) ∧ (wr.heap.size ≤ w'.heap.size) ∧ (HW w w' w.heap.size #[.slice Ah l.length ch]) ∧ (Kd.R (Kd.int .i64) 3 w' w.heap.size (fun k => k ≠ w.heap.size ∧ k < wr.heap.size) (Value.slice Aw ws.length cw) ws) ∧ (Kd.V k44 44 w' 0 (fun k => (k ≠ w.heap.size ∧ some k ≠ (Value.slice Aw ws.length cw).ownBlock) ∧ k ≠ s_.2.2.2.2) s_.2.2.2.1 l') ∧ (w'.heap[s_.2.2.2.2]? = some (.cells #[.slice none 0 0] 24 (0, 0))) ∧ (wr.heap.size ≤ s_.2.2.2.2)) ?_ ?_
    rotate_left
    · intro hJ
      refine three_ (i := 1) (j := 3) (k := 9) (Ni := some 28) (Nj := some 30) (Nk := some 7) #[true, true, true, false, false, false, false, false, false, false, false, false] #[true, false, true, true, false, false, false, false, false, false, false, false] #[true, false, true, false, false, false, false, false, false, true, false, false] rfl rfl rfl rfl rfl rfl (three_of rfl (by kernel_rfl)) (by decide) (by decide) (by decide) (fun K hK => ?_) (fun K hK => ?_) (fun K hK => ?_)
      · refine goes_ Tryd.func19 (by kernel_rfl) rfl #[] (by rfl) rfl rfl (by (try simp only [List.map_toArray, List.map_cons, List.map_nil]); first | done | rfl) ?_
        refine (switchboardlaw24_tiny.calls 1 [tinyY] _ rfl).mono ?_
        rintro e q1 ⟨vt, rfl, hvt, hb⟩
        obtain ⟨At, ct, rfl⟩ := Kd.V_slice hvt
        have HVT := Aside0.mk hvt
        clear hvt
        have NHZ := Aside0.mk (Nat.le_trans HZ.out hb.size)
        have NHL := Aside0.mk (HL.out.below hb)
        have NHR := Aside0.mk (Kd.R_below HR.out hb)
        have NHV := Aside0.mk (Kd.V_below HV.out hb)
        clear HZ HL HR HV
        have HZ := NHZ
        have HL := NHL
        have HR := NHR
        have HV := NHV
        clear NHZ NHL NHR NHV
        clear hb
        refine ⟨_, rfl, ?_⟩
        refine hK.out _ _ ((blk_cell HL.out.box 0).trans rfl) (fun _ => ?_)
        clear hK K
        refine norm_ (a' := ?_) ?_ ?_
        rotate_left
        · show Act.put _ (some 28) _ = _
          simp only [Act.put, List.setIfInBounds_toArray, List.set_cons_zero, List.set_cons_succ, i64_w, i32_w]
          rfl
        refine two_ (i := 3) (j := 9) (Ni := some 30) (Nj := some 7) #[true, true, true, true, false, false, false, false, false, false, false, false] #[true, true, true, false, false, false, false, false, false, true, false, false] rfl rfl rfl rfl (two_of rfl (by kernel_rfl)) (by decide) (by decide) (fun K hK => ?_) (fun K hK => ?_)
        · refine lit_step ?hg (N := 30) ?hd (cs := #[.int .i64 1]) (t := 3) (n := 1) ?hr ?_; (case hd => rfl); (case hg => rfl); (case hr => first | (go_simp; done) | (go_simp; rfl))
          intro g1 hg q2 hbox hb
          have HS1 := Aside0.mk hbox
          have GHS1 : Aside0 (wr.heap.size ≤ g1) := ⟨by rw [hg]; exact HZ.out⟩
          have NHZ := Aside0.mk (Nat.le_trans HZ.out hb.size)
          have NHL := Aside0.mk (HL.out.below hb)
          have NHR := Aside0.mk (Kd.R_below HR.out hb)
          have NHV := Aside0.mk (Kd.V_below HV.out hb)
          have NHVT := Aside0.mk (Kd.V_below HVT.out hb)
          clear HZ HL HR HV HVT
          have HZ := NHZ
          have HL := NHL
          have HR := NHR
          have HV := NHV
          have HVT := NHVT
          clear NHZ NHL NHR NHV NHVT
          clear hg hbox hb
          refine hK.out _ _ ((blk_cell HL.out.box 0).trans rfl) (fun _ => ?_)
          clear hK K
          refine norm_ (a' := ?_) ?_ ?_
          rotate_left
          · show Act.put _ (some 30) _ = _
            simp only [Act.put, List.setIfInBounds_toArray, List.set_cons_zero, List.set_cons_succ, i64_w, i32_w]
            rfl
          refine two_ (i := 4) (j := 9) (Ni := some 31) (Nj := some 7) #[true, true, true, true, true, false, false, false, false, false, false, false] #[true, true, true, true, false, false, false, false, false, true, false, false] rfl rfl rfl rfl (two_of rfl (by kernel_rfl)) (by decide) (by decide) (fun K hK => ?_) (fun K hK => ?_)
          · refine lit_step ?hg (N := 31) ?hd (cs := #[.slice (some ⟨g1, 0, none⟩) 1 1]) (t := 42) (n := 1) ?hr ?_; (case hd => rfl); (case hg => rfl); (case hr => first | (go_simp; done) | (go_simp; rfl))
            intro g2 hg q3 hbox hb
            have HS2 := Aside0.mk hbox
            have GHS2 : Aside0 (wr.heap.size ≤ g2) := ⟨by rw [hg]; exact HZ.out⟩
            have NHZ := Aside0.mk (Nat.le_trans HZ.out hb.size)
            have NHL := Aside0.mk (HL.out.below hb)
            have NHR := Aside0.mk (Kd.R_below HR.out hb)
            have NHV := Aside0.mk (Kd.V_below HV.out hb)
            have NHVT := Aside0.mk (Kd.V_below HVT.out hb)
            have NHS1 := Aside0.mk (blk_below HS1.out hb)
            clear HZ HL HR HV HVT HS1
            have HZ := NHZ
            have HL := NHL
            have HR := NHR
            have HV := NHV
            have HVT := NHVT
            have HS1 := NHS1
            clear NHZ NHL NHR NHV NHVT NHS1
            clear hg hbox hb
            refine hK.out _ _ ((blk_cell HL.out.box 0).trans rfl) (fun _ => ?_)
            clear hK K
            refine norm_ (a' := ?_) ?_ ?_
            rotate_left
            · show Act.put _ (some 31) _ = _
              simp only [Act.put, List.setIfInBounds_toArray, List.set_cons_zero, List.set_cons_succ, i64_w, i32_w]
              rfl
            refine two_ (i := 5) (j := 9) (Ni := some 32) (Nj := some 7) #[true, true, true, true, true, true, false, false, false, false, false, false] #[true, true, true, true, true, false, false, false, false, true, false, false] rfl rfl rfl rfl (two_of rfl (by kernel_rfl)) (by decide) (by decide) (fun K hK => ?_) (fun K hK => ?_)
            · refine goes_ Tryd.func18 (by kernel_rfl) rfl #[.agg #[.slice Ah l.length ch], .agg #[.int .i64 1, .slice At 1 ct], .int .i64 (1 + (t : Int)), .slice (some ⟨g2, 0, none⟩) 1 1] (by rfl) rfl rfl (by (try simp only [List.map_toArray, List.map_cons, List.map_nil]); first | done | rfl) ?_
              refine (hall_Admit.calls kk _ _ _ _ 1 _ ct [tinyY] (1 + (t : Int)) _ _ 1 [[1]] l' e0 _ HV.out (Kd.V_reads' HVT.out).2.2 (Kd.V_reads' HVT.out).2.1 (row2_V HS1.out HS2.out) HE.out).mono ?_
              rintro e q4 ⟨vn, rfl, hvn, hb⟩
              have HVN := Aside0.mk (Kd.V_mono (ok' := fun k => k ≠ w.heap.size ∧ some k ≠ (Value.slice Aw ws.length cw).ownBlock) hvn (fun k hk => by rcases hk with (hk | hk | hk) | hk; exact hk; (subst hk; exact HFR.out _ GHS1.out); (subst hk; exact HFR.out _ GHS2.out); exact HFR.out k (Nat.le_trans (HZ.out) hk)))
              clear hvn HV
              obtain ⟨An, cn, rfl⟩ := Kd.V_slice HVN.out
              have NHZ := Aside0.mk (Nat.le_trans HZ.out hb.size)
              have NHL := Aside0.mk (HL.out.below hb)
              have NHR := Aside0.mk (Kd.R_below HR.out hb)
              clear HZ HL HR
              have HZ := NHZ
              have HL := NHL
              have HR := NHR
              clear NHZ NHL NHR
              clear hb HVT HS1 HS2
              have HV := HVN
              clear HVN
              refine ⟨_, rfl, ?_⟩
              refine hK.out _ _ ((blk_cell HL.out.box 0).trans rfl) (fun _ => ?_)
              clear hK K
              refine norm_ (a' := ?_) ?_ ?_
              rotate_left
              · show Act.put _ (some 32) _ = _
                simp only [Act.put, List.setIfInBounds_toArray, List.set_cons_zero, List.set_cons_succ, i64_w, i32_w]
                rfl
              refine pure_ (i := 6) (N := some 26) (v := ?_) (a' := ?_) #[true, true, true, true, true, true, true, false, false, false, false, false] rfl rfl (any_of rfl (by kernel_rfl)) (fun _ _ _ h => h) (Or.inl ⟨by rfl, ?_⟩) ?_ ?_
              rotate_left
              · intro w'
                go_simp
                with_reducible rfl
              rotate_left
              · simp only [Act.put, List.setIfInBounds_toArray, List.set_cons_zero, List.set_cons_succ, i64_w, i32_w]
                rfl
              refine pure_ (i := 7) (N := some 33) (v := ?_) (a' := ?_) #[true, true, true, true, true, true, true, true, false, false, false, false] rfl rfl (any_of rfl (by kernel_rfl)) (fun _ _ _ h => h) (Or.inl ⟨by rfl, ?_⟩) ?_ ?_
              rotate_left
              · intro w'
                go_simp
                with_reducible rfl
              rotate_left
              · simp only [Act.put, List.setIfInBounds_toArray, List.set_cons_zero, List.set_cons_succ, i64_w, i32_w]
                rfl
              refine pure_ (i := 8) (N := some 34) (v := ?_) (a' := ?_) #[true, true, true, true, true, true, true, true, true, false, false, false] rfl rfl (any_of rfl (by kernel_rfl)) (fun _ _ _ h => h) (Or.inl ⟨by rfl, ?_⟩) ?_ ?_
              rotate_left
              · intro w'
                go_simp
                with_reducible rfl
              rotate_left
              · simp only [Act.put, List.setIfInBounds_toArray, List.set_cons_zero, List.set_cons_succ, i64_w, i32_w]
                rfl
              refine one_ (i := 9) (N := some 7) #[true, true, true, true, true, true, true, true, true, true, false, false] rfl rfl (one_of rfl (by kernel_rfl)) (by decide) (fun K hK => ?_)
              · refine box_step ?hg (N := 7) ?hd (cs := #[.slice none 0 0]) (t := 24) ?hr ?_; (case hd => rfl); (case hg => rfl); (case hr => first | (go_simp; done) | (go_simp; rfl))
                intro ga hg q5 hbox hb
                have HA := Aside0.mk hbox
                have HG : Aside0 (wr.heap.size ≤ ga) := ⟨by rw [hg]; exact HZ.out⟩
                have NHZ := Aside0.mk (Nat.le_trans HZ.out hb.size)
                have NHL := Aside0.mk (HL.out.below hb)
                have NHR := Aside0.mk (Kd.R_below HR.out hb)
                have NHV := Aside0.mk (Kd.V_below (Kd.V_elderB HV.out ga (Nat.le_of_eq hg.symm)) hb)
                clear HZ HL HR HV
                have HZ := NHZ
                have HL := NHL
                have HR := NHR
                have HV := NHV
                clear NHZ NHL NHR NHV
                clear hg hbox hb
                refine hK.out _ _ ((blk_cell HL.out.box 0).trans rfl) (fun _ => ?_)
                clear hK K
                refine norm_ (a' := ?_) ?_ ?_
                rotate_left
                · show Act.put _ (some 7) _ = _
                  simp only [Act.put, List.setIfInBounds_toArray, List.set_cons_zero, List.set_cons_succ, i64_w, i32_w]
                  rfl
                refine norm_ ?_ (hJ (.agg #[.int .i64 1, .slice At 1 ct], .slice (some ⟨g1, 0, none⟩) 1 1, .slice (some ⟨g2, 0, none⟩) 1 1, .slice An l'.length cn, ga) _ ⟨(blk_cell HL.out.box 0).trans rfl, HZ.out, HL.out, HR.out, HV.out, HA.out, HG.out⟩)
                simp only [putAll, Act.put, List.setIfInBounds_toArray, List.set_cons_zero, List.set_cons_succ] <;> rfl
            · refine box_step ?hg (N := 7) ?hd (cs := #[.slice none 0 0]) (t := 24) ?hr ?_; (case hd => rfl); (case hg => rfl); (case hr => first | (go_simp; done) | (go_simp; rfl))
              intro ga hg q6 hbox hb
              have HA := Aside0.mk hbox
              have HG : Aside0 (wr.heap.size ≤ ga) := ⟨by rw [hg]; exact HZ.out⟩
              have NHZ := Aside0.mk (Nat.le_trans HZ.out hb.size)
              have NHL := Aside0.mk (HL.out.below hb)
              have NHR := Aside0.mk (Kd.R_below HR.out hb)
              have NHV := Aside0.mk (Kd.V_below (Kd.V_elderB HV.out ga (Nat.le_of_eq hg.symm)) hb)
              have NHVT := Aside0.mk (Kd.V_below HVT.out hb)
              have NHS1 := Aside0.mk (blk_below HS1.out hb)
              have NHS2 := Aside0.mk (blk_below HS2.out hb)
              clear HZ HL HR HV HVT HS1 HS2
              have HZ := NHZ
              have HL := NHL
              have HR := NHR
              have HV := NHV
              have HVT := NHVT
              have HS1 := NHS1
              have HS2 := NHS2
              clear NHZ NHL NHR NHV NHVT NHS1 NHS2
              clear hg hbox hb
              refine hK.out _ _ ((blk_cell HL.out.box 0).trans rfl) (fun _ => ?_)
              clear hK K
              refine norm_ (a' := ?_) ?_ ?_
              rotate_left
              · show Act.put _ (some 7) _ = _
                simp only [Act.put, List.setIfInBounds_toArray, List.set_cons_zero, List.set_cons_succ, i64_w, i32_w]
                rfl
              refine one_ (i := 5) (N := some 32) #[true, true, true, true, true, true, false, false, false, true, false, false] rfl rfl (one_of rfl (by kernel_rfl)) (by decide) (fun K hK => ?_)
              · refine goes_ Tryd.func18 (by kernel_rfl) rfl #[.agg #[.slice Ah l.length ch], .agg #[.int .i64 1, .slice At 1 ct], .int .i64 (1 + (t : Int)), .slice (some ⟨g2, 0, none⟩) 1 1] (by rfl) rfl rfl (by (try simp only [List.map_toArray, List.map_cons, List.map_nil]); first | done | rfl) ?_
                refine (hall_Admit.calls kk _ _ _ _ 1 _ ct [tinyY] (1 + (t : Int)) _ _ 1 [[1]] l' e0 _ HV.out (Kd.V_reads' HVT.out).2.2 (Kd.V_reads' HVT.out).2.1 (row2_V HS1.out HS2.out) HE.out).mono ?_
                rintro e q7 ⟨vn, rfl, hvn, hb⟩
                have HVN := Aside0.mk (Kd.V_mono (ok' := fun k => (k ≠ w.heap.size ∧ some k ≠ (Value.slice Aw ws.length cw).ownBlock) ∧ k ≠ ga) hvn (fun k hk => by rcases hk with (hk | hk | hk) | hk; exact hk; (subst hk; exact ⟨HFR.out _ GHS1.out, fun e => by have h_ := HS1.out; rw [e] at h_; have := h_.symm.trans HA.out; simp at this⟩); (subst hk; exact ⟨HFR.out _ GHS2.out, fun e => by have h_ := HS2.out; rw [e] at h_; have := h_.symm.trans HA.out; simp at this⟩); exact ⟨HFR.out k (Nat.le_trans (HZ.out) hk), fun e => by have h_ := blk_lt HA.out; omega⟩))
                clear hvn HV
                obtain ⟨An, cn, rfl⟩ := Kd.V_slice HVN.out
                have NHZ := Aside0.mk (Nat.le_trans HZ.out hb.size)
                have NHL := Aside0.mk (HL.out.below hb)
                have NHR := Aside0.mk (Kd.R_below HR.out hb)
                have NHA := Aside0.mk (blk_below HA.out hb)
                clear HZ HL HR HA
                have HZ := NHZ
                have HL := NHL
                have HR := NHR
                have HA := NHA
                clear NHZ NHL NHR NHA
                clear hb HVT HS1 HS2
                have HV := HVN
                clear HVN
                refine ⟨_, rfl, ?_⟩
                refine hK.out _ _ ((blk_cell HL.out.box 0).trans rfl) (fun _ => ?_)
                clear hK K
                refine norm_ (a' := ?_) ?_ ?_
                rotate_left
                · show Act.put _ (some 32) _ = _
                  simp only [Act.put, List.setIfInBounds_toArray, List.set_cons_zero, List.set_cons_succ, i64_w, i32_w]
                  rfl
                refine pure_ (i := 6) (N := some 26) (v := ?_) (a' := ?_) #[true, true, true, true, true, true, true, false, false, true, false, false] rfl rfl (any_of rfl (by kernel_rfl)) (fun _ _ _ h => h) (Or.inl ⟨by rfl, ?_⟩) ?_ ?_
                rotate_left
                · intro w'
                  go_simp
                  with_reducible rfl
                rotate_left
                · simp only [Act.put, List.setIfInBounds_toArray, List.set_cons_zero, List.set_cons_succ, i64_w, i32_w]
                  rfl
                refine pure_ (i := 7) (N := some 33) (v := ?_) (a' := ?_) #[true, true, true, true, true, true, true, true, false, true, false, false] rfl rfl (any_of rfl (by kernel_rfl)) (fun _ _ _ h => h) (Or.inl ⟨by rfl, ?_⟩) ?_ ?_
                rotate_left
                · intro w'
                  go_simp
                  with_reducible rfl
                rotate_left
                · simp only [Act.put, List.setIfInBounds_toArray, List.set_cons_zero, List.set_cons_succ, i64_w, i32_w]
                  rfl
                refine pure_ (i := 8) (N := some 34) (v := ?_) (a' := ?_) #[true, true, true, true, true, true, true, true, true, true, false, false] rfl rfl (any_of rfl (by kernel_rfl)) (fun _ _ _ h => h) (Or.inl ⟨by rfl, ?_⟩) ?_ ?_
                rotate_left
                · intro w'
                  go_simp
                  with_reducible rfl
                rotate_left
                · simp only [Act.put, List.setIfInBounds_toArray, List.set_cons_zero, List.set_cons_succ, i64_w, i32_w]
                  rfl
                refine norm_ ?_ (hJ (.agg #[.int .i64 1, .slice At 1 ct], .slice (some ⟨g1, 0, none⟩) 1 1, .slice (some ⟨g2, 0, none⟩) 1 1, .slice An l'.length cn, ga) _ ⟨(blk_cell HL.out.box 0).trans rfl, HZ.out, HL.out, HR.out, HV.out, HA.out, HG.out⟩)
                simp only [putAll, Act.put, List.setIfInBounds_toArray, List.set_cons_zero, List.set_cons_succ] <;> rfl
          · refine box_step ?hg (N := 7) ?hd (cs := #[.slice none 0 0]) (t := 24) ?hr ?_; (case hd => rfl); (case hg => rfl); (case hr => first | (go_simp; done) | (go_simp; rfl))
            intro ga hg q8 hbox hb
            have HA := Aside0.mk hbox
            have HG : Aside0 (wr.heap.size ≤ ga) := ⟨by rw [hg]; exact HZ.out⟩
            have NHZ := Aside0.mk (Nat.le_trans HZ.out hb.size)
            have NHL := Aside0.mk (HL.out.below hb)
            have NHR := Aside0.mk (Kd.R_below HR.out hb)
            have NHV := Aside0.mk (Kd.V_below (Kd.V_elderB HV.out ga (Nat.le_of_eq hg.symm)) hb)
            have NHVT := Aside0.mk (Kd.V_below HVT.out hb)
            have NHS1 := Aside0.mk (blk_below HS1.out hb)
            clear HZ HL HR HV HVT HS1
            have HZ := NHZ
            have HL := NHL
            have HR := NHR
            have HV := NHV
            have HVT := NHVT
            have HS1 := NHS1
            clear NHZ NHL NHR NHV NHVT NHS1
            clear hg hbox hb
            refine hK.out _ _ ((blk_cell HL.out.box 0).trans rfl) (fun _ => ?_)
            clear hK K
            refine norm_ (a' := ?_) ?_ ?_
            rotate_left
            · show Act.put _ (some 7) _ = _
              simp only [Act.put, List.setIfInBounds_toArray, List.set_cons_zero, List.set_cons_succ, i64_w, i32_w]
              rfl
            refine one_ (i := 4) (N := some 31) #[true, true, true, true, true, false, false, false, false, true, false, false] rfl rfl (one_of rfl (by kernel_rfl)) (by decide) (fun K hK => ?_)
            · refine lit_step ?hg (N := 31) ?hd (cs := #[.slice (some ⟨g1, 0, none⟩) 1 1]) (t := 42) (n := 1) ?hr ?_; (case hd => rfl); (case hg => rfl); (case hr => first | (go_simp; done) | (go_simp; rfl))
              intro g2 hg q9 hbox hb
              have HS2 := Aside0.mk hbox
              have GHS2 : Aside0 (wr.heap.size ≤ g2) := ⟨by rw [hg]; exact HZ.out⟩
              have NHZ := Aside0.mk (Nat.le_trans HZ.out hb.size)
              have NHL := Aside0.mk (HL.out.below hb)
              have NHR := Aside0.mk (Kd.R_below HR.out hb)
              have NHV := Aside0.mk (Kd.V_below HV.out hb)
              have NHVT := Aside0.mk (Kd.V_below HVT.out hb)
              have NHS1 := Aside0.mk (blk_below HS1.out hb)
              have NHA := Aside0.mk (blk_below HA.out hb)
              clear HZ HL HR HV HVT HS1 HA
              have HZ := NHZ
              have HL := NHL
              have HR := NHR
              have HV := NHV
              have HVT := NHVT
              have HS1 := NHS1
              have HA := NHA
              clear NHZ NHL NHR NHV NHVT NHS1 NHA
              clear hg hbox hb
              refine hK.out _ _ ((blk_cell HL.out.box 0).trans rfl) (fun _ => ?_)
              clear hK K
              refine norm_ (a' := ?_) ?_ ?_
              rotate_left
              · show Act.put _ (some 31) _ = _
                simp only [Act.put, List.setIfInBounds_toArray, List.set_cons_zero, List.set_cons_succ, i64_w, i32_w]
                rfl
              refine one_ (i := 5) (N := some 32) #[true, true, true, true, true, true, false, false, false, true, false, false] rfl rfl (one_of rfl (by kernel_rfl)) (by decide) (fun K hK => ?_)
              · refine goes_ Tryd.func18 (by kernel_rfl) rfl #[.agg #[.slice Ah l.length ch], .agg #[.int .i64 1, .slice At 1 ct], .int .i64 (1 + (t : Int)), .slice (some ⟨g2, 0, none⟩) 1 1] (by rfl) rfl rfl (by (try simp only [List.map_toArray, List.map_cons, List.map_nil]); first | done | rfl) ?_
                refine (hall_Admit.calls kk _ _ _ _ 1 _ ct [tinyY] (1 + (t : Int)) _ _ 1 [[1]] l' e0 _ HV.out (Kd.V_reads' HVT.out).2.2 (Kd.V_reads' HVT.out).2.1 (row2_V HS1.out HS2.out) HE.out).mono ?_
                rintro e q10 ⟨vn, rfl, hvn, hb⟩
                have HVN := Aside0.mk (Kd.V_mono (ok' := fun k => (k ≠ w.heap.size ∧ some k ≠ (Value.slice Aw ws.length cw).ownBlock) ∧ k ≠ ga) hvn (fun k hk => by rcases hk with (hk | hk | hk) | hk; exact hk; (subst hk; exact ⟨HFR.out _ GHS1.out, fun e => by have h_ := HS1.out; rw [e] at h_; have := h_.symm.trans HA.out; simp at this⟩); (subst hk; exact ⟨HFR.out _ GHS2.out, fun e => by have h_ := HS2.out; rw [e] at h_; have := h_.symm.trans HA.out; simp at this⟩); exact ⟨HFR.out k (Nat.le_trans (HZ.out) hk), fun e => by have h_ := blk_lt HA.out; omega⟩))
                clear hvn HV
                obtain ⟨An, cn, rfl⟩ := Kd.V_slice HVN.out
                have NHZ := Aside0.mk (Nat.le_trans HZ.out hb.size)
                have NHL := Aside0.mk (HL.out.below hb)
                have NHR := Aside0.mk (Kd.R_below HR.out hb)
                have NHA := Aside0.mk (blk_below HA.out hb)
                clear HZ HL HR HA
                have HZ := NHZ
                have HL := NHL
                have HR := NHR
                have HA := NHA
                clear NHZ NHL NHR NHA
                clear hb HVT HS1 HS2
                have HV := HVN
                clear HVN
                refine ⟨_, rfl, ?_⟩
                refine hK.out _ _ ((blk_cell HL.out.box 0).trans rfl) (fun _ => ?_)
                clear hK K
                refine norm_ (a' := ?_) ?_ ?_
                rotate_left
                · show Act.put _ (some 32) _ = _
                  simp only [Act.put, List.setIfInBounds_toArray, List.set_cons_zero, List.set_cons_succ, i64_w, i32_w]
                  rfl
                refine pure_ (i := 6) (N := some 26) (v := ?_) (a' := ?_) #[true, true, true, true, true, true, true, false, false, true, false, false] rfl rfl (any_of rfl (by kernel_rfl)) (fun _ _ _ h => h) (Or.inl ⟨by rfl, ?_⟩) ?_ ?_
                rotate_left
                · intro w'
                  go_simp
                  with_reducible rfl
                rotate_left
                · simp only [Act.put, List.setIfInBounds_toArray, List.set_cons_zero, List.set_cons_succ, i64_w, i32_w]
                  rfl
                refine pure_ (i := 7) (N := some 33) (v := ?_) (a' := ?_) #[true, true, true, true, true, true, true, true, false, true, false, false] rfl rfl (any_of rfl (by kernel_rfl)) (fun _ _ _ h => h) (Or.inl ⟨by rfl, ?_⟩) ?_ ?_
                rotate_left
                · intro w'
                  go_simp
                  with_reducible rfl
                rotate_left
                · simp only [Act.put, List.setIfInBounds_toArray, List.set_cons_zero, List.set_cons_succ, i64_w, i32_w]
                  rfl
                refine pure_ (i := 8) (N := some 34) (v := ?_) (a' := ?_) #[true, true, true, true, true, true, true, true, true, true, false, false] rfl rfl (any_of rfl (by kernel_rfl)) (fun _ _ _ h => h) (Or.inl ⟨by rfl, ?_⟩) ?_ ?_
                rotate_left
                · intro w'
                  go_simp
                  with_reducible rfl
                rotate_left
                · simp only [Act.put, List.setIfInBounds_toArray, List.set_cons_zero, List.set_cons_succ, i64_w, i32_w]
                  rfl
                refine norm_ ?_ (hJ (.agg #[.int .i64 1, .slice At 1 ct], .slice (some ⟨g1, 0, none⟩) 1 1, .slice (some ⟨g2, 0, none⟩) 1 1, .slice An l'.length cn, ga) _ ⟨(blk_cell HL.out.box 0).trans rfl, HZ.out, HL.out, HR.out, HV.out, HA.out, HG.out⟩)
                simp only [putAll, Act.put, List.setIfInBounds_toArray, List.set_cons_zero, List.set_cons_succ] <;> rfl
        · refine box_step ?hg (N := 7) ?hd (cs := #[.slice none 0 0]) (t := 24) ?hr ?_; (case hd => rfl); (case hg => rfl); (case hr => first | (go_simp; done) | (go_simp; rfl))
          intro ga hg q11 hbox hb
          have HA := Aside0.mk hbox
          have HG : Aside0 (wr.heap.size ≤ ga) := ⟨by rw [hg]; exact HZ.out⟩
          have NHZ := Aside0.mk (Nat.le_trans HZ.out hb.size)
          have NHL := Aside0.mk (HL.out.below hb)
          have NHR := Aside0.mk (Kd.R_below HR.out hb)
          have NHV := Aside0.mk (Kd.V_below (Kd.V_elderB HV.out ga (Nat.le_of_eq hg.symm)) hb)
          have NHVT := Aside0.mk (Kd.V_below HVT.out hb)
          clear HZ HL HR HV HVT
          have HZ := NHZ
          have HL := NHL
          have HR := NHR
          have HV := NHV
          have HVT := NHVT
          clear NHZ NHL NHR NHV NHVT
          clear hg hbox hb
          refine hK.out _ _ ((blk_cell HL.out.box 0).trans rfl) (fun _ => ?_)
          clear hK K
          refine norm_ (a' := ?_) ?_ ?_
          rotate_left
          · show Act.put _ (some 7) _ = _
            simp only [Act.put, List.setIfInBounds_toArray, List.set_cons_zero, List.set_cons_succ, i64_w, i32_w]
            rfl
          refine one_ (i := 3) (N := some 30) #[true, true, true, true, false, false, false, false, false, true, false, false] rfl rfl (one_of rfl (by kernel_rfl)) (by decide) (fun K hK => ?_)
          · refine lit_step ?hg (N := 30) ?hd (cs := #[.int .i64 1]) (t := 3) (n := 1) ?hr ?_; (case hd => rfl); (case hg => rfl); (case hr => first | (go_simp; done) | (go_simp; rfl))
            intro g1 hg q12 hbox hb
            have HS1 := Aside0.mk hbox
            have GHS1 : Aside0 (wr.heap.size ≤ g1) := ⟨by rw [hg]; exact HZ.out⟩
            have NHZ := Aside0.mk (Nat.le_trans HZ.out hb.size)
            have NHL := Aside0.mk (HL.out.below hb)
            have NHR := Aside0.mk (Kd.R_below HR.out hb)
            have NHV := Aside0.mk (Kd.V_below HV.out hb)
            have NHVT := Aside0.mk (Kd.V_below HVT.out hb)
            have NHA := Aside0.mk (blk_below HA.out hb)
            clear HZ HL HR HV HVT HA
            have HZ := NHZ
            have HL := NHL
            have HR := NHR
            have HV := NHV
            have HVT := NHVT
            have HA := NHA
            clear NHZ NHL NHR NHV NHVT NHA
            clear hg hbox hb
            refine hK.out _ _ ((blk_cell HL.out.box 0).trans rfl) (fun _ => ?_)
            clear hK K
            refine norm_ (a' := ?_) ?_ ?_
            rotate_left
            · show Act.put _ (some 30) _ = _
              simp only [Act.put, List.setIfInBounds_toArray, List.set_cons_zero, List.set_cons_succ, i64_w, i32_w]
              rfl
            refine one_ (i := 4) (N := some 31) #[true, true, true, true, true, false, false, false, false, true, false, false] rfl rfl (one_of rfl (by kernel_rfl)) (by decide) (fun K hK => ?_)
            · refine lit_step ?hg (N := 31) ?hd (cs := #[.slice (some ⟨g1, 0, none⟩) 1 1]) (t := 42) (n := 1) ?hr ?_; (case hd => rfl); (case hg => rfl); (case hr => first | (go_simp; done) | (go_simp; rfl))
              intro g2 hg q13 hbox hb
              have HS2 := Aside0.mk hbox
              have GHS2 : Aside0 (wr.heap.size ≤ g2) := ⟨by rw [hg]; exact HZ.out⟩
              have NHZ := Aside0.mk (Nat.le_trans HZ.out hb.size)
              have NHL := Aside0.mk (HL.out.below hb)
              have NHR := Aside0.mk (Kd.R_below HR.out hb)
              have NHV := Aside0.mk (Kd.V_below HV.out hb)
              have NHVT := Aside0.mk (Kd.V_below HVT.out hb)
              have NHA := Aside0.mk (blk_below HA.out hb)
              have NHS1 := Aside0.mk (blk_below HS1.out hb)
              clear HZ HL HR HV HVT HA HS1
              have HZ := NHZ
              have HL := NHL
              have HR := NHR
              have HV := NHV
              have HVT := NHVT
              have HA := NHA
              have HS1 := NHS1
              clear NHZ NHL NHR NHV NHVT NHA NHS1
              clear hg hbox hb
              refine hK.out _ _ ((blk_cell HL.out.box 0).trans rfl) (fun _ => ?_)
              clear hK K
              refine norm_ (a' := ?_) ?_ ?_
              rotate_left
              · show Act.put _ (some 31) _ = _
                simp only [Act.put, List.setIfInBounds_toArray, List.set_cons_zero, List.set_cons_succ, i64_w, i32_w]
                rfl
              refine one_ (i := 5) (N := some 32) #[true, true, true, true, true, true, false, false, false, true, false, false] rfl rfl (one_of rfl (by kernel_rfl)) (by decide) (fun K hK => ?_)
              · refine goes_ Tryd.func18 (by kernel_rfl) rfl #[.agg #[.slice Ah l.length ch], .agg #[.int .i64 1, .slice At 1 ct], .int .i64 (1 + (t : Int)), .slice (some ⟨g2, 0, none⟩) 1 1] (by rfl) rfl rfl (by (try simp only [List.map_toArray, List.map_cons, List.map_nil]); first | done | rfl) ?_
                refine (hall_Admit.calls kk _ _ _ _ 1 _ ct [tinyY] (1 + (t : Int)) _ _ 1 [[1]] l' e0 _ HV.out (Kd.V_reads' HVT.out).2.2 (Kd.V_reads' HVT.out).2.1 (row2_V HS1.out HS2.out) HE.out).mono ?_
                rintro e q14 ⟨vn, rfl, hvn, hb⟩
                have HVN := Aside0.mk (Kd.V_mono (ok' := fun k => (k ≠ w.heap.size ∧ some k ≠ (Value.slice Aw ws.length cw).ownBlock) ∧ k ≠ ga) hvn (fun k hk => by rcases hk with (hk | hk | hk) | hk; exact hk; (subst hk; exact ⟨HFR.out _ GHS1.out, fun e => by have h_ := HS1.out; rw [e] at h_; have := h_.symm.trans HA.out; simp at this⟩); (subst hk; exact ⟨HFR.out _ GHS2.out, fun e => by have h_ := HS2.out; rw [e] at h_; have := h_.symm.trans HA.out; simp at this⟩); exact ⟨HFR.out k (Nat.le_trans (HZ.out) hk), fun e => by have h_ := blk_lt HA.out; omega⟩))
                clear hvn HV
                obtain ⟨An, cn, rfl⟩ := Kd.V_slice HVN.out
                have NHZ := Aside0.mk (Nat.le_trans HZ.out hb.size)
                have NHL := Aside0.mk (HL.out.below hb)
                have NHR := Aside0.mk (Kd.R_below HR.out hb)
                have NHA := Aside0.mk (blk_below HA.out hb)
                clear HZ HL HR HA
                have HZ := NHZ
                have HL := NHL
                have HR := NHR
                have HA := NHA
                clear NHZ NHL NHR NHA
                clear hb HVT HS1 HS2
                have HV := HVN
                clear HVN
                refine ⟨_, rfl, ?_⟩
                refine hK.out _ _ ((blk_cell HL.out.box 0).trans rfl) (fun _ => ?_)
                clear hK K
                refine norm_ (a' := ?_) ?_ ?_
                rotate_left
                · show Act.put _ (some 32) _ = _
                  simp only [Act.put, List.setIfInBounds_toArray, List.set_cons_zero, List.set_cons_succ, i64_w, i32_w]
                  rfl
                refine pure_ (i := 6) (N := some 26) (v := ?_) (a' := ?_) #[true, true, true, true, true, true, true, false, false, true, false, false] rfl rfl (any_of rfl (by kernel_rfl)) (fun _ _ _ h => h) (Or.inl ⟨by rfl, ?_⟩) ?_ ?_
                rotate_left
                · intro w'
                  go_simp
                  with_reducible rfl
                rotate_left
                · simp only [Act.put, List.setIfInBounds_toArray, List.set_cons_zero, List.set_cons_succ, i64_w, i32_w]
                  rfl
                refine pure_ (i := 7) (N := some 33) (v := ?_) (a' := ?_) #[true, true, true, true, true, true, true, true, false, true, false, false] rfl rfl (any_of rfl (by kernel_rfl)) (fun _ _ _ h => h) (Or.inl ⟨by rfl, ?_⟩) ?_ ?_
                rotate_left
                · intro w'
                  go_simp
                  with_reducible rfl
                rotate_left
                · simp only [Act.put, List.setIfInBounds_toArray, List.set_cons_zero, List.set_cons_succ, i64_w, i32_w]
                  rfl
                refine pure_ (i := 8) (N := some 34) (v := ?_) (a' := ?_) #[true, true, true, true, true, true, true, true, true, true, false, false] rfl rfl (any_of rfl (by kernel_rfl)) (fun _ _ _ h => h) (Or.inl ⟨by rfl, ?_⟩) ?_ ?_
                rotate_left
                · intro w'
                  go_simp
                  with_reducible rfl
                rotate_left
                · simp only [Act.put, List.setIfInBounds_toArray, List.set_cons_zero, List.set_cons_succ, i64_w, i32_w]
                  rfl
                refine norm_ ?_ (hJ (.agg #[.int .i64 1, .slice At 1 ct], .slice (some ⟨g1, 0, none⟩) 1 1, .slice (some ⟨g2, 0, none⟩) 1 1, .slice An l'.length cn, ga) _ ⟨(blk_cell HL.out.box 0).trans rfl, HZ.out, HL.out, HR.out, HV.out, HA.out, HG.out⟩)
                simp only [putAll, Act.put, List.setIfInBounds_toArray, List.set_cons_zero, List.set_cons_succ] <;> rfl
      · refine lit_step ?hg (N := 30) ?hd (cs := #[.int .i64 1]) (t := 3) (n := 1) ?hr ?_; (case hd => rfl); (case hg => rfl); (case hr => first | (go_simp; done) | (go_simp; rfl))
        intro g1 hg q15 hbox hb
        have HS1 := Aside0.mk hbox
        have GHS1 : Aside0 (wr.heap.size ≤ g1) := ⟨by rw [hg]; exact HZ.out⟩
        have NHZ := Aside0.mk (Nat.le_trans HZ.out hb.size)
        have NHL := Aside0.mk (HL.out.below hb)
        have NHR := Aside0.mk (Kd.R_below HR.out hb)
        have NHV := Aside0.mk (Kd.V_below HV.out hb)
        clear HZ HL HR HV
        have HZ := NHZ
        have HL := NHL
        have HR := NHR
        have HV := NHV
        clear NHZ NHL NHR NHV
        clear hg hbox hb
        refine hK.out _ _ ((blk_cell HL.out.box 0).trans rfl) (fun _ => ?_)
        clear hK K
        refine norm_ (a' := ?_) ?_ ?_
        rotate_left
        · show Act.put _ (some 30) _ = _
          simp only [Act.put, List.setIfInBounds_toArray, List.set_cons_zero, List.set_cons_succ, i64_w, i32_w]
          rfl
        refine three_ (i := 1) (j := 4) (k := 9) (Ni := some 28) (Nj := some 31) (Nk := some 7) #[true, true, true, true, false, false, false, false, false, false, false, false] #[true, false, true, true, true, false, false, false, false, false, false, false] #[true, false, true, true, false, false, false, false, false, true, false, false] rfl rfl rfl rfl rfl rfl (three_of rfl (by kernel_rfl)) (by decide) (by decide) (by decide) (fun K hK => ?_) (fun K hK => ?_) (fun K hK => ?_)
        · refine goes_ Tryd.func19 (by kernel_rfl) rfl #[] (by rfl) rfl rfl (by (try simp only [List.map_toArray, List.map_cons, List.map_nil]); first | done | rfl) ?_
          refine (switchboardlaw24_tiny.calls 1 [tinyY] _ rfl).mono ?_
          rintro e q16 ⟨vt, rfl, hvt, hb⟩
          obtain ⟨At, ct, rfl⟩ := Kd.V_slice hvt
          have HVT := Aside0.mk hvt
          clear hvt
          have NHZ := Aside0.mk (Nat.le_trans HZ.out hb.size)
          have NHL := Aside0.mk (HL.out.below hb)
          have NHR := Aside0.mk (Kd.R_below HR.out hb)
          have NHV := Aside0.mk (Kd.V_below HV.out hb)
          have NHS1 := Aside0.mk (blk_below HS1.out hb)
          clear HZ HL HR HV HS1
          have HZ := NHZ
          have HL := NHL
          have HR := NHR
          have HV := NHV
          have HS1 := NHS1
          clear NHZ NHL NHR NHV NHS1
          clear hb
          refine ⟨_, rfl, ?_⟩
          refine hK.out _ _ ((blk_cell HL.out.box 0).trans rfl) (fun _ => ?_)
          clear hK K
          refine norm_ (a' := ?_) ?_ ?_
          rotate_left
          · show Act.put _ (some 28) _ = _
            simp only [Act.put, List.setIfInBounds_toArray, List.set_cons_zero, List.set_cons_succ, i64_w, i32_w]
            rfl
          refine two_ (i := 4) (j := 9) (Ni := some 31) (Nj := some 7) #[true, true, true, true, true, false, false, false, false, false, false, false] #[true, true, true, true, false, false, false, false, false, true, false, false] rfl rfl rfl rfl (two_of rfl (by kernel_rfl)) (by decide) (by decide) (fun K hK => ?_) (fun K hK => ?_)
          · refine lit_step ?hg (N := 31) ?hd (cs := #[.slice (some ⟨g1, 0, none⟩) 1 1]) (t := 42) (n := 1) ?hr ?_; (case hd => rfl); (case hg => rfl); (case hr => first | (go_simp; done) | (go_simp; rfl))
            intro g2 hg q17 hbox hb
            have HS2 := Aside0.mk hbox
            have GHS2 : Aside0 (wr.heap.size ≤ g2) := ⟨by rw [hg]; exact HZ.out⟩
            have NHZ := Aside0.mk (Nat.le_trans HZ.out hb.size)
            have NHL := Aside0.mk (HL.out.below hb)
            have NHR := Aside0.mk (Kd.R_below HR.out hb)
            have NHV := Aside0.mk (Kd.V_below HV.out hb)
            have NHS1 := Aside0.mk (blk_below HS1.out hb)
            have NHVT := Aside0.mk (Kd.V_below HVT.out hb)
            clear HZ HL HR HV HS1 HVT
            have HZ := NHZ
            have HL := NHL
            have HR := NHR
            have HV := NHV
            have HS1 := NHS1
            have HVT := NHVT
            clear NHZ NHL NHR NHV NHS1 NHVT
            clear hg hbox hb
            refine hK.out _ _ ((blk_cell HL.out.box 0).trans rfl) (fun _ => ?_)
            clear hK K
            refine norm_ (a' := ?_) ?_ ?_
            rotate_left
            · show Act.put _ (some 31) _ = _
              simp only [Act.put, List.setIfInBounds_toArray, List.set_cons_zero, List.set_cons_succ, i64_w, i32_w]
              rfl
            refine two_ (i := 5) (j := 9) (Ni := some 32) (Nj := some 7) #[true, true, true, true, true, true, false, false, false, false, false, false] #[true, true, true, true, true, false, false, false, false, true, false, false] rfl rfl rfl rfl (two_of rfl (by kernel_rfl)) (by decide) (by decide) (fun K hK => ?_) (fun K hK => ?_)
            · refine goes_ Tryd.func18 (by kernel_rfl) rfl #[.agg #[.slice Ah l.length ch], .agg #[.int .i64 1, .slice At 1 ct], .int .i64 (1 + (t : Int)), .slice (some ⟨g2, 0, none⟩) 1 1] (by rfl) rfl rfl (by (try simp only [List.map_toArray, List.map_cons, List.map_nil]); first | done | rfl) ?_
              refine (hall_Admit.calls kk _ _ _ _ 1 _ ct [tinyY] (1 + (t : Int)) _ _ 1 [[1]] l' e0 _ HV.out (Kd.V_reads' HVT.out).2.2 (Kd.V_reads' HVT.out).2.1 (row2_V HS1.out HS2.out) HE.out).mono ?_
              rintro e q18 ⟨vn, rfl, hvn, hb⟩
              have HVN := Aside0.mk (Kd.V_mono (ok' := fun k => k ≠ w.heap.size ∧ some k ≠ (Value.slice Aw ws.length cw).ownBlock) hvn (fun k hk => by rcases hk with (hk | hk | hk) | hk; exact hk; (subst hk; exact HFR.out _ GHS1.out); (subst hk; exact HFR.out _ GHS2.out); exact HFR.out k (Nat.le_trans (HZ.out) hk)))
              clear hvn HV
              obtain ⟨An, cn, rfl⟩ := Kd.V_slice HVN.out
              have NHZ := Aside0.mk (Nat.le_trans HZ.out hb.size)
              have NHL := Aside0.mk (HL.out.below hb)
              have NHR := Aside0.mk (Kd.R_below HR.out hb)
              clear HZ HL HR
              have HZ := NHZ
              have HL := NHL
              have HR := NHR
              clear NHZ NHL NHR
              clear hb HVT HS1 HS2
              have HV := HVN
              clear HVN
              refine ⟨_, rfl, ?_⟩
              refine hK.out _ _ ((blk_cell HL.out.box 0).trans rfl) (fun _ => ?_)
              clear hK K
              refine norm_ (a' := ?_) ?_ ?_
              rotate_left
              · show Act.put _ (some 32) _ = _
                simp only [Act.put, List.setIfInBounds_toArray, List.set_cons_zero, List.set_cons_succ, i64_w, i32_w]
                rfl
              refine pure_ (i := 6) (N := some 26) (v := ?_) (a' := ?_) #[true, true, true, true, true, true, true, false, false, false, false, false] rfl rfl (any_of rfl (by kernel_rfl)) (fun _ _ _ h => h) (Or.inl ⟨by rfl, ?_⟩) ?_ ?_
              rotate_left
              · intro w'
                go_simp
                with_reducible rfl
              rotate_left
              · simp only [Act.put, List.setIfInBounds_toArray, List.set_cons_zero, List.set_cons_succ, i64_w, i32_w]
                rfl
              refine pure_ (i := 7) (N := some 33) (v := ?_) (a' := ?_) #[true, true, true, true, true, true, true, true, false, false, false, false] rfl rfl (any_of rfl (by kernel_rfl)) (fun _ _ _ h => h) (Or.inl ⟨by rfl, ?_⟩) ?_ ?_
              rotate_left
              · intro w'
                go_simp
                with_reducible rfl
              rotate_left
              · simp only [Act.put, List.setIfInBounds_toArray, List.set_cons_zero, List.set_cons_succ, i64_w, i32_w]
                rfl
              refine pure_ (i := 8) (N := some 34) (v := ?_) (a' := ?_) #[true, true, true, true, true, true, true, true, true, false, false, false] rfl rfl (any_of rfl (by kernel_rfl)) (fun _ _ _ h => h) (Or.inl ⟨by rfl, ?_⟩) ?_ ?_
              rotate_left
              · intro w'
                go_simp
                with_reducible rfl
              rotate_left
              · simp only [Act.put, List.setIfInBounds_toArray, List.set_cons_zero, List.set_cons_succ, i64_w, i32_w]
                rfl
              refine one_ (i := 9) (N := some 7) #[true, true, true, true, true, true, true, true, true, true, false, false] rfl rfl (one_of rfl (by kernel_rfl)) (by decide) (fun K hK => ?_)
              · refine box_step ?hg (N := 7) ?hd (cs := #[.slice none 0 0]) (t := 24) ?hr ?_; (case hd => rfl); (case hg => rfl); (case hr => first | (go_simp; done) | (go_simp; rfl))
                intro ga hg q19 hbox hb
                have HA := Aside0.mk hbox
                have HG : Aside0 (wr.heap.size ≤ ga) := ⟨by rw [hg]; exact HZ.out⟩
                have NHZ := Aside0.mk (Nat.le_trans HZ.out hb.size)
                have NHL := Aside0.mk (HL.out.below hb)
                have NHR := Aside0.mk (Kd.R_below HR.out hb)
                have NHV := Aside0.mk (Kd.V_below (Kd.V_elderB HV.out ga (Nat.le_of_eq hg.symm)) hb)
                clear HZ HL HR HV
                have HZ := NHZ
                have HL := NHL
                have HR := NHR
                have HV := NHV
                clear NHZ NHL NHR NHV
                clear hg hbox hb
                refine hK.out _ _ ((blk_cell HL.out.box 0).trans rfl) (fun _ => ?_)
                clear hK K
                refine norm_ (a' := ?_) ?_ ?_
                rotate_left
                · show Act.put _ (some 7) _ = _
                  simp only [Act.put, List.setIfInBounds_toArray, List.set_cons_zero, List.set_cons_succ, i64_w, i32_w]
                  rfl
                refine norm_ ?_ (hJ (.agg #[.int .i64 1, .slice At 1 ct], .slice (some ⟨g1, 0, none⟩) 1 1, .slice (some ⟨g2, 0, none⟩) 1 1, .slice An l'.length cn, ga) _ ⟨(blk_cell HL.out.box 0).trans rfl, HZ.out, HL.out, HR.out, HV.out, HA.out, HG.out⟩)
                simp only [putAll, Act.put, List.setIfInBounds_toArray, List.set_cons_zero, List.set_cons_succ] <;> rfl
            · refine box_step ?hg (N := 7) ?hd (cs := #[.slice none 0 0]) (t := 24) ?hr ?_; (case hd => rfl); (case hg => rfl); (case hr => first | (go_simp; done) | (go_simp; rfl))
              intro ga hg q20 hbox hb
              have HA := Aside0.mk hbox
              have HG : Aside0 (wr.heap.size ≤ ga) := ⟨by rw [hg]; exact HZ.out⟩
              have NHZ := Aside0.mk (Nat.le_trans HZ.out hb.size)
              have NHL := Aside0.mk (HL.out.below hb)
              have NHR := Aside0.mk (Kd.R_below HR.out hb)
              have NHV := Aside0.mk (Kd.V_below (Kd.V_elderB HV.out ga (Nat.le_of_eq hg.symm)) hb)
              have NHS1 := Aside0.mk (blk_below HS1.out hb)
              have NHVT := Aside0.mk (Kd.V_below HVT.out hb)
              have NHS2 := Aside0.mk (blk_below HS2.out hb)
              clear HZ HL HR HV HS1 HVT HS2
              have HZ := NHZ
              have HL := NHL
              have HR := NHR
              have HV := NHV
              have HS1 := NHS1
              have HVT := NHVT
              have HS2 := NHS2
              clear NHZ NHL NHR NHV NHS1 NHVT NHS2
              clear hg hbox hb
              refine hK.out _ _ ((blk_cell HL.out.box 0).trans rfl) (fun _ => ?_)
              clear hK K
              refine norm_ (a' := ?_) ?_ ?_
              rotate_left
              · show Act.put _ (some 7) _ = _
                simp only [Act.put, List.setIfInBounds_toArray, List.set_cons_zero, List.set_cons_succ, i64_w, i32_w]
                rfl
              refine one_ (i := 5) (N := some 32) #[true, true, true, true, true, true, false, false, false, true, false, false] rfl rfl (one_of rfl (by kernel_rfl)) (by decide) (fun K hK => ?_)
              · refine goes_ Tryd.func18 (by kernel_rfl) rfl #[.agg #[.slice Ah l.length ch], .agg #[.int .i64 1, .slice At 1 ct], .int .i64 (1 + (t : Int)), .slice (some ⟨g2, 0, none⟩) 1 1] (by rfl) rfl rfl (by (try simp only [List.map_toArray, List.map_cons, List.map_nil]); first | done | rfl) ?_
                refine (hall_Admit.calls kk _ _ _ _ 1 _ ct [tinyY] (1 + (t : Int)) _ _ 1 [[1]] l' e0 _ HV.out (Kd.V_reads' HVT.out).2.2 (Kd.V_reads' HVT.out).2.1 (row2_V HS1.out HS2.out) HE.out).mono ?_
                rintro e q21 ⟨vn, rfl, hvn, hb⟩
                have HVN := Aside0.mk (Kd.V_mono (ok' := fun k => (k ≠ w.heap.size ∧ some k ≠ (Value.slice Aw ws.length cw).ownBlock) ∧ k ≠ ga) hvn (fun k hk => by rcases hk with (hk | hk | hk) | hk; exact hk; (subst hk; exact ⟨HFR.out _ GHS1.out, fun e => by have h_ := HS1.out; rw [e] at h_; have := h_.symm.trans HA.out; simp at this⟩); (subst hk; exact ⟨HFR.out _ GHS2.out, fun e => by have h_ := HS2.out; rw [e] at h_; have := h_.symm.trans HA.out; simp at this⟩); exact ⟨HFR.out k (Nat.le_trans (HZ.out) hk), fun e => by have h_ := blk_lt HA.out; omega⟩))
                clear hvn HV
                obtain ⟨An, cn, rfl⟩ := Kd.V_slice HVN.out
                have NHZ := Aside0.mk (Nat.le_trans HZ.out hb.size)
                have NHL := Aside0.mk (HL.out.below hb)
                have NHR := Aside0.mk (Kd.R_below HR.out hb)
                have NHA := Aside0.mk (blk_below HA.out hb)
                clear HZ HL HR HA
                have HZ := NHZ
                have HL := NHL
                have HR := NHR
                have HA := NHA
                clear NHZ NHL NHR NHA
                clear hb HVT HS1 HS2
                have HV := HVN
                clear HVN
                refine ⟨_, rfl, ?_⟩
                refine hK.out _ _ ((blk_cell HL.out.box 0).trans rfl) (fun _ => ?_)
                clear hK K
                refine norm_ (a' := ?_) ?_ ?_
                rotate_left
                · show Act.put _ (some 32) _ = _
                  simp only [Act.put, List.setIfInBounds_toArray, List.set_cons_zero, List.set_cons_succ, i64_w, i32_w]
                  rfl
                refine pure_ (i := 6) (N := some 26) (v := ?_) (a' := ?_) #[true, true, true, true, true, true, true, false, false, true, false, false] rfl rfl (any_of rfl (by kernel_rfl)) (fun _ _ _ h => h) (Or.inl ⟨by rfl, ?_⟩) ?_ ?_
                rotate_left
                · intro w'
                  go_simp
                  with_reducible rfl
                rotate_left
                · simp only [Act.put, List.setIfInBounds_toArray, List.set_cons_zero, List.set_cons_succ, i64_w, i32_w]
                  rfl
                refine pure_ (i := 7) (N := some 33) (v := ?_) (a' := ?_) #[true, true, true, true, true, true, true, true, false, true, false, false] rfl rfl (any_of rfl (by kernel_rfl)) (fun _ _ _ h => h) (Or.inl ⟨by rfl, ?_⟩) ?_ ?_
                rotate_left
                · intro w'
                  go_simp
                  with_reducible rfl
                rotate_left
                · simp only [Act.put, List.setIfInBounds_toArray, List.set_cons_zero, List.set_cons_succ, i64_w, i32_w]
                  rfl
                refine pure_ (i := 8) (N := some 34) (v := ?_) (a' := ?_) #[true, true, true, true, true, true, true, true, true, true, false, false] rfl rfl (any_of rfl (by kernel_rfl)) (fun _ _ _ h => h) (Or.inl ⟨by rfl, ?_⟩) ?_ ?_
                rotate_left
                · intro w'
                  go_simp
                  with_reducible rfl
                rotate_left
                · simp only [Act.put, List.setIfInBounds_toArray, List.set_cons_zero, List.set_cons_succ, i64_w, i32_w]
                  rfl
                refine norm_ ?_ (hJ (.agg #[.int .i64 1, .slice At 1 ct], .slice (some ⟨g1, 0, none⟩) 1 1, .slice (some ⟨g2, 0, none⟩) 1 1, .slice An l'.length cn, ga) _ ⟨(blk_cell HL.out.box 0).trans rfl, HZ.out, HL.out, HR.out, HV.out, HA.out, HG.out⟩)
                simp only [putAll, Act.put, List.setIfInBounds_toArray, List.set_cons_zero, List.set_cons_succ] <;> rfl
          · refine box_step ?hg (N := 7) ?hd (cs := #[.slice none 0 0]) (t := 24) ?hr ?_; (case hd => rfl); (case hg => rfl); (case hr => first | (go_simp; done) | (go_simp; rfl))
            intro ga hg q22 hbox hb
            have HA := Aside0.mk hbox
            have HG : Aside0 (wr.heap.size ≤ ga) := ⟨by rw [hg]; exact HZ.out⟩
            have NHZ := Aside0.mk (Nat.le_trans HZ.out hb.size)
            have NHL := Aside0.mk (HL.out.below hb)
            have NHR := Aside0.mk (Kd.R_below HR.out hb)
            have NHV := Aside0.mk (Kd.V_below (Kd.V_elderB HV.out ga (Nat.le_of_eq hg.symm)) hb)
            have NHS1 := Aside0.mk (blk_below HS1.out hb)
            have NHVT := Aside0.mk (Kd.V_below HVT.out hb)
            clear HZ HL HR HV HS1 HVT
            have HZ := NHZ
            have HL := NHL
            have HR := NHR
            have HV := NHV
            have HS1 := NHS1
            have HVT := NHVT
            clear NHZ NHL NHR NHV NHS1 NHVT
            clear hg hbox hb
            refine hK.out _ _ ((blk_cell HL.out.box 0).trans rfl) (fun _ => ?_)
            clear hK K
            refine norm_ (a' := ?_) ?_ ?_
            rotate_left
            · show Act.put _ (some 7) _ = _
              simp only [Act.put, List.setIfInBounds_toArray, List.set_cons_zero, List.set_cons_succ, i64_w, i32_w]
              rfl
            refine one_ (i := 4) (N := some 31) #[true, true, true, true, true, false, false, false, false, true, false, false] rfl rfl (one_of rfl (by kernel_rfl)) (by decide) (fun K hK => ?_)
            · refine lit_step ?hg (N := 31) ?hd (cs := #[.slice (some ⟨g1, 0, none⟩) 1 1]) (t := 42) (n := 1) ?hr ?_; (case hd => rfl); (case hg => rfl); (case hr => first | (go_simp; done) | (go_simp; rfl))
              intro g2 hg q23 hbox hb
              have HS2 := Aside0.mk hbox
              have GHS2 : Aside0 (wr.heap.size ≤ g2) := ⟨by rw [hg]; exact HZ.out⟩
              have NHZ := Aside0.mk (Nat.le_trans HZ.out hb.size)
              have NHL := Aside0.mk (HL.out.below hb)
              have NHR := Aside0.mk (Kd.R_below HR.out hb)
              have NHV := Aside0.mk (Kd.V_below HV.out hb)
              have NHS1 := Aside0.mk (blk_below HS1.out hb)
              have NHVT := Aside0.mk (Kd.V_below HVT.out hb)
              have NHA := Aside0.mk (blk_below HA.out hb)
              clear HZ HL HR HV HS1 HVT HA
              have HZ := NHZ
              have HL := NHL
              have HR := NHR
              have HV := NHV
              have HS1 := NHS1
              have HVT := NHVT
              have HA := NHA
              clear NHZ NHL NHR NHV NHS1 NHVT NHA
              clear hg hbox hb
              refine hK.out _ _ ((blk_cell HL.out.box 0).trans rfl) (fun _ => ?_)
              clear hK K
              refine norm_ (a' := ?_) ?_ ?_
              rotate_left
              · show Act.put _ (some 31) _ = _
                simp only [Act.put, List.setIfInBounds_toArray, List.set_cons_zero, List.set_cons_succ, i64_w, i32_w]
                rfl
              refine one_ (i := 5) (N := some 32) #[true, true, true, true, true, true, false, false, false, true, false, false] rfl rfl (one_of rfl (by kernel_rfl)) (by decide) (fun K hK => ?_)
              · refine goes_ Tryd.func18 (by kernel_rfl) rfl #[.agg #[.slice Ah l.length ch], .agg #[.int .i64 1, .slice At 1 ct], .int .i64 (1 + (t : Int)), .slice (some ⟨g2, 0, none⟩) 1 1] (by rfl) rfl rfl (by (try simp only [List.map_toArray, List.map_cons, List.map_nil]); first | done | rfl) ?_
                refine (hall_Admit.calls kk _ _ _ _ 1 _ ct [tinyY] (1 + (t : Int)) _ _ 1 [[1]] l' e0 _ HV.out (Kd.V_reads' HVT.out).2.2 (Kd.V_reads' HVT.out).2.1 (row2_V HS1.out HS2.out) HE.out).mono ?_
                rintro e q24 ⟨vn, rfl, hvn, hb⟩
                have HVN := Aside0.mk (Kd.V_mono (ok' := fun k => (k ≠ w.heap.size ∧ some k ≠ (Value.slice Aw ws.length cw).ownBlock) ∧ k ≠ ga) hvn (fun k hk => by rcases hk with (hk | hk | hk) | hk; exact hk; (subst hk; exact ⟨HFR.out _ GHS1.out, fun e => by have h_ := HS1.out; rw [e] at h_; have := h_.symm.trans HA.out; simp at this⟩); (subst hk; exact ⟨HFR.out _ GHS2.out, fun e => by have h_ := HS2.out; rw [e] at h_; have := h_.symm.trans HA.out; simp at this⟩); exact ⟨HFR.out k (Nat.le_trans (HZ.out) hk), fun e => by have h_ := blk_lt HA.out; omega⟩))
                clear hvn HV
                obtain ⟨An, cn, rfl⟩ := Kd.V_slice HVN.out
                have NHZ := Aside0.mk (Nat.le_trans HZ.out hb.size)
                have NHL := Aside0.mk (HL.out.below hb)
                have NHR := Aside0.mk (Kd.R_below HR.out hb)
                have NHA := Aside0.mk (blk_below HA.out hb)
                clear HZ HL HR HA
                have HZ := NHZ
                have HL := NHL
                have HR := NHR
                have HA := NHA
                clear NHZ NHL NHR NHA
                clear hb HVT HS1 HS2
                have HV := HVN
                clear HVN
                refine ⟨_, rfl, ?_⟩
                refine hK.out _ _ ((blk_cell HL.out.box 0).trans rfl) (fun _ => ?_)
                clear hK K
                refine norm_ (a' := ?_) ?_ ?_
                rotate_left
                · show Act.put _ (some 32) _ = _
                  simp only [Act.put, List.setIfInBounds_toArray, List.set_cons_zero, List.set_cons_succ, i64_w, i32_w]
                  rfl
                refine pure_ (i := 6) (N := some 26) (v := ?_) (a' := ?_) #[true, true, true, true, true, true, true, false, false, true, false, false] rfl rfl (any_of rfl (by kernel_rfl)) (fun _ _ _ h => h) (Or.inl ⟨by rfl, ?_⟩) ?_ ?_
                rotate_left
                · intro w'
                  go_simp
                  with_reducible rfl
                rotate_left
                · simp only [Act.put, List.setIfInBounds_toArray, List.set_cons_zero, List.set_cons_succ, i64_w, i32_w]
                  rfl
                refine pure_ (i := 7) (N := some 33) (v := ?_) (a' := ?_) #[true, true, true, true, true, true, true, true, false, true, false, false] rfl rfl (any_of rfl (by kernel_rfl)) (fun _ _ _ h => h) (Or.inl ⟨by rfl, ?_⟩) ?_ ?_
                rotate_left
                · intro w'
                  go_simp
                  with_reducible rfl
                rotate_left
                · simp only [Act.put, List.setIfInBounds_toArray, List.set_cons_zero, List.set_cons_succ, i64_w, i32_w]
                  rfl
                refine pure_ (i := 8) (N := some 34) (v := ?_) (a' := ?_) #[true, true, true, true, true, true, true, true, true, true, false, false] rfl rfl (any_of rfl (by kernel_rfl)) (fun _ _ _ h => h) (Or.inl ⟨by rfl, ?_⟩) ?_ ?_
                rotate_left
                · intro w'
                  go_simp
                  with_reducible rfl
                rotate_left
                · simp only [Act.put, List.setIfInBounds_toArray, List.set_cons_zero, List.set_cons_succ, i64_w, i32_w]
                  rfl
                refine norm_ ?_ (hJ (.agg #[.int .i64 1, .slice At 1 ct], .slice (some ⟨g1, 0, none⟩) 1 1, .slice (some ⟨g2, 0, none⟩) 1 1, .slice An l'.length cn, ga) _ ⟨(blk_cell HL.out.box 0).trans rfl, HZ.out, HL.out, HR.out, HV.out, HA.out, HG.out⟩)
                simp only [putAll, Act.put, List.setIfInBounds_toArray, List.set_cons_zero, List.set_cons_succ] <;> rfl
        · refine lit_step ?hg (N := 31) ?hd (cs := #[.slice (some ⟨g1, 0, none⟩) 1 1]) (t := 42) (n := 1) ?hr ?_; (case hd => rfl); (case hg => rfl); (case hr => first | (go_simp; done) | (go_simp; rfl))
          intro g2 hg q25 hbox hb
          have HS2 := Aside0.mk hbox
          have GHS2 : Aside0 (wr.heap.size ≤ g2) := ⟨by rw [hg]; exact HZ.out⟩
          have NHZ := Aside0.mk (Nat.le_trans HZ.out hb.size)
          have NHL := Aside0.mk (HL.out.below hb)
          have NHR := Aside0.mk (Kd.R_below HR.out hb)
          have NHV := Aside0.mk (Kd.V_below HV.out hb)
          have NHS1 := Aside0.mk (blk_below HS1.out hb)
          clear HZ HL HR HV HS1
          have HZ := NHZ
          have HL := NHL
          have HR := NHR
          have HV := NHV
          have HS1 := NHS1
          clear NHZ NHL NHR NHV NHS1
          clear hg hbox hb
          refine hK.out _ _ ((blk_cell HL.out.box 0).trans rfl) (fun _ => ?_)
          clear hK K
          refine norm_ (a' := ?_) ?_ ?_
          rotate_left
          · show Act.put _ (some 31) _ = _
            simp only [Act.put, List.setIfInBounds_toArray, List.set_cons_zero, List.set_cons_succ, i64_w, i32_w]
            rfl
          refine two_ (i := 1) (j := 9) (Ni := some 28) (Nj := some 7) #[true, true, true, true, true, false, false, false, false, false, false, false] #[true, false, true, true, true, false, false, false, false, true, false, false] rfl rfl rfl rfl (two_of rfl (by kernel_rfl)) (by decide) (by decide) (fun K hK => ?_) (fun K hK => ?_)
          · refine goes_ Tryd.func19 (by kernel_rfl) rfl #[] (by rfl) rfl rfl (by (try simp only [List.map_toArray, List.map_cons, List.map_nil]); first | done | rfl) ?_
            refine (switchboardlaw24_tiny.calls 1 [tinyY] _ rfl).mono ?_
            rintro e q26 ⟨vt, rfl, hvt, hb⟩
            obtain ⟨At, ct, rfl⟩ := Kd.V_slice hvt
            have HVT := Aside0.mk hvt
            clear hvt
            have NHZ := Aside0.mk (Nat.le_trans HZ.out hb.size)
            have NHL := Aside0.mk (HL.out.below hb)
            have NHR := Aside0.mk (Kd.R_below HR.out hb)
            have NHV := Aside0.mk (Kd.V_below HV.out hb)
            have NHS1 := Aside0.mk (blk_below HS1.out hb)
            have NHS2 := Aside0.mk (blk_below HS2.out hb)
            clear HZ HL HR HV HS1 HS2
            have HZ := NHZ
            have HL := NHL
            have HR := NHR
            have HV := NHV
            have HS1 := NHS1
            have HS2 := NHS2
            clear NHZ NHL NHR NHV NHS1 NHS2
            clear hb
            refine ⟨_, rfl, ?_⟩
            refine hK.out _ _ ((blk_cell HL.out.box 0).trans rfl) (fun _ => ?_)
            clear hK K
            refine norm_ (a' := ?_) ?_ ?_
            rotate_left
            · show Act.put _ (some 28) _ = _
              simp only [Act.put, List.setIfInBounds_toArray, List.set_cons_zero, List.set_cons_succ, i64_w, i32_w]
              rfl
            refine two_ (i := 5) (j := 9) (Ni := some 32) (Nj := some 7) #[true, true, true, true, true, true, false, false, false, false, false, false] #[true, true, true, true, true, false, false, false, false, true, false, false] rfl rfl rfl rfl (two_of rfl (by kernel_rfl)) (by decide) (by decide) (fun K hK => ?_) (fun K hK => ?_)
            · refine goes_ Tryd.func18 (by kernel_rfl) rfl #[.agg #[.slice Ah l.length ch], .agg #[.int .i64 1, .slice At 1 ct], .int .i64 (1 + (t : Int)), .slice (some ⟨g2, 0, none⟩) 1 1] (by rfl) rfl rfl (by (try simp only [List.map_toArray, List.map_cons, List.map_nil]); first | done | rfl) ?_
              refine (hall_Admit.calls kk _ _ _ _ 1 _ ct [tinyY] (1 + (t : Int)) _ _ 1 [[1]] l' e0 _ HV.out (Kd.V_reads' HVT.out).2.2 (Kd.V_reads' HVT.out).2.1 (row2_V HS1.out HS2.out) HE.out).mono ?_
              rintro e q27 ⟨vn, rfl, hvn, hb⟩
              have HVN := Aside0.mk (Kd.V_mono (ok' := fun k => k ≠ w.heap.size ∧ some k ≠ (Value.slice Aw ws.length cw).ownBlock) hvn (fun k hk => by rcases hk with (hk | hk | hk) | hk; exact hk; (subst hk; exact HFR.out _ GHS1.out); (subst hk; exact HFR.out _ GHS2.out); exact HFR.out k (Nat.le_trans (HZ.out) hk)))
              clear hvn HV
              obtain ⟨An, cn, rfl⟩ := Kd.V_slice HVN.out
              have NHZ := Aside0.mk (Nat.le_trans HZ.out hb.size)
              have NHL := Aside0.mk (HL.out.below hb)
              have NHR := Aside0.mk (Kd.R_below HR.out hb)
              clear HZ HL HR
              have HZ := NHZ
              have HL := NHL
              have HR := NHR
              clear NHZ NHL NHR
              clear hb HVT HS1 HS2
              have HV := HVN
              clear HVN
              refine ⟨_, rfl, ?_⟩
              refine hK.out _ _ ((blk_cell HL.out.box 0).trans rfl) (fun _ => ?_)
              clear hK K
              refine norm_ (a' := ?_) ?_ ?_
              rotate_left
              · show Act.put _ (some 32) _ = _
                simp only [Act.put, List.setIfInBounds_toArray, List.set_cons_zero, List.set_cons_succ, i64_w, i32_w]
                rfl
              refine pure_ (i := 6) (N := some 26) (v := ?_) (a' := ?_) #[true, true, true, true, true, true, true, false, false, false, false, false] rfl rfl (any_of rfl (by kernel_rfl)) (fun _ _ _ h => h) (Or.inl ⟨by rfl, ?_⟩) ?_ ?_
              rotate_left
              · intro w'
                go_simp
                with_reducible rfl
              rotate_left
              · simp only [Act.put, List.setIfInBounds_toArray, List.set_cons_zero, List.set_cons_succ, i64_w, i32_w]
                rfl
              refine pure_ (i := 7) (N := some 33) (v := ?_) (a' := ?_) #[true, true, true, true, true, true, true, true, false, false, false, false] rfl rfl (any_of rfl (by kernel_rfl)) (fun _ _ _ h => h) (Or.inl ⟨by rfl, ?_⟩) ?_ ?_
              rotate_left
              · intro w'
                go_simp
                with_reducible rfl
              rotate_left
              · simp only [Act.put, List.setIfInBounds_toArray, List.set_cons_zero, List.set_cons_succ, i64_w, i32_w]
                rfl
              refine pure_ (i := 8) (N := some 34) (v := ?_) (a' := ?_) #[true, true, true, true, true, true, true, true, true, false, false, false] rfl rfl (any_of rfl (by kernel_rfl)) (fun _ _ _ h => h) (Or.inl ⟨by rfl, ?_⟩) ?_ ?_
              rotate_left
              · intro w'
                go_simp
                with_reducible rfl
              rotate_left
              · simp only [Act.put, List.setIfInBounds_toArray, List.set_cons_zero, List.set_cons_succ, i64_w, i32_w]
                rfl
              refine one_ (i := 9) (N := some 7) #[true, true, true, true, true, true, true, true, true, true, false, false] rfl rfl (one_of rfl (by kernel_rfl)) (by decide) (fun K hK => ?_)
              · refine box_step ?hg (N := 7) ?hd (cs := #[.slice none 0 0]) (t := 24) ?hr ?_; (case hd => rfl); (case hg => rfl); (case hr => first | (go_simp; done) | (go_simp; rfl))
                intro ga hg q28 hbox hb
                have HA := Aside0.mk hbox
                have HG : Aside0 (wr.heap.size ≤ ga) := ⟨by rw [hg]; exact HZ.out⟩
                have NHZ := Aside0.mk (Nat.le_trans HZ.out hb.size)
                have NHL := Aside0.mk (HL.out.below hb)
                have NHR := Aside0.mk (Kd.R_below HR.out hb)
                have NHV := Aside0.mk (Kd.V_below (Kd.V_elderB HV.out ga (Nat.le_of_eq hg.symm)) hb)
                clear HZ HL HR HV
                have HZ := NHZ
                have HL := NHL
                have HR := NHR
                have HV := NHV
                clear NHZ NHL NHR NHV
                clear hg hbox hb
                refine hK.out _ _ ((blk_cell HL.out.box 0).trans rfl) (fun _ => ?_)
                clear hK K
                refine norm_ (a' := ?_) ?_ ?_
                rotate_left
                · show Act.put _ (some 7) _ = _
                  simp only [Act.put, List.setIfInBounds_toArray, List.set_cons_zero, List.set_cons_succ, i64_w, i32_w]
                  rfl
                refine norm_ ?_ (hJ (.agg #[.int .i64 1, .slice At 1 ct], .slice (some ⟨g1, 0, none⟩) 1 1, .slice (some ⟨g2, 0, none⟩) 1 1, .slice An l'.length cn, ga) _ ⟨(blk_cell HL.out.box 0).trans rfl, HZ.out, HL.out, HR.out, HV.out, HA.out, HG.out⟩)
                simp only [putAll, Act.put, List.setIfInBounds_toArray, List.set_cons_zero, List.set_cons_succ] <;> rfl
            · refine box_step ?hg (N := 7) ?hd (cs := #[.slice none 0 0]) (t := 24) ?hr ?_; (case hd => rfl); (case hg => rfl); (case hr => first | (go_simp; done) | (go_simp; rfl))
              intro ga hg q29 hbox hb
              have HA := Aside0.mk hbox
              have HG : Aside0 (wr.heap.size ≤ ga) := ⟨by rw [hg]; exact HZ.out⟩
              have NHZ := Aside0.mk (Nat.le_trans HZ.out hb.size)
              have NHL := Aside0.mk (HL.out.below hb)
              have NHR := Aside0.mk (Kd.R_below HR.out hb)
              have NHV := Aside0.mk (Kd.V_below (Kd.V_elderB HV.out ga (Nat.le_of_eq hg.symm)) hb)
              have NHS1 := Aside0.mk (blk_below HS1.out hb)
              have NHS2 := Aside0.mk (blk_below HS2.out hb)
              have NHVT := Aside0.mk (Kd.V_below HVT.out hb)
              clear HZ HL HR HV HS1 HS2 HVT
              have HZ := NHZ
              have HL := NHL
              have HR := NHR
              have HV := NHV
              have HS1 := NHS1
              have HS2 := NHS2
              have HVT := NHVT
              clear NHZ NHL NHR NHV NHS1 NHS2 NHVT
              clear hg hbox hb
              refine hK.out _ _ ((blk_cell HL.out.box 0).trans rfl) (fun _ => ?_)
              clear hK K
              refine norm_ (a' := ?_) ?_ ?_
              rotate_left
              · show Act.put _ (some 7) _ = _
                simp only [Act.put, List.setIfInBounds_toArray, List.set_cons_zero, List.set_cons_succ, i64_w, i32_w]
                rfl
              refine one_ (i := 5) (N := some 32) #[true, true, true, true, true, true, false, false, false, true, false, false] rfl rfl (one_of rfl (by kernel_rfl)) (by decide) (fun K hK => ?_)
              · refine goes_ Tryd.func18 (by kernel_rfl) rfl #[.agg #[.slice Ah l.length ch], .agg #[.int .i64 1, .slice At 1 ct], .int .i64 (1 + (t : Int)), .slice (some ⟨g2, 0, none⟩) 1 1] (by rfl) rfl rfl (by (try simp only [List.map_toArray, List.map_cons, List.map_nil]); first | done | rfl) ?_
                refine (hall_Admit.calls kk _ _ _ _ 1 _ ct [tinyY] (1 + (t : Int)) _ _ 1 [[1]] l' e0 _ HV.out (Kd.V_reads' HVT.out).2.2 (Kd.V_reads' HVT.out).2.1 (row2_V HS1.out HS2.out) HE.out).mono ?_
                rintro e q30 ⟨vn, rfl, hvn, hb⟩
                have HVN := Aside0.mk (Kd.V_mono (ok' := fun k => (k ≠ w.heap.size ∧ some k ≠ (Value.slice Aw ws.length cw).ownBlock) ∧ k ≠ ga) hvn (fun k hk => by rcases hk with (hk | hk | hk) | hk; exact hk; (subst hk; exact ⟨HFR.out _ GHS1.out, fun e => by have h_ := HS1.out; rw [e] at h_; have := h_.symm.trans HA.out; simp at this⟩); (subst hk; exact ⟨HFR.out _ GHS2.out, fun e => by have h_ := HS2.out; rw [e] at h_; have := h_.symm.trans HA.out; simp at this⟩); exact ⟨HFR.out k (Nat.le_trans (HZ.out) hk), fun e => by have h_ := blk_lt HA.out; omega⟩))
                clear hvn HV
                obtain ⟨An, cn, rfl⟩ := Kd.V_slice HVN.out
                have NHZ := Aside0.mk (Nat.le_trans HZ.out hb.size)
                have NHL := Aside0.mk (HL.out.below hb)
                have NHR := Aside0.mk (Kd.R_below HR.out hb)
                have NHA := Aside0.mk (blk_below HA.out hb)
                clear HZ HL HR HA
                have HZ := NHZ
                have HL := NHL
                have HR := NHR
                have HA := NHA
                clear NHZ NHL NHR NHA
                clear hb HVT HS1 HS2
                have HV := HVN
                clear HVN
                refine ⟨_, rfl, ?_⟩
                refine hK.out _ _ ((blk_cell HL.out.box 0).trans rfl) (fun _ => ?_)
                clear hK K
                refine norm_ (a' := ?_) ?_ ?_
                rotate_left
                · show Act.put _ (some 32) _ = _
                  simp only [Act.put, List.setIfInBounds_toArray, List.set_cons_zero, List.set_cons_succ, i64_w, i32_w]
                  rfl
                refine pure_ (i := 6) (N := some 26) (v := ?_) (a' := ?_) #[true, true, true, true, true, true, true, false, false, true, false, false] rfl rfl (any_of rfl (by kernel_rfl)) (fun _ _ _ h => h) (Or.inl ⟨by rfl, ?_⟩) ?_ ?_
                rotate_left
                · intro w'
                  go_simp
                  with_reducible rfl
                rotate_left
                · simp only [Act.put, List.setIfInBounds_toArray, List.set_cons_zero, List.set_cons_succ, i64_w, i32_w]
                  rfl
                refine pure_ (i := 7) (N := some 33) (v := ?_) (a' := ?_) #[true, true, true, true, true, true, true, true, false, true, false, false] rfl rfl (any_of rfl (by kernel_rfl)) (fun _ _ _ h => h) (Or.inl ⟨by rfl, ?_⟩) ?_ ?_
                rotate_left
                · intro w'
                  go_simp
                  with_reducible rfl
                rotate_left
                · simp only [Act.put, List.setIfInBounds_toArray, List.set_cons_zero, List.set_cons_succ, i64_w, i32_w]
                  rfl
                refine pure_ (i := 8) (N := some 34) (v := ?_) (a' := ?_) #[true, true, true, true, true, true, true, true, true, true, false, false] rfl rfl (any_of rfl (by kernel_rfl)) (fun _ _ _ h => h) (Or.inl ⟨by rfl, ?_⟩) ?_ ?_
                rotate_left
                · intro w'
                  go_simp
                  with_reducible rfl
                rotate_left
                · simp only [Act.put, List.setIfInBounds_toArray, List.set_cons_zero, List.set_cons_succ, i64_w, i32_w]
                  rfl
                refine norm_ ?_ (hJ (.agg #[.int .i64 1, .slice At 1 ct], .slice (some ⟨g1, 0, none⟩) 1 1, .slice (some ⟨g2, 0, none⟩) 1 1, .slice An l'.length cn, ga) _ ⟨(blk_cell HL.out.box 0).trans rfl, HZ.out, HL.out, HR.out, HV.out, HA.out, HG.out⟩)
                simp only [putAll, Act.put, List.setIfInBounds_toArray, List.set_cons_zero, List.set_cons_succ] <;> rfl
          · refine box_step ?hg (N := 7) ?hd (cs := #[.slice none 0 0]) (t := 24) ?hr ?_; (case hd => rfl); (case hg => rfl); (case hr => first | (go_simp; done) | (go_simp; rfl))
            intro ga hg q31 hbox hb
            have HA := Aside0.mk hbox
            have HG : Aside0 (wr.heap.size ≤ ga) := ⟨by rw [hg]; exact HZ.out⟩
            have NHZ := Aside0.mk (Nat.le_trans HZ.out hb.size)
            have NHL := Aside0.mk (HL.out.below hb)
            have NHR := Aside0.mk (Kd.R_below HR.out hb)
            have NHV := Aside0.mk (Kd.V_below (Kd.V_elderB HV.out ga (Nat.le_of_eq hg.symm)) hb)
            have NHS1 := Aside0.mk (blk_below HS1.out hb)
            have NHS2 := Aside0.mk (blk_below HS2.out hb)
            clear HZ HL HR HV HS1 HS2
            have HZ := NHZ
            have HL := NHL
            have HR := NHR
            have HV := NHV
            have HS1 := NHS1
            have HS2 := NHS2
            clear NHZ NHL NHR NHV NHS1 NHS2
            clear hg hbox hb
            refine hK.out _ _ ((blk_cell HL.out.box 0).trans rfl) (fun _ => ?_)
            clear hK K
            refine norm_ (a' := ?_) ?_ ?_
            rotate_left
            · show Act.put _ (some 7) _ = _
              simp only [Act.put, List.setIfInBounds_toArray, List.set_cons_zero, List.set_cons_succ, i64_w, i32_w]
              rfl
            refine one_ (i := 1) (N := some 28) #[true, true, true, true, true, false, false, false, false, true, false, false] rfl rfl (one_of rfl (by kernel_rfl)) (by decide) (fun K hK => ?_)
            · refine goes_ Tryd.func19 (by kernel_rfl) rfl #[] (by rfl) rfl rfl (by (try simp only [List.map_toArray, List.map_cons, List.map_nil]); first | done | rfl) ?_
              refine (switchboardlaw24_tiny.calls 1 [tinyY] _ rfl).mono ?_
              rintro e q32 ⟨vt, rfl, hvt, hb⟩
              obtain ⟨At, ct, rfl⟩ := Kd.V_slice hvt
              have HVT := Aside0.mk hvt
              clear hvt
              have NHZ := Aside0.mk (Nat.le_trans HZ.out hb.size)
              have NHL := Aside0.mk (HL.out.below hb)
              have NHR := Aside0.mk (Kd.R_below HR.out hb)
              have NHV := Aside0.mk (Kd.V_below HV.out hb)
              have NHS1 := Aside0.mk (blk_below HS1.out hb)
              have NHS2 := Aside0.mk (blk_below HS2.out hb)
              have NHA := Aside0.mk (blk_below HA.out hb)
              clear HZ HL HR HV HS1 HS2 HA
              have HZ := NHZ
              have HL := NHL
              have HR := NHR
              have HV := NHV
              have HS1 := NHS1
              have HS2 := NHS2
              have HA := NHA
              clear NHZ NHL NHR NHV NHS1 NHS2 NHA
              clear hb
              refine ⟨_, rfl, ?_⟩
              refine hK.out _ _ ((blk_cell HL.out.box 0).trans rfl) (fun _ => ?_)
              clear hK K
              refine norm_ (a' := ?_) ?_ ?_
              rotate_left
              · show Act.put _ (some 28) _ = _
                simp only [Act.put, List.setIfInBounds_toArray, List.set_cons_zero, List.set_cons_succ, i64_w, i32_w]
                rfl
              refine one_ (i := 5) (N := some 32) #[true, true, true, true, true, true, false, false, false, true, false, false] rfl rfl (one_of rfl (by kernel_rfl)) (by decide) (fun K hK => ?_)
              · refine goes_ Tryd.func18 (by kernel_rfl) rfl #[.agg #[.slice Ah l.length ch], .agg #[.int .i64 1, .slice At 1 ct], .int .i64 (1 + (t : Int)), .slice (some ⟨g2, 0, none⟩) 1 1] (by rfl) rfl rfl (by (try simp only [List.map_toArray, List.map_cons, List.map_nil]); first | done | rfl) ?_
                refine (hall_Admit.calls kk _ _ _ _ 1 _ ct [tinyY] (1 + (t : Int)) _ _ 1 [[1]] l' e0 _ HV.out (Kd.V_reads' HVT.out).2.2 (Kd.V_reads' HVT.out).2.1 (row2_V HS1.out HS2.out) HE.out).mono ?_
                rintro e q33 ⟨vn, rfl, hvn, hb⟩
                have HVN := Aside0.mk (Kd.V_mono (ok' := fun k => (k ≠ w.heap.size ∧ some k ≠ (Value.slice Aw ws.length cw).ownBlock) ∧ k ≠ ga) hvn (fun k hk => by rcases hk with (hk | hk | hk) | hk; exact hk; (subst hk; exact ⟨HFR.out _ GHS1.out, fun e => by have h_ := HS1.out; rw [e] at h_; have := h_.symm.trans HA.out; simp at this⟩); (subst hk; exact ⟨HFR.out _ GHS2.out, fun e => by have h_ := HS2.out; rw [e] at h_; have := h_.symm.trans HA.out; simp at this⟩); exact ⟨HFR.out k (Nat.le_trans (HZ.out) hk), fun e => by have h_ := blk_lt HA.out; omega⟩))
                clear hvn HV
                obtain ⟨An, cn, rfl⟩ := Kd.V_slice HVN.out
                have NHZ := Aside0.mk (Nat.le_trans HZ.out hb.size)
                have NHL := Aside0.mk (HL.out.below hb)
                have NHR := Aside0.mk (Kd.R_below HR.out hb)
                have NHA := Aside0.mk (blk_below HA.out hb)
                clear HZ HL HR HA
                have HZ := NHZ
                have HL := NHL
                have HR := NHR
                have HA := NHA
                clear NHZ NHL NHR NHA
                clear hb HVT HS1 HS2
                have HV := HVN
                clear HVN
                refine ⟨_, rfl, ?_⟩
                refine hK.out _ _ ((blk_cell HL.out.box 0).trans rfl) (fun _ => ?_)
                clear hK K
                refine norm_ (a' := ?_) ?_ ?_
                rotate_left
                · show Act.put _ (some 32) _ = _
                  simp only [Act.put, List.setIfInBounds_toArray, List.set_cons_zero, List.set_cons_succ, i64_w, i32_w]
                  rfl
                refine pure_ (i := 6) (N := some 26) (v := ?_) (a' := ?_) #[true, true, true, true, true, true, true, false, false, true, false, false] rfl rfl (any_of rfl (by kernel_rfl)) (fun _ _ _ h => h) (Or.inl ⟨by rfl, ?_⟩) ?_ ?_
                rotate_left
                · intro w'
                  go_simp
                  with_reducible rfl
                rotate_left
                · simp only [Act.put, List.setIfInBounds_toArray, List.set_cons_zero, List.set_cons_succ, i64_w, i32_w]
                  rfl
                refine pure_ (i := 7) (N := some 33) (v := ?_) (a' := ?_) #[true, true, true, true, true, true, true, true, false, true, false, false] rfl rfl (any_of rfl (by kernel_rfl)) (fun _ _ _ h => h) (Or.inl ⟨by rfl, ?_⟩) ?_ ?_
                rotate_left
                · intro w'
                  go_simp
                  with_reducible rfl
                rotate_left
                · simp only [Act.put, List.setIfInBounds_toArray, List.set_cons_zero, List.set_cons_succ, i64_w, i32_w]
                  rfl
                refine pure_ (i := 8) (N := some 34) (v := ?_) (a' := ?_) #[true, true, true, true, true, true, true, true, true, true, false, false] rfl rfl (any_of rfl (by kernel_rfl)) (fun _ _ _ h => h) (Or.inl ⟨by rfl, ?_⟩) ?_ ?_
                rotate_left
                · intro w'
                  go_simp
                  with_reducible rfl
                rotate_left
                · simp only [Act.put, List.setIfInBounds_toArray, List.set_cons_zero, List.set_cons_succ, i64_w, i32_w]
                  rfl
                refine norm_ ?_ (hJ (.agg #[.int .i64 1, .slice At 1 ct], .slice (some ⟨g1, 0, none⟩) 1 1, .slice (some ⟨g2, 0, none⟩) 1 1, .slice An l'.length cn, ga) _ ⟨(blk_cell HL.out.box 0).trans rfl, HZ.out, HL.out, HR.out, HV.out, HA.out, HG.out⟩)
                simp only [putAll, Act.put, List.setIfInBounds_toArray, List.set_cons_zero, List.set_cons_succ] <;> rfl
        · refine box_step ?hg (N := 7) ?hd (cs := #[.slice none 0 0]) (t := 24) ?hr ?_; (case hd => rfl); (case hg => rfl); (case hr => first | (go_simp; done) | (go_simp; rfl))
          intro ga hg q34 hbox hb
          have HA := Aside0.mk hbox
          have HG : Aside0 (wr.heap.size ≤ ga) := ⟨by rw [hg]; exact HZ.out⟩
          have NHZ := Aside0.mk (Nat.le_trans HZ.out hb.size)
          have NHL := Aside0.mk (HL.out.below hb)
          have NHR := Aside0.mk (Kd.R_below HR.out hb)
          have NHV := Aside0.mk (Kd.V_below (Kd.V_elderB HV.out ga (Nat.le_of_eq hg.symm)) hb)
          have NHS1 := Aside0.mk (blk_below HS1.out hb)
          clear HZ HL HR HV HS1
          have HZ := NHZ
          have HL := NHL
          have HR := NHR
          have HV := NHV
          have HS1 := NHS1
          clear NHZ NHL NHR NHV NHS1
          clear hg hbox hb
          refine hK.out _ _ ((blk_cell HL.out.box 0).trans rfl) (fun _ => ?_)
          clear hK K
          refine norm_ (a' := ?_) ?_ ?_
          rotate_left
          · show Act.put _ (some 7) _ = _
            simp only [Act.put, List.setIfInBounds_toArray, List.set_cons_zero, List.set_cons_succ, i64_w, i32_w]
            rfl
          refine two_ (i := 1) (j := 4) (Ni := some 28) (Nj := some 31) #[true, true, true, true, false, false, false, false, false, true, false, false] #[true, false, true, true, true, false, false, false, false, true, false, false] rfl rfl rfl rfl (two_of rfl (by kernel_rfl)) (by decide) (by decide) (fun K hK => ?_) (fun K hK => ?_)
          · refine goes_ Tryd.func19 (by kernel_rfl) rfl #[] (by rfl) rfl rfl (by (try simp only [List.map_toArray, List.map_cons, List.map_nil]); first | done | rfl) ?_
            refine (switchboardlaw24_tiny.calls 1 [tinyY] _ rfl).mono ?_
            rintro e q35 ⟨vt, rfl, hvt, hb⟩
            obtain ⟨At, ct, rfl⟩ := Kd.V_slice hvt
            have HVT := Aside0.mk hvt
            clear hvt
            have NHZ := Aside0.mk (Nat.le_trans HZ.out hb.size)
            have NHL := Aside0.mk (HL.out.below hb)
            have NHR := Aside0.mk (Kd.R_below HR.out hb)
            have NHV := Aside0.mk (Kd.V_below HV.out hb)
            have NHS1 := Aside0.mk (blk_below HS1.out hb)
            have NHA := Aside0.mk (blk_below HA.out hb)
            clear HZ HL HR HV HS1 HA
            have HZ := NHZ
            have HL := NHL
            have HR := NHR
            have HV := NHV
            have HS1 := NHS1
            have HA := NHA
            clear NHZ NHL NHR NHV NHS1 NHA
            clear hb
            refine ⟨_, rfl, ?_⟩
            refine hK.out _ _ ((blk_cell HL.out.box 0).trans rfl) (fun _ => ?_)
            clear hK K
            refine norm_ (a' := ?_) ?_ ?_
            rotate_left
            · show Act.put _ (some 28) _ = _
              simp only [Act.put, List.setIfInBounds_toArray, List.set_cons_zero, List.set_cons_succ, i64_w, i32_w]
              rfl
            refine one_ (i := 4) (N := some 31) #[true, true, true, true, true, false, false, false, false, true, false, false] rfl rfl (one_of rfl (by kernel_rfl)) (by decide) (fun K hK => ?_)
            · refine lit_step ?hg (N := 31) ?hd (cs := #[.slice (some ⟨g1, 0, none⟩) 1 1]) (t := 42) (n := 1) ?hr ?_; (case hd => rfl); (case hg => rfl); (case hr => first | (go_simp; done) | (go_simp; rfl))
              intro g2 hg q36 hbox hb
              have HS2 := Aside0.mk hbox
              have GHS2 : Aside0 (wr.heap.size ≤ g2) := ⟨by rw [hg]; exact HZ.out⟩
              have NHZ := Aside0.mk (Nat.le_trans HZ.out hb.size)
              have NHL := Aside0.mk (HL.out.below hb)
              have NHR := Aside0.mk (Kd.R_below HR.out hb)
              have NHV := Aside0.mk (Kd.V_below HV.out hb)
              have NHS1 := Aside0.mk (blk_below HS1.out hb)
              have NHA := Aside0.mk (blk_below HA.out hb)
              have NHVT := Aside0.mk (Kd.V_below HVT.out hb)
              clear HZ HL HR HV HS1 HA HVT
              have HZ := NHZ
              have HL := NHL
              have HR := NHR
              have HV := NHV
              have HS1 := NHS1
              have HA := NHA
              have HVT := NHVT
              clear NHZ NHL NHR NHV NHS1 NHA NHVT
              clear hg hbox hb
              refine hK.out _ _ ((blk_cell HL.out.box 0).trans rfl) (fun _ => ?_)
              clear hK K
              refine norm_ (a' := ?_) ?_ ?_
              rotate_left
              · show Act.put _ (some 31) _ = _
                simp only [Act.put, List.setIfInBounds_toArray, List.set_cons_zero, List.set_cons_succ, i64_w, i32_w]
                rfl
              refine one_ (i := 5) (N := some 32) #[true, true, true, true, true, true, false, false, false, true, false, false] rfl rfl (one_of rfl (by kernel_rfl)) (by decide) (fun K hK => ?_)
              · refine goes_ Tryd.func18 (by kernel_rfl) rfl #[.agg #[.slice Ah l.length ch], .agg #[.int .i64 1, .slice At 1 ct], .int .i64 (1 + (t : Int)), .slice (some ⟨g2, 0, none⟩) 1 1] (by rfl) rfl rfl (by (try simp only [List.map_toArray, List.map_cons, List.map_nil]); first | done | rfl) ?_
                refine (hall_Admit.calls kk _ _ _ _ 1 _ ct [tinyY] (1 + (t : Int)) _ _ 1 [[1]] l' e0 _ HV.out (Kd.V_reads' HVT.out).2.2 (Kd.V_reads' HVT.out).2.1 (row2_V HS1.out HS2.out) HE.out).mono ?_
                rintro e q37 ⟨vn, rfl, hvn, hb⟩
                have HVN := Aside0.mk (Kd.V_mono (ok' := fun k => (k ≠ w.heap.size ∧ some k ≠ (Value.slice Aw ws.length cw).ownBlock) ∧ k ≠ ga) hvn (fun k hk => by rcases hk with (hk | hk | hk) | hk; exact hk; (subst hk; exact ⟨HFR.out _ GHS1.out, fun e => by have h_ := HS1.out; rw [e] at h_; have := h_.symm.trans HA.out; simp at this⟩); (subst hk; exact ⟨HFR.out _ GHS2.out, fun e => by have h_ := HS2.out; rw [e] at h_; have := h_.symm.trans HA.out; simp at this⟩); exact ⟨HFR.out k (Nat.le_trans (HZ.out) hk), fun e => by have h_ := blk_lt HA.out; omega⟩))
                clear hvn HV
                obtain ⟨An, cn, rfl⟩ := Kd.V_slice HVN.out
                have NHZ := Aside0.mk (Nat.le_trans HZ.out hb.size)
                have NHL := Aside0.mk (HL.out.below hb)
                have NHR := Aside0.mk (Kd.R_below HR.out hb)
                have NHA := Aside0.mk (blk_below HA.out hb)
                clear HZ HL HR HA
                have HZ := NHZ
                have HL := NHL
                have HR := NHR
                have HA := NHA
                clear NHZ NHL NHR NHA
                clear hb HVT HS1 HS2
                have HV := HVN
                clear HVN
                refine ⟨_, rfl, ?_⟩
                refine hK.out _ _ ((blk_cell HL.out.box 0).trans rfl) (fun _ => ?_)
                clear hK K
                refine norm_ (a' := ?_) ?_ ?_
                rotate_left
                · show Act.put _ (some 32) _ = _
                  simp only [Act.put, List.setIfInBounds_toArray, List.set_cons_zero, List.set_cons_succ, i64_w, i32_w]
                  rfl
                refine pure_ (i := 6) (N := some 26) (v := ?_) (a' := ?_) #[true, true, true, true, true, true, true, false, false, true, false, false] rfl rfl (any_of rfl (by kernel_rfl)) (fun _ _ _ h => h) (Or.inl ⟨by rfl, ?_⟩) ?_ ?_
                rotate_left
                · intro w'
                  go_simp
                  with_reducible rfl
                rotate_left
                · simp only [Act.put, List.setIfInBounds_toArray, List.set_cons_zero, List.set_cons_succ, i64_w, i32_w]
                  rfl
                refine pure_ (i := 7) (N := some 33) (v := ?_) (a' := ?_) #[true, true, true, true, true, true, true, true, false, true, false, false] rfl rfl (any_of rfl (by kernel_rfl)) (fun _ _ _ h => h) (Or.inl ⟨by rfl, ?_⟩) ?_ ?_
                rotate_left
                · intro w'
                  go_simp
                  with_reducible rfl
                rotate_left
                · simp only [Act.put, List.setIfInBounds_toArray, List.set_cons_zero, List.set_cons_succ, i64_w, i32_w]
                  rfl
                refine pure_ (i := 8) (N := some 34) (v := ?_) (a' := ?_) #[true, true, true, true, true, true, true, true, true, true, false, false] rfl rfl (any_of rfl (by kernel_rfl)) (fun _ _ _ h => h) (Or.inl ⟨by rfl, ?_⟩) ?_ ?_
                rotate_left
                · intro w'
                  go_simp
                  with_reducible rfl
                rotate_left
                · simp only [Act.put, List.setIfInBounds_toArray, List.set_cons_zero, List.set_cons_succ, i64_w, i32_w]
                  rfl
                refine norm_ ?_ (hJ (.agg #[.int .i64 1, .slice At 1 ct], .slice (some ⟨g1, 0, none⟩) 1 1, .slice (some ⟨g2, 0, none⟩) 1 1, .slice An l'.length cn, ga) _ ⟨(blk_cell HL.out.box 0).trans rfl, HZ.out, HL.out, HR.out, HV.out, HA.out, HG.out⟩)
                simp only [putAll, Act.put, List.setIfInBounds_toArray, List.set_cons_zero, List.set_cons_succ] <;> rfl
          · refine lit_step ?hg (N := 31) ?hd (cs := #[.slice (some ⟨g1, 0, none⟩) 1 1]) (t := 42) (n := 1) ?hr ?_; (case hd => rfl); (case hg => rfl); (case hr => first | (go_simp; done) | (go_simp; rfl))
            intro g2 hg q38 hbox hb
            have HS2 := Aside0.mk hbox
            have GHS2 : Aside0 (wr.heap.size ≤ g2) := ⟨by rw [hg]; exact HZ.out⟩
            have NHZ := Aside0.mk (Nat.le_trans HZ.out hb.size)
            have NHL := Aside0.mk (HL.out.below hb)
            have NHR := Aside0.mk (Kd.R_below HR.out hb)
            have NHV := Aside0.mk (Kd.V_below HV.out hb)
            have NHS1 := Aside0.mk (blk_below HS1.out hb)
            have NHA := Aside0.mk (blk_below HA.out hb)
            clear HZ HL HR HV HS1 HA
            have HZ := NHZ
            have HL := NHL
            have HR := NHR
            have HV := NHV
            have HS1 := NHS1
            have HA := NHA
            clear NHZ NHL NHR NHV NHS1 NHA
            clear hg hbox hb
            refine hK.out _ _ ((blk_cell HL.out.box 0).trans rfl) (fun _ => ?_)
            clear hK K
            refine norm_ (a' := ?_) ?_ ?_
            rotate_left
            · show Act.put _ (some 31) _ = _
              simp only [Act.put, List.setIfInBounds_toArray, List.set_cons_zero, List.set_cons_succ, i64_w, i32_w]
              rfl
            refine one_ (i := 1) (N := some 28) #[true, true, true, true, true, false, false, false, false, true, false, false] rfl rfl (one_of rfl (by kernel_rfl)) (by decide) (fun K hK => ?_)
            · refine goes_ Tryd.func19 (by kernel_rfl) rfl #[] (by rfl) rfl rfl (by (try simp only [List.map_toArray, List.map_cons, List.map_nil]); first | done | rfl) ?_
              refine (switchboardlaw24_tiny.calls 1 [tinyY] _ rfl).mono ?_
              rintro e q39 ⟨vt, rfl, hvt, hb⟩
              obtain ⟨At, ct, rfl⟩ := Kd.V_slice hvt
              have HVT := Aside0.mk hvt
              clear hvt
              have NHZ := Aside0.mk (Nat.le_trans HZ.out hb.size)
              have NHL := Aside0.mk (HL.out.below hb)
              have NHR := Aside0.mk (Kd.R_below HR.out hb)
              have NHV := Aside0.mk (Kd.V_below HV.out hb)
              have NHS1 := Aside0.mk (blk_below HS1.out hb)
              have NHA := Aside0.mk (blk_below HA.out hb)
              have NHS2 := Aside0.mk (blk_below HS2.out hb)
              clear HZ HL HR HV HS1 HA HS2
              have HZ := NHZ
              have HL := NHL
              have HR := NHR
              have HV := NHV
              have HS1 := NHS1
              have HA := NHA
              have HS2 := NHS2
              clear NHZ NHL NHR NHV NHS1 NHA NHS2
              clear hb
              refine ⟨_, rfl, ?_⟩
              refine hK.out _ _ ((blk_cell HL.out.box 0).trans rfl) (fun _ => ?_)
              clear hK K
              refine norm_ (a' := ?_) ?_ ?_
              rotate_left
              · show Act.put _ (some 28) _ = _
                simp only [Act.put, List.setIfInBounds_toArray, List.set_cons_zero, List.set_cons_succ, i64_w, i32_w]
                rfl
              refine one_ (i := 5) (N := some 32) #[true, true, true, true, true, true, false, false, false, true, false, false] rfl rfl (one_of rfl (by kernel_rfl)) (by decide) (fun K hK => ?_)
              · refine goes_ Tryd.func18 (by kernel_rfl) rfl #[.agg #[.slice Ah l.length ch], .agg #[.int .i64 1, .slice At 1 ct], .int .i64 (1 + (t : Int)), .slice (some ⟨g2, 0, none⟩) 1 1] (by rfl) rfl rfl (by (try simp only [List.map_toArray, List.map_cons, List.map_nil]); first | done | rfl) ?_
                refine (hall_Admit.calls kk _ _ _ _ 1 _ ct [tinyY] (1 + (t : Int)) _ _ 1 [[1]] l' e0 _ HV.out (Kd.V_reads' HVT.out).2.2 (Kd.V_reads' HVT.out).2.1 (row2_V HS1.out HS2.out) HE.out).mono ?_
                rintro e q40 ⟨vn, rfl, hvn, hb⟩
                have HVN := Aside0.mk (Kd.V_mono (ok' := fun k => (k ≠ w.heap.size ∧ some k ≠ (Value.slice Aw ws.length cw).ownBlock) ∧ k ≠ ga) hvn (fun k hk => by rcases hk with (hk | hk | hk) | hk; exact hk; (subst hk; exact ⟨HFR.out _ GHS1.out, fun e => by have h_ := HS1.out; rw [e] at h_; have := h_.symm.trans HA.out; simp at this⟩); (subst hk; exact ⟨HFR.out _ GHS2.out, fun e => by have h_ := HS2.out; rw [e] at h_; have := h_.symm.trans HA.out; simp at this⟩); exact ⟨HFR.out k (Nat.le_trans (HZ.out) hk), fun e => by have h_ := blk_lt HA.out; omega⟩))
                clear hvn HV
                obtain ⟨An, cn, rfl⟩ := Kd.V_slice HVN.out
                have NHZ := Aside0.mk (Nat.le_trans HZ.out hb.size)
                have NHL := Aside0.mk (HL.out.below hb)
                have NHR := Aside0.mk (Kd.R_below HR.out hb)
                have NHA := Aside0.mk (blk_below HA.out hb)
                clear HZ HL HR HA
                have HZ := NHZ
                have HL := NHL
                have HR := NHR
                have HA := NHA
                clear NHZ NHL NHR NHA
                clear hb HVT HS1 HS2
                have HV := HVN
                clear HVN
                refine ⟨_, rfl, ?_⟩
                refine hK.out _ _ ((blk_cell HL.out.box 0).trans rfl) (fun _ => ?_)
                clear hK K
                refine norm_ (a' := ?_) ?_ ?_
                rotate_left
                · show Act.put _ (some 32) _ = _
                  simp only [Act.put, List.setIfInBounds_toArray, List.set_cons_zero, List.set_cons_succ, i64_w, i32_w]
                  rfl
                refine pure_ (i := 6) (N := some 26) (v := ?_) (a' := ?_) #[true, true, true, true, true, true, true, false, false, true, false, false] rfl rfl (any_of rfl (by kernel_rfl)) (fun _ _ _ h => h) (Or.inl ⟨by rfl, ?_⟩) ?_ ?_
                rotate_left
                · intro w'
                  go_simp
                  with_reducible rfl
                rotate_left
                · simp only [Act.put, List.setIfInBounds_toArray, List.set_cons_zero, List.set_cons_succ, i64_w, i32_w]
                  rfl
                refine pure_ (i := 7) (N := some 33) (v := ?_) (a' := ?_) #[true, true, true, true, true, true, true, true, false, true, false, false] rfl rfl (any_of rfl (by kernel_rfl)) (fun _ _ _ h => h) (Or.inl ⟨by rfl, ?_⟩) ?_ ?_
                rotate_left
                · intro w'
                  go_simp
                  with_reducible rfl
                rotate_left
                · simp only [Act.put, List.setIfInBounds_toArray, List.set_cons_zero, List.set_cons_succ, i64_w, i32_w]
                  rfl
                refine pure_ (i := 8) (N := some 34) (v := ?_) (a' := ?_) #[true, true, true, true, true, true, true, true, true, true, false, false] rfl rfl (any_of rfl (by kernel_rfl)) (fun _ _ _ h => h) (Or.inl ⟨by rfl, ?_⟩) ?_ ?_
                rotate_left
                · intro w'
                  go_simp
                  with_reducible rfl
                rotate_left
                · simp only [Act.put, List.setIfInBounds_toArray, List.set_cons_zero, List.set_cons_succ, i64_w, i32_w]
                  rfl
                refine norm_ ?_ (hJ (.agg #[.int .i64 1, .slice At 1 ct], .slice (some ⟨g1, 0, none⟩) 1 1, .slice (some ⟨g2, 0, none⟩) 1 1, .slice An l'.length cn, ga) _ ⟨(blk_cell HL.out.box 0).trans rfl, HZ.out, HL.out, HR.out, HV.out, HA.out, HG.out⟩)
                simp only [putAll, Act.put, List.setIfInBounds_toArray, List.set_cons_zero, List.set_cons_succ] <;> rfl
      · refine box_step ?hg (N := 7) ?hd (cs := #[.slice none 0 0]) (t := 24) ?hr ?_; (case hd => rfl); (case hg => rfl); (case hr => first | (go_simp; done) | (go_simp; rfl))
        intro ga hg q41 hbox hb
        have HA := Aside0.mk hbox
        have HG : Aside0 (wr.heap.size ≤ ga) := ⟨by rw [hg]; exact HZ.out⟩
        have NHZ := Aside0.mk (Nat.le_trans HZ.out hb.size)
        have NHL := Aside0.mk (HL.out.below hb)
        have NHR := Aside0.mk (Kd.R_below HR.out hb)
        have NHV := Aside0.mk (Kd.V_below (Kd.V_elderB HV.out ga (Nat.le_of_eq hg.symm)) hb)
        clear HZ HL HR HV
        have HZ := NHZ
        have HL := NHL
        have HR := NHR
        have HV := NHV
        clear NHZ NHL NHR NHV
        clear hg hbox hb
        refine hK.out _ _ ((blk_cell HL.out.box 0).trans rfl) (fun _ => ?_)
        clear hK K
        refine norm_ (a' := ?_) ?_ ?_
        rotate_left
        · show Act.put _ (some 7) _ = _
          simp only [Act.put, List.setIfInBounds_toArray, List.set_cons_zero, List.set_cons_succ, i64_w, i32_w]
          rfl
        refine two_ (i := 1) (j := 3) (Ni := some 28) (Nj := some 30) #[true, true, true, false, false, false, false, false, false, true, false, false] #[true, false, true, true, false, false, false, false, false, true, false, false] rfl rfl rfl rfl (two_of rfl (by kernel_rfl)) (by decide) (by decide) (fun K hK => ?_) (fun K hK => ?_)
        · refine goes_ Tryd.func19 (by kernel_rfl) rfl #[] (by rfl) rfl rfl (by (try simp only [List.map_toArray, List.map_cons, List.map_nil]); first | done | rfl) ?_
          refine (switchboardlaw24_tiny.calls 1 [tinyY] _ rfl).mono ?_
          rintro e q42 ⟨vt, rfl, hvt, hb⟩
          obtain ⟨At, ct, rfl⟩ := Kd.V_slice hvt
          have HVT := Aside0.mk hvt
          clear hvt
          have NHZ := Aside0.mk (Nat.le_trans HZ.out hb.size)
          have NHL := Aside0.mk (HL.out.below hb)
          have NHR := Aside0.mk (Kd.R_below HR.out hb)
          have NHV := Aside0.mk (Kd.V_below HV.out hb)
          have NHA := Aside0.mk (blk_below HA.out hb)
          clear HZ HL HR HV HA
          have HZ := NHZ
          have HL := NHL
          have HR := NHR
          have HV := NHV
          have HA := NHA
          clear NHZ NHL NHR NHV NHA
          clear hb
          refine ⟨_, rfl, ?_⟩
          refine hK.out _ _ ((blk_cell HL.out.box 0).trans rfl) (fun _ => ?_)
          clear hK K
          refine norm_ (a' := ?_) ?_ ?_
          rotate_left
          · show Act.put _ (some 28) _ = _
            simp only [Act.put, List.setIfInBounds_toArray, List.set_cons_zero, List.set_cons_succ, i64_w, i32_w]
            rfl
          refine one_ (i := 3) (N := some 30) #[true, true, true, true, false, false, false, false, false, true, false, false] rfl rfl (one_of rfl (by kernel_rfl)) (by decide) (fun K hK => ?_)
          · refine lit_step ?hg (N := 30) ?hd (cs := #[.int .i64 1]) (t := 3) (n := 1) ?hr ?_; (case hd => rfl); (case hg => rfl); (case hr => first | (go_simp; done) | (go_simp; rfl))
            intro g1 hg q43 hbox hb
            have HS1 := Aside0.mk hbox
            have GHS1 : Aside0 (wr.heap.size ≤ g1) := ⟨by rw [hg]; exact HZ.out⟩
            have NHZ := Aside0.mk (Nat.le_trans HZ.out hb.size)
            have NHL := Aside0.mk (HL.out.below hb)
            have NHR := Aside0.mk (Kd.R_below HR.out hb)
            have NHV := Aside0.mk (Kd.V_below HV.out hb)
            have NHA := Aside0.mk (blk_below HA.out hb)
            have NHVT := Aside0.mk (Kd.V_below HVT.out hb)
            clear HZ HL HR HV HA HVT
            have HZ := NHZ
            have HL := NHL
            have HR := NHR
            have HV := NHV
            have HA := NHA
            have HVT := NHVT
            clear NHZ NHL NHR NHV NHA NHVT
            clear hg hbox hb
            refine hK.out _ _ ((blk_cell HL.out.box 0).trans rfl) (fun _ => ?_)
            clear hK K
            refine norm_ (a' := ?_) ?_ ?_
            rotate_left
            · show Act.put _ (some 30) _ = _
              simp only [Act.put, List.setIfInBounds_toArray, List.set_cons_zero, List.set_cons_succ, i64_w, i32_w]
              rfl
            refine one_ (i := 4) (N := some 31) #[true, true, true, true, true, false, false, false, false, true, false, false] rfl rfl (one_of rfl (by kernel_rfl)) (by decide) (fun K hK => ?_)
            · refine lit_step ?hg (N := 31) ?hd (cs := #[.slice (some ⟨g1, 0, none⟩) 1 1]) (t := 42) (n := 1) ?hr ?_; (case hd => rfl); (case hg => rfl); (case hr => first | (go_simp; done) | (go_simp; rfl))
              intro g2 hg q44 hbox hb
              have HS2 := Aside0.mk hbox
              have GHS2 : Aside0 (wr.heap.size ≤ g2) := ⟨by rw [hg]; exact HZ.out⟩
              have NHZ := Aside0.mk (Nat.le_trans HZ.out hb.size)
              have NHL := Aside0.mk (HL.out.below hb)
              have NHR := Aside0.mk (Kd.R_below HR.out hb)
              have NHV := Aside0.mk (Kd.V_below HV.out hb)
              have NHA := Aside0.mk (blk_below HA.out hb)
              have NHVT := Aside0.mk (Kd.V_below HVT.out hb)
              have NHS1 := Aside0.mk (blk_below HS1.out hb)
              clear HZ HL HR HV HA HVT HS1
              have HZ := NHZ
              have HL := NHL
              have HR := NHR
              have HV := NHV
              have HA := NHA
              have HVT := NHVT
              have HS1 := NHS1
              clear NHZ NHL NHR NHV NHA NHVT NHS1
              clear hg hbox hb
              refine hK.out _ _ ((blk_cell HL.out.box 0).trans rfl) (fun _ => ?_)
              clear hK K
              refine norm_ (a' := ?_) ?_ ?_
              rotate_left
              · show Act.put _ (some 31) _ = _
                simp only [Act.put, List.setIfInBounds_toArray, List.set_cons_zero, List.set_cons_succ, i64_w, i32_w]
                rfl
              refine one_ (i := 5) (N := some 32) #[true, true, true, true, true, true, false, false, false, true, false, false] rfl rfl (one_of rfl (by kernel_rfl)) (by decide) (fun K hK => ?_)
              · refine goes_ Tryd.func18 (by kernel_rfl) rfl #[.agg #[.slice Ah l.length ch], .agg #[.int .i64 1, .slice At 1 ct], .int .i64 (1 + (t : Int)), .slice (some ⟨g2, 0, none⟩) 1 1] (by rfl) rfl rfl (by (try simp only [List.map_toArray, List.map_cons, List.map_nil]); first | done | rfl) ?_
                refine (hall_Admit.calls kk _ _ _ _ 1 _ ct [tinyY] (1 + (t : Int)) _ _ 1 [[1]] l' e0 _ HV.out (Kd.V_reads' HVT.out).2.2 (Kd.V_reads' HVT.out).2.1 (row2_V HS1.out HS2.out) HE.out).mono ?_
                rintro e q45 ⟨vn, rfl, hvn, hb⟩
                have HVN := Aside0.mk (Kd.V_mono (ok' := fun k => (k ≠ w.heap.size ∧ some k ≠ (Value.slice Aw ws.length cw).ownBlock) ∧ k ≠ ga) hvn (fun k hk => by rcases hk with (hk | hk | hk) | hk; exact hk; (subst hk; exact ⟨HFR.out _ GHS1.out, fun e => by have h_ := HS1.out; rw [e] at h_; have := h_.symm.trans HA.out; simp at this⟩); (subst hk; exact ⟨HFR.out _ GHS2.out, fun e => by have h_ := HS2.out; rw [e] at h_; have := h_.symm.trans HA.out; simp at this⟩); exact ⟨HFR.out k (Nat.le_trans (HZ.out) hk), fun e => by have h_ := blk_lt HA.out; omega⟩))
                clear hvn HV
                obtain ⟨An, cn, rfl⟩ := Kd.V_slice HVN.out
                have NHZ := Aside0.mk (Nat.le_trans HZ.out hb.size)
                have NHL := Aside0.mk (HL.out.below hb)
                have NHR := Aside0.mk (Kd.R_below HR.out hb)
                have NHA := Aside0.mk (blk_below HA.out hb)
                clear HZ HL HR HA
                have HZ := NHZ
                have HL := NHL
                have HR := NHR
                have HA := NHA
                clear NHZ NHL NHR NHA
                clear hb HVT HS1 HS2
                have HV := HVN
                clear HVN
                refine ⟨_, rfl, ?_⟩
                refine hK.out _ _ ((blk_cell HL.out.box 0).trans rfl) (fun _ => ?_)
                clear hK K
                refine norm_ (a' := ?_) ?_ ?_
                rotate_left
                · show Act.put _ (some 32) _ = _
                  simp only [Act.put, List.setIfInBounds_toArray, List.set_cons_zero, List.set_cons_succ, i64_w, i32_w]
                  rfl
                refine pure_ (i := 6) (N := some 26) (v := ?_) (a' := ?_) #[true, true, true, true, true, true, true, false, false, true, false, false] rfl rfl (any_of rfl (by kernel_rfl)) (fun _ _ _ h => h) (Or.inl ⟨by rfl, ?_⟩) ?_ ?_
                rotate_left
                · intro w'
                  go_simp
                  with_reducible rfl
                rotate_left
                · simp only [Act.put, List.setIfInBounds_toArray, List.set_cons_zero, List.set_cons_succ, i64_w, i32_w]
                  rfl
                refine pure_ (i := 7) (N := some 33) (v := ?_) (a' := ?_) #[true, true, true, true, true, true, true, true, false, true, false, false] rfl rfl (any_of rfl (by kernel_rfl)) (fun _ _ _ h => h) (Or.inl ⟨by rfl, ?_⟩) ?_ ?_
                rotate_left
                · intro w'
                  go_simp
                  with_reducible rfl
                rotate_left
                · simp only [Act.put, List.setIfInBounds_toArray, List.set_cons_zero, List.set_cons_succ, i64_w, i32_w]
                  rfl
                refine pure_ (i := 8) (N := some 34) (v := ?_) (a' := ?_) #[true, true, true, true, true, true, true, true, true, true, false, false] rfl rfl (any_of rfl (by kernel_rfl)) (fun _ _ _ h => h) (Or.inl ⟨by rfl, ?_⟩) ?_ ?_
                rotate_left
                · intro w'
                  go_simp
                  with_reducible rfl
                rotate_left
                · simp only [Act.put, List.setIfInBounds_toArray, List.set_cons_zero, List.set_cons_succ, i64_w, i32_w]
                  rfl
                refine norm_ ?_ (hJ (.agg #[.int .i64 1, .slice At 1 ct], .slice (some ⟨g1, 0, none⟩) 1 1, .slice (some ⟨g2, 0, none⟩) 1 1, .slice An l'.length cn, ga) _ ⟨(blk_cell HL.out.box 0).trans rfl, HZ.out, HL.out, HR.out, HV.out, HA.out, HG.out⟩)
                simp only [putAll, Act.put, List.setIfInBounds_toArray, List.set_cons_zero, List.set_cons_succ] <;> rfl
        · refine lit_step ?hg (N := 30) ?hd (cs := #[.int .i64 1]) (t := 3) (n := 1) ?hr ?_; (case hd => rfl); (case hg => rfl); (case hr => first | (go_simp; done) | (go_simp; rfl))
          intro g1 hg q46 hbox hb
          have HS1 := Aside0.mk hbox
          have GHS1 : Aside0 (wr.heap.size ≤ g1) := ⟨by rw [hg]; exact HZ.out⟩
          have NHZ := Aside0.mk (Nat.le_trans HZ.out hb.size)
          have NHL := Aside0.mk (HL.out.below hb)
          have NHR := Aside0.mk (Kd.R_below HR.out hb)
          have NHV := Aside0.mk (Kd.V_below HV.out hb)
          have NHA := Aside0.mk (blk_below HA.out hb)
          clear HZ HL HR HV HA
          have HZ := NHZ
          have HL := NHL
          have HR := NHR
          have HV := NHV
          have HA := NHA
          clear NHZ NHL NHR NHV NHA
          clear hg hbox hb
          refine hK.out _ _ ((blk_cell HL.out.box 0).trans rfl) (fun _ => ?_)
          clear hK K
          refine norm_ (a' := ?_) ?_ ?_
          rotate_left
          · show Act.put _ (some 30) _ = _
            simp only [Act.put, List.setIfInBounds_toArray, List.set_cons_zero, List.set_cons_succ, i64_w, i32_w]
            rfl
          refine two_ (i := 1) (j := 4) (Ni := some 28) (Nj := some 31) #[true, true, true, true, false, false, false, false, false, true, false, false] #[true, false, true, true, true, false, false, false, false, true, false, false] rfl rfl rfl rfl (two_of rfl (by kernel_rfl)) (by decide) (by decide) (fun K hK => ?_) (fun K hK => ?_)
          · refine goes_ Tryd.func19 (by kernel_rfl) rfl #[] (by rfl) rfl rfl (by (try simp only [List.map_toArray, List.map_cons, List.map_nil]); first | done | rfl) ?_
            refine (switchboardlaw24_tiny.calls 1 [tinyY] _ rfl).mono ?_
            rintro e q47 ⟨vt, rfl, hvt, hb⟩
            obtain ⟨At, ct, rfl⟩ := Kd.V_slice hvt
            have HVT := Aside0.mk hvt
            clear hvt
            have NHZ := Aside0.mk (Nat.le_trans HZ.out hb.size)
            have NHL := Aside0.mk (HL.out.below hb)
            have NHR := Aside0.mk (Kd.R_below HR.out hb)
            have NHV := Aside0.mk (Kd.V_below HV.out hb)
            have NHA := Aside0.mk (blk_below HA.out hb)
            have NHS1 := Aside0.mk (blk_below HS1.out hb)
            clear HZ HL HR HV HA HS1
            have HZ := NHZ
            have HL := NHL
            have HR := NHR
            have HV := NHV
            have HA := NHA
            have HS1 := NHS1
            clear NHZ NHL NHR NHV NHA NHS1
            clear hb
            refine ⟨_, rfl, ?_⟩
            refine hK.out _ _ ((blk_cell HL.out.box 0).trans rfl) (fun _ => ?_)
            clear hK K
            refine norm_ (a' := ?_) ?_ ?_
            rotate_left
            · show Act.put _ (some 28) _ = _
              simp only [Act.put, List.setIfInBounds_toArray, List.set_cons_zero, List.set_cons_succ, i64_w, i32_w]
              rfl
            refine one_ (i := 4) (N := some 31) #[true, true, true, true, true, false, false, false, false, true, false, false] rfl rfl (one_of rfl (by kernel_rfl)) (by decide) (fun K hK => ?_)
            · refine lit_step ?hg (N := 31) ?hd (cs := #[.slice (some ⟨g1, 0, none⟩) 1 1]) (t := 42) (n := 1) ?hr ?_; (case hd => rfl); (case hg => rfl); (case hr => first | (go_simp; done) | (go_simp; rfl))
              intro g2 hg q48 hbox hb
              have HS2 := Aside0.mk hbox
              have GHS2 : Aside0 (wr.heap.size ≤ g2) := ⟨by rw [hg]; exact HZ.out⟩
              have NHZ := Aside0.mk (Nat.le_trans HZ.out hb.size)
              have NHL := Aside0.mk (HL.out.below hb)
              have NHR := Aside0.mk (Kd.R_below HR.out hb)
              have NHV := Aside0.mk (Kd.V_below HV.out hb)
              have NHA := Aside0.mk (blk_below HA.out hb)
              have NHS1 := Aside0.mk (blk_below HS1.out hb)
              have NHVT := Aside0.mk (Kd.V_below HVT.out hb)
              clear HZ HL HR HV HA HS1 HVT
              have HZ := NHZ
              have HL := NHL
              have HR := NHR
              have HV := NHV
              have HA := NHA
              have HS1 := NHS1
              have HVT := NHVT
              clear NHZ NHL NHR NHV NHA NHS1 NHVT
              clear hg hbox hb
              refine hK.out _ _ ((blk_cell HL.out.box 0).trans rfl) (fun _ => ?_)
              clear hK K
              refine norm_ (a' := ?_) ?_ ?_
              rotate_left
              · show Act.put _ (some 31) _ = _
                simp only [Act.put, List.setIfInBounds_toArray, List.set_cons_zero, List.set_cons_succ, i64_w, i32_w]
                rfl
              refine one_ (i := 5) (N := some 32) #[true, true, true, true, true, true, false, false, false, true, false, false] rfl rfl (one_of rfl (by kernel_rfl)) (by decide) (fun K hK => ?_)
              · refine goes_ Tryd.func18 (by kernel_rfl) rfl #[.agg #[.slice Ah l.length ch], .agg #[.int .i64 1, .slice At 1 ct], .int .i64 (1 + (t : Int)), .slice (some ⟨g2, 0, none⟩) 1 1] (by rfl) rfl rfl (by (try simp only [List.map_toArray, List.map_cons, List.map_nil]); first | done | rfl) ?_
                refine (hall_Admit.calls kk _ _ _ _ 1 _ ct [tinyY] (1 + (t : Int)) _ _ 1 [[1]] l' e0 _ HV.out (Kd.V_reads' HVT.out).2.2 (Kd.V_reads' HVT.out).2.1 (row2_V HS1.out HS2.out) HE.out).mono ?_
                rintro e q49 ⟨vn, rfl, hvn, hb⟩
                have HVN := Aside0.mk (Kd.V_mono (ok' := fun k => (k ≠ w.heap.size ∧ some k ≠ (Value.slice Aw ws.length cw).ownBlock) ∧ k ≠ ga) hvn (fun k hk => by rcases hk with (hk | hk | hk) | hk; exact hk; (subst hk; exact ⟨HFR.out _ GHS1.out, fun e => by have h_ := HS1.out; rw [e] at h_; have := h_.symm.trans HA.out; simp at this⟩); (subst hk; exact ⟨HFR.out _ GHS2.out, fun e => by have h_ := HS2.out; rw [e] at h_; have := h_.symm.trans HA.out; simp at this⟩); exact ⟨HFR.out k (Nat.le_trans (HZ.out) hk), fun e => by have h_ := blk_lt HA.out; omega⟩))
                clear hvn HV
                obtain ⟨An, cn, rfl⟩ := Kd.V_slice HVN.out
                have NHZ := Aside0.mk (Nat.le_trans HZ.out hb.size)
                have NHL := Aside0.mk (HL.out.below hb)
                have NHR := Aside0.mk (Kd.R_below HR.out hb)
                have NHA := Aside0.mk (blk_below HA.out hb)
                clear HZ HL HR HA
                have HZ := NHZ
                have HL := NHL
                have HR := NHR
                have HA := NHA
                clear NHZ NHL NHR NHA
                clear hb HVT HS1 HS2
                have HV := HVN
                clear HVN
                refine ⟨_, rfl, ?_⟩
                refine hK.out _ _ ((blk_cell HL.out.box 0).trans rfl) (fun _ => ?_)
                clear hK K
                refine norm_ (a' := ?_) ?_ ?_
                rotate_left
                · show Act.put _ (some 32) _ = _
                  simp only [Act.put, List.setIfInBounds_toArray, List.set_cons_zero, List.set_cons_succ, i64_w, i32_w]
                  rfl
                refine pure_ (i := 6) (N := some 26) (v := ?_) (a' := ?_) #[true, true, true, true, true, true, true, false, false, true, false, false] rfl rfl (any_of rfl (by kernel_rfl)) (fun _ _ _ h => h) (Or.inl ⟨by rfl, ?_⟩) ?_ ?_
                rotate_left
                · intro w'
                  go_simp
                  with_reducible rfl
                rotate_left
                · simp only [Act.put, List.setIfInBounds_toArray, List.set_cons_zero, List.set_cons_succ, i64_w, i32_w]
                  rfl
                refine pure_ (i := 7) (N := some 33) (v := ?_) (a' := ?_) #[true, true, true, true, true, true, true, true, false, true, false, false] rfl rfl (any_of rfl (by kernel_rfl)) (fun _ _ _ h => h) (Or.inl ⟨by rfl, ?_⟩) ?_ ?_
                rotate_left
                · intro w'
                  go_simp
                  with_reducible rfl
                rotate_left
                · simp only [Act.put, List.setIfInBounds_toArray, List.set_cons_zero, List.set_cons_succ, i64_w, i32_w]
                  rfl
                refine pure_ (i := 8) (N := some 34) (v := ?_) (a' := ?_) #[true, true, true, true, true, true, true, true, true, true, false, false] rfl rfl (any_of rfl (by kernel_rfl)) (fun _ _ _ h => h) (Or.inl ⟨by rfl, ?_⟩) ?_ ?_
                rotate_left
                · intro w'
                  go_simp
                  with_reducible rfl
                rotate_left
                · simp only [Act.put, List.setIfInBounds_toArray, List.set_cons_zero, List.set_cons_succ, i64_w, i32_w]
                  rfl
                refine norm_ ?_ (hJ (.agg #[.int .i64 1, .slice At 1 ct], .slice (some ⟨g1, 0, none⟩) 1 1, .slice (some ⟨g2, 0, none⟩) 1 1, .slice An l'.length cn, ga) _ ⟨(blk_cell HL.out.box 0).trans rfl, HZ.out, HL.out, HR.out, HV.out, HA.out, HG.out⟩)
                simp only [putAll, Act.put, List.setIfInBounds_toArray, List.set_cons_zero, List.set_cons_succ] <;> rfl
          · refine lit_step ?hg (N := 31) ?hd (cs := #[.slice (some ⟨g1, 0, none⟩) 1 1]) (t := 42) (n := 1) ?hr ?_; (case hd => rfl); (case hg => rfl); (case hr => first | (go_simp; done) | (go_simp; rfl))
            intro g2 hg q50 hbox hb
            have HS2 := Aside0.mk hbox
            have GHS2 : Aside0 (wr.heap.size ≤ g2) := ⟨by rw [hg]; exact HZ.out⟩
            have NHZ := Aside0.mk (Nat.le_trans HZ.out hb.size)
            have NHL := Aside0.mk (HL.out.below hb)
            have NHR := Aside0.mk (Kd.R_below HR.out hb)
            have NHV := Aside0.mk (Kd.V_below HV.out hb)
            have NHA := Aside0.mk (blk_below HA.out hb)
            have NHS1 := Aside0.mk (blk_below HS1.out hb)
            clear HZ HL HR HV HA HS1
            have HZ := NHZ
            have HL := NHL
            have HR := NHR
            have HV := NHV
            have HA := NHA
            have HS1 := NHS1
            clear NHZ NHL NHR NHV NHA NHS1
            clear hg hbox hb
            refine hK.out _ _ ((blk_cell HL.out.box 0).trans rfl) (fun _ => ?_)
            clear hK K
            refine norm_ (a' := ?_) ?_ ?_
            rotate_left
            · show Act.put _ (some 31) _ = _
              simp only [Act.put, List.setIfInBounds_toArray, List.set_cons_zero, List.set_cons_succ, i64_w, i32_w]
              rfl
            refine one_ (i := 1) (N := some 28) #[true, true, true, true, true, false, false, false, false, true, false, false] rfl rfl (one_of rfl (by kernel_rfl)) (by decide) (fun K hK => ?_)
            · refine goes_ Tryd.func19 (by kernel_rfl) rfl #[] (by rfl) rfl rfl (by (try simp only [List.map_toArray, List.map_cons, List.map_nil]); first | done | rfl) ?_
              refine (switchboardlaw24_tiny.calls 1 [tinyY] _ rfl).mono ?_
              rintro e q51 ⟨vt, rfl, hvt, hb⟩
              obtain ⟨At, ct, rfl⟩ := Kd.V_slice hvt
              have HVT := Aside0.mk hvt
              clear hvt
              have NHZ := Aside0.mk (Nat.le_trans HZ.out hb.size)
              have NHL := Aside0.mk (HL.out.below hb)
              have NHR := Aside0.mk (Kd.R_below HR.out hb)
              have NHV := Aside0.mk (Kd.V_below HV.out hb)
              have NHA := Aside0.mk (blk_below HA.out hb)
              have NHS1 := Aside0.mk (blk_below HS1.out hb)
              have NHS2 := Aside0.mk (blk_below HS2.out hb)
              clear HZ HL HR HV HA HS1 HS2
              have HZ := NHZ
              have HL := NHL
              have HR := NHR
              have HV := NHV
              have HA := NHA
              have HS1 := NHS1
              have HS2 := NHS2
              clear NHZ NHL NHR NHV NHA NHS1 NHS2
              clear hb
              refine ⟨_, rfl, ?_⟩
              refine hK.out _ _ ((blk_cell HL.out.box 0).trans rfl) (fun _ => ?_)
              clear hK K
              refine norm_ (a' := ?_) ?_ ?_
              rotate_left
              · show Act.put _ (some 28) _ = _
                simp only [Act.put, List.setIfInBounds_toArray, List.set_cons_zero, List.set_cons_succ, i64_w, i32_w]
                rfl
              refine one_ (i := 5) (N := some 32) #[true, true, true, true, true, true, false, false, false, true, false, false] rfl rfl (one_of rfl (by kernel_rfl)) (by decide) (fun K hK => ?_)
              · refine goes_ Tryd.func18 (by kernel_rfl) rfl #[.agg #[.slice Ah l.length ch], .agg #[.int .i64 1, .slice At 1 ct], .int .i64 (1 + (t : Int)), .slice (some ⟨g2, 0, none⟩) 1 1] (by rfl) rfl rfl (by (try simp only [List.map_toArray, List.map_cons, List.map_nil]); first | done | rfl) ?_
                refine (hall_Admit.calls kk _ _ _ _ 1 _ ct [tinyY] (1 + (t : Int)) _ _ 1 [[1]] l' e0 _ HV.out (Kd.V_reads' HVT.out).2.2 (Kd.V_reads' HVT.out).2.1 (row2_V HS1.out HS2.out) HE.out).mono ?_
                rintro e q52 ⟨vn, rfl, hvn, hb⟩
                have HVN := Aside0.mk (Kd.V_mono (ok' := fun k => (k ≠ w.heap.size ∧ some k ≠ (Value.slice Aw ws.length cw).ownBlock) ∧ k ≠ ga) hvn (fun k hk => by rcases hk with (hk | hk | hk) | hk; exact hk; (subst hk; exact ⟨HFR.out _ GHS1.out, fun e => by have h_ := HS1.out; rw [e] at h_; have := h_.symm.trans HA.out; simp at this⟩); (subst hk; exact ⟨HFR.out _ GHS2.out, fun e => by have h_ := HS2.out; rw [e] at h_; have := h_.symm.trans HA.out; simp at this⟩); exact ⟨HFR.out k (Nat.le_trans (HZ.out) hk), fun e => by have h_ := blk_lt HA.out; omega⟩))
                clear hvn HV
                obtain ⟨An, cn, rfl⟩ := Kd.V_slice HVN.out
                have NHZ := Aside0.mk (Nat.le_trans HZ.out hb.size)
                have NHL := Aside0.mk (HL.out.below hb)
                have NHR := Aside0.mk (Kd.R_below HR.out hb)
                have NHA := Aside0.mk (blk_below HA.out hb)
                clear HZ HL HR HA
                have HZ := NHZ
                have HL := NHL
                have HR := NHR
                have HA := NHA
                clear NHZ NHL NHR NHA
                clear hb HVT HS1 HS2
                have HV := HVN
                clear HVN
                refine ⟨_, rfl, ?_⟩
                refine hK.out _ _ ((blk_cell HL.out.box 0).trans rfl) (fun _ => ?_)
                clear hK K
                refine norm_ (a' := ?_) ?_ ?_
                rotate_left
                · show Act.put _ (some 32) _ = _
                  simp only [Act.put, List.setIfInBounds_toArray, List.set_cons_zero, List.set_cons_succ, i64_w, i32_w]
                  rfl
                refine pure_ (i := 6) (N := some 26) (v := ?_) (a' := ?_) #[true, true, true, true, true, true, true, false, false, true, false, false] rfl rfl (any_of rfl (by kernel_rfl)) (fun _ _ _ h => h) (Or.inl ⟨by rfl, ?_⟩) ?_ ?_
                rotate_left
                · intro w'
                  go_simp
                  with_reducible rfl
                rotate_left
                · simp only [Act.put, List.setIfInBounds_toArray, List.set_cons_zero, List.set_cons_succ, i64_w, i32_w]
                  rfl
                refine pure_ (i := 7) (N := some 33) (v := ?_) (a' := ?_) #[true, true, true, true, true, true, true, true, false, true, false, false] rfl rfl (any_of rfl (by kernel_rfl)) (fun _ _ _ h => h) (Or.inl ⟨by rfl, ?_⟩) ?_ ?_
                rotate_left
                · intro w'
                  go_simp
                  with_reducible rfl
                rotate_left
                · simp only [Act.put, List.setIfInBounds_toArray, List.set_cons_zero, List.set_cons_succ, i64_w, i32_w]
                  rfl
                refine pure_ (i := 8) (N := some 34) (v := ?_) (a' := ?_) #[true, true, true, true, true, true, true, true, true, true, false, false] rfl rfl (any_of rfl (by kernel_rfl)) (fun _ _ _ h => h) (Or.inl ⟨by rfl, ?_⟩) ?_ ?_
                rotate_left
                · intro w'
                  go_simp
                  with_reducible rfl
                rotate_left
                · simp only [Act.put, List.setIfInBounds_toArray, List.set_cons_zero, List.set_cons_succ, i64_w, i32_w]
                  rfl
                refine norm_ ?_ (hJ (.agg #[.int .i64 1, .slice At 1 ct], .slice (some ⟨g1, 0, none⟩) 1 1, .slice (some ⟨g2, 0, none⟩) 1 1, .slice An l'.length cn, ga) _ ⟨(blk_cell HL.out.box 0).trans rfl, HZ.out, HL.out, HR.out, HV.out, HA.out, HG.out⟩)
                simp only [putAll, Act.put, List.setIfInBounds_toArray, List.set_cons_zero, List.set_cons_succ] <;> rfl
    rintro ⟨u28, u30, u31, v4, ga⟩ wj ⟨hHeld, hHZ, hHL, hHR, hV, hA, hG⟩
    (try dsimp only at hHZ)
    (try dsimp only at hHL)
    (try dsimp only at hHR)
    (try dsimp only at hV)
    (try dsimp only at hA)
    (try dsimp only at hG)
    have HZ := Aside0.mk hHZ
    have HL := Aside0.mk hHL
    have HR := Aside0.mk hHR
    have HV := Aside0.mk hV
    have HA := Aside0.mk hA
    have HG := Aside0.mk hG
    clear hHZ hHL hHR hV hA hG
    obtain ⟨An, cn, rfl⟩ := Kd.V_slice HV.out
    refine norm_ (a' := ?_) ?_ ?_
    rotate_left
    · simp only [putAll, Act.put, List.setIfInBounds_toArray, List.set_cons_zero, List.set_cons_succ]
      rfl
    refine one_ (i := 10) (N := none) #[true, true, true, true, true, true, true, true, true, true, true, false] rfl rfl (one_of rfl (by kernel_rfl)) (by decide) (fun K hK => ?_)
    have hs : wj.cell? ⟨ga, 0, none⟩ = some (.slice none 0 0) := (blk_cell HA.out 0).trans rfl
    have hf := blk_frozen HA.out 0
    refine skip_ (w1 := ?_) (by rfl) rfl ?_ ?_
    rotate_left
    · go_simp
      rfl
    clear hs hf
    have HNG : Aside0 (w.heap.size ≠ ga) := ⟨by have := HGW.out; have := HG.out; omega⟩
    have HL2 := Aside0.mk (HL.out.far 0 (.slice An l'.length cn) (by have := HL.out.lo; have := HG.out; have := HGW.out; omega) HNG.out)
    have HR2 := Aside0.mk (Kd.R_mono (ok' := fun k => k ≠ w.heap.size) (Kd.R_far (p := ⟨ga, 0, none⟩) HR.out (fun k hk => by show k ≠ ga; have := HG.out; omega) (.slice An l'.length cn)) (fun k hk => hk.1))
    have HV2 := Aside0.mk (Kd.V_bound (Kd.V_mono (ok' := fun k => k ≠ w.heap.size ∧ some k ≠ (Value.slice Aw ws.length cw).ownBlock) (Kd.V_far (p := ⟨ga, 0, none⟩) HV.out (fun k hk => hk.2) (.slice An l'.length cn)) (fun k hk => hk.1)))
    have HM2 := Aside0.mk (blk_put HA.out 0 (.slice An l'.length cn) rfl)
    generalize (wj.setCell ⟨ga, 0, none⟩ (.slice An l'.length cn)) = w2 at HL2 HR2 HV2 HM2 ⊢
    clear HL HR HV HA hHeld
    refine hK.out _ _ ((blk_cell HL2.out.box 0).trans rfl) (fun hHeld => ?_)
    clear hK K hHeld
    refine pure_ (i := 11) (N := some 8) (v := ?_) (a' := ?_) #[true, true, true, true, true, true, true, true, true, true, true, true] rfl rfl (any_of rfl (by kernel_rfl)) (fun _ _ _ h => h) (Or.inl ⟨by rfl, ?_⟩) ?_ ?_
    rotate_left
    · intro w'
      go_simp
      with_reducible rfl
    rotate_left
    · simp only [Act.put, List.setIfInBounds_toArray, List.set_cons_zero, List.set_cons_succ, i64_w, i32_w]
      rfl
    refine done_ (done_of rfl (by kernel_rfl)) ?_
    have hm : w2.cell? ⟨ga, 0, none⟩ = some (.slice An l'.length cn) := (blk_cell HM2.out 0).trans rfl
    have hg0 : w2.cell? ⟨w.heap.size, 0, none⟩ = some (.slice Ah l.length ch) := (blk_cell HL2.out.box 0).trans rfl
    have hgf := blk_frozen HL2.out.box 0
    rcases HC.out with ⟨rfl, hws'⟩ | ⟨hne, rfl⟩
    · have HWS := Aside0.mk hws'
      clear hws'
      have HWL : Aside0 (ws.length ≤ 4) := ⟨by have := HO.out.wl; have := HO.out.len; omega⟩
      go_upto_region 10 with (first | (at_builtin; refine Kd.R_append (Kd.int .i64) (w0 := w) w.heap.size rfl (.tmp 37) (.tmp 39) 42 3 (.int .i64 0) 8 rfl Tryd.underlying42 info_int rfl (by decide) (by omega) (Value.slice Aw ws.length cw) ws (1 + (t : Int)) [.int .i64 (1 + (t : Int))] (fun k => k ≠ w.heap.size) (fun _ => False) rfl rfl ?aP (fun _ hk => hk.elim) ?aF ?aO ?aB ?aS ?aL ?_; (case aP => exact rfl); (case aF => exact (fun k hk => by have := blk_lt HL2.out.box; omega)); (case aO => exact HR2.out); (case aB => exact HL2.out.hb); (case aS => exact below_size HL2.out.hb); (case aL => have := HWL.out; omega); intro v3 w3 ho hb hg hat; have HL3 := Aside0.mk (HL2.out.grown hg (Kd.R_away HR2.out (fun _ hk => hk)) hb); have HM3 := Aside0.mk (blk_grown HM2.out hg (Kd.R_ne HR2.out HM2.out (by decide))); have HR3 := Aside0.mk ho; have HV3 := Aside0.mk (Kd.V_mono (ok' := fun k => k ≠ w.heap.size ∧ some k ≠ v3.ownBlock) (Kd.V_step HV2.out (fun k hk hlt => hg.block k hlt hk.1.2)) (fun k hk => ⟨hk.1.1, fun e => by rcases hat with h_ | ⟨b, h_, hle⟩; exact hk.1.2 (e.trans h_); (rw [h_] at e; have := Option.some.inj e; omega)⟩)); clear ho hb hg hat hm hg0 hgf))
      clear HL2 HM2 HR2 HV2
      have NR3 : Aside0 (Kd.R (Kd.int .i64) 3 w3 w.heap.size (fun k => k ≠ w.heap.size) v3 ws') := ⟨by have h_ := HR3.out; rw [← HWS.out] at h_; exact h_⟩
      clear HR3
      have HR3 := NR3
      clear NR3
      obtain ⟨Av, cv, rfl⟩ := Kd.R_slice HR3.out
      have hm : w3.cell? ⟨ga, 0, none⟩ = some (.slice An l'.length cn) := (blk_cell HM3.out 0).trans rfl
      have hg0 : w3.cell? ⟨w.heap.size, 0, none⟩ = some (.slice Ah l.length ch) := (blk_cell HL3.out.box 0).trans rfl
      have hgf := blk_frozen HL3.out.box 0
      go_upto_region 11 with (fail)
      clear hm hg0 hgf
      have HL4 := Aside0.mk (HL3.out.put (.slice An l'.length cn))
      have HR4 := Aside0.mk (Kd.R_far (p := ⟨w.heap.size, 0, none⟩) HR3.out (fun k hk => hk) (.slice An l'.length cn))
      have HV4 := Aside0.mk (Kd.V_far (p := ⟨w.heap.size, 0, none⟩) HV3.out (fun k hk => hk.1) (.slice An l'.length cn))
      generalize (w3.setCell ⟨w.heap.size, 0, none⟩ (.slice An l'.length cn)) = w4 at HL4 HR4 HV4 ⊢
      clear HL3 HR3 HV3 HM3
      have hg1 : w4.cell? ⟨w.heap.size, 0, none⟩ = some (.slice An l'.length cn) := (blk_cell HL4.out.box 0).trans rfl
      have HW4 : Aside0 (ws'.length ≤ 4) := ⟨by have := HO'.out.wl; have := HO'.out.len; omega⟩
      have h5 := HW4.out
      have h5a : decide (4 < (ws'.length : Int)) = false := decide_eq_false (by omega)
      have h5b : decide (4 < ws'.length) = false := decide_eq_false (by omega)
      have h5c : decide ((ws'.length : Int) > 4) = false := decide_eq_false (by omega)
      clear h5
      go_wp2_with (first | (go_at_call 17; (with_reducible refine (hall_Open.calls k2 An cn l' ws' _ (Kd.V_reads' HV4.out).2.2 (Kd.V_reads' HV4.out).2.1 F2.out).mono ?_); rintro e w5 ⟨vo, rfl, ho, hb⟩; obtain ⟨Ao, co, rfl⟩ := Kd.R_slice ho; have HO5 := Aside0.mk ho; have HL5 := Aside0.mk (HL4.out.below hb); have HR5 := Aside0.mk (Kd.R_below HR4.out hb); have HV5 := Aside0.mk (Kd.V_below HV4.out hb); clear ho hb hg1) | (go_at_call 16; (with_reducible refine (switchboardref02_Same.calls k3 _ _ ws' _ _ ws' true _ (Kd.R_reads' HO5.out).2.2 (Kd.R_reads' HO5.out).2.1 (Kd.R_reads' HR5.out).2.2 (Kd.R_reads' HR5.out).2.1 F3.out).mono ?_); rintro e w6 ⟨rfl, hd⟩; have HL6 := Aside0.mk (HL5.out.below hd.below); have HR6 := Aside0.mk (Kd.R_below HR5.out hd.below); have HV6 := Aside0.mk (Kd.V_below HV5.out hd.below); clear hd))
      go_roundw
      case rel => exact ⟨i + 1, l', ws', An, cn, by go_num, ⟨by omega⟩, HO', HL6, HV6, HR6⟩
      case measure => simp [intOf]; omega
    · have hb0 : (e0 == 0) = false := beq_eq_false_iff_ne.2 hne
      clear hne
      go_upto_region 11 with (fail)
      clear hm hg0 hgf
      have HL4 := Aside0.mk (HL2.out.put (.slice An l'.length cn))
      have HR4 := Aside0.mk (Kd.R_far (p := ⟨w.heap.size, 0, none⟩) HR2.out (fun k hk => hk) (.slice An l'.length cn))
      have HV4 := Aside0.mk (Kd.V_far (p := ⟨w.heap.size, 0, none⟩) HV2.out (fun k hk => hk.1.1) (.slice An l'.length cn))
      generalize (w2.setCell ⟨w.heap.size, 0, none⟩ (.slice An l'.length cn)) = w4 at HL4 HR4 HV4 ⊢
      clear HL2 HR2 HV2 HM2
      have hg1 : w4.cell? ⟨w.heap.size, 0, none⟩ = some (.slice An l'.length cn) := (blk_cell HL4.out.box 0).trans rfl
      have HW4 : Aside0 (ws'.length ≤ 4) := ⟨by have := HO'.out.wl; have := HO'.out.len; omega⟩
      have h5 := HW4.out
      have h5a : decide (4 < (ws'.length : Int)) = false := decide_eq_false (by omega)
      have h5b : decide (4 < ws'.length) = false := decide_eq_false (by omega)
      have h5c : decide ((ws'.length : Int) > 4) = false := decide_eq_false (by omega)
      clear h5
      go_wp2_with (first | (go_at_call 17; (with_reducible refine (hall_Open.calls k2 An cn l' ws' _ (Kd.V_reads' HV4.out).2.2 (Kd.V_reads' HV4.out).2.1 F2.out).mono ?_); rintro e w5 ⟨vo, rfl, ho, hb⟩; obtain ⟨Ao, co, rfl⟩ := Kd.R_slice ho; have HO5 := Aside0.mk ho; have HL5 := Aside0.mk (HL4.out.below hb); have HR5 := Aside0.mk (Kd.R_below HR4.out hb); have HV5 := Aside0.mk (Kd.V_below HV4.out hb); clear ho hb hg1) | (go_at_call 16; (with_reducible refine (switchboardref02_Same.calls k3 _ _ ws' _ _ ws' true _ (Kd.R_reads' HO5.out).2.2 (Kd.R_reads' HO5.out).2.1 (Kd.R_reads' HR5.out).2.2 (Kd.R_reads' HR5.out).2.1 F3.out).mono ?_); rintro e w6 ⟨rfl, hd⟩; have HL6 := Aside0.mk (HL5.out.below hd.below); have HR6 := Aside0.mk (Kd.R_below HR5.out hd.below); have HV6 := Aside0.mk (Kd.V_below HV5.out hd.below); clear hd))
      go_roundw
      case rel => exact ⟨i + 1, l', ws', An, cn, by go_num, ⟨by omega⟩, HO', HL6, ⟨Kd.V_mono HV6.out (fun k hk => hk.1)⟩, HR6⟩
      case measure => simp [intOf]; omega


end Go.Proofs.YtlbkfeelkdombaaDoor.Ph
