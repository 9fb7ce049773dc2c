-- Laid by wip/xprint.py, a program of this session that runs the kit's print with some contracts given by hand; not a text of print.sh. Lean checks it.
import Derived.Test.YtikncbklhnaajaaPr0
import Derived.Test.YtikncbklhnaajaaPr2
import Derived.Test.YtikncbklhnaajaaPr3
import Derived.Test.YtikncbklhnaajaaPr4
namespace Go.Proofs.Ytikncbklhnaajaa.Pr
open Go.RowKit Go.Proofs.YtikncbklhnaajaaW.PrintWords Go.Proofs.YtikncbklhnaajaaW.PrintLast Go.Proofs.YtikncbklhnaajaaW.PrintMore
attribute [local go_sem] max2_int min2_int max_two min_two max_three min_three max_four min_four   -- for this text's walks alone
set_option linter.unusedVariables false
set_option linter.unusedSimpArgs false

/-! ### switchboardlaw10_LinkExact: function 3 -/
mutual
def switchboardlaw10_LinkExact.j0 : Nat → ByteArray → Int → Bool → Int → List (S45) → Int → List (S40) → Option (Bool)
  | 0, _, _, _, _, _, _, _ => none
  | k + 1, x1, x2, x28, x164000, x164001, x170000, x170001 => if x28 = true then ((switchboardlaw10_awake.f k).bind fun t170 => (some t170)) else ((link_Push.f k x164000 x164001 x1).bind fun bt171 => ((switchboardlaw10_ref.f k bt171.1 bt171.2.1).bind fun bt178 => ((link_Told.f x164000 x164001 x2).bind fun bt184 => ((switchboardlaw10_ref.f k bt184.1 bt184.2).bind fun bt188 => (if bt188.2.2 = true then ((switchboardref10_Told.f k x170000 x170001 x2).bind fun bt194 => ((switchboardref10_Same.f k bt188.1 bt188.2.1 bt194.1 bt194.2).bind fun t198 => (if t198 = true then ((link_Right.f k x164000 x164001).bind fun t199 => ((switchboardref10_Right.f k x170000 x170001).bind fun t200 => (switchboardlaw10_LinkExact.j1 k x1 bt171.2.2.1 bt171.2.2.2 bt178.2.2 (t199 != t200) x164000 x164001 x170000 x170001 bt178.1 bt178.2.1))) else (switchboardlaw10_LinkExact.j1 k x1 bt171.2.2.1 bt171.2.2.2 bt178.2.2 true x164000 x164001 x170000 x170001 bt178.1 bt178.2.1)))) else (switchboardlaw10_LinkExact.j1 k x1 bt171.2.2.1 bt171.2.2.2 bt178.2.2 true x164000 x164001 x170000 x170001 bt178.1 bt178.2.1))))))
def switchboardlaw10_LinkExact.j1 : Nat → ByteArray → Int → Int → Bool → Bool → Int → List (S45) → Int → List (S40) → Int → List (S40) → Option (Bool)
  | 0, _, _, _, _, _, _, _, _, _, _, _ => none
  | k + 1, x1, x10, x11, x13, x65, x164000, x164001, x170000, x170001, x184000, x184001 => if x65 = true then (some false) else ((switchboardref10_Right.f k x170000 x170001).bind fun t201 => (if t201 = true then (switchboardlaw10_LinkExact.j2 k x1 x10 x11 x13 0 (x164000 == 2147483647) x164000 x164001 x170000 x170001 x184000 x184001) else (switchboardlaw10_LinkExact.j2 k x1 x10 x11 x13 0 true x164000 x164001 x170000 x170001 x184000 x184001)))
def switchboardlaw10_LinkExact.j2 : Nat → ByteArray → Int → Int → Bool → Int → Bool → Int → List (S45) → Int → List (S40) → Int → List (S40) → Option (Bool)
  | 0, _, _, _, _, _, _, _, _, _, _, _, _ => none
  | k + 1, x1, x10, x11, x13, x16, x73, x164000, x164001, x170000, x170001, x184000, x184001 => if x73 = true then (switchboardlaw10_LinkExact.j3 k x1 x10 x11 x13 1 x164000 x164001 x170000 x170001 x184000 x184001) else (if (x164001.length : Int) = 64 then (switchboardlaw10_LinkExact.j3 k x1 x10 x11 x13 8 x164000 x164001 x170000 x170001 x184000 x184001) else (switchboardlaw10_LinkExact.j3 k x1 x10 x11 x13 x16 x164000 x164001 x170000 x170001 x184000 x184001))
def switchboardlaw10_LinkExact.j3 : Nat → ByteArray → Int → Int → Bool → Int → Int → List (S45) → Int → List (S40) → Int → List (S40) → Option (Bool)
  | 0, _, _, _, _, _, _, _, _, _, _, _ => none
  | k + 1, x1, x10, x11, x13, x16, x164000, x164001, x170000, x170001, x184000, x184001 => if x16 = 0 then (if x170001.length < 5864062014805 then (if x13 = true then ((switchboardref10_Same.f k x184000 x184001 (wrap64 (x170000 + 1)) (x170001 ++ [(⟨x170000, x1⟩ : S40)])).bind fun t205 => (if t205 = true then (if x10 = x164000 then (if x11 = x16 then ((switchboardlaw10_awake.f k).bind fun t206 => (some t206)) else (some false)) else (some false)) else (some false))) else (some false)) else (none)) else (if x13 = true then ((switchboardref10_Same.f k x184000 x184001 x170000 x170001).bind fun t207 => (if t207 = true then (if x10 = 0 then (if x11 = x16 then ((switchboardlaw10_awake.f k).bind fun t208 => (some t208)) else (some false)) else (some false)) else (some false))) else (some false))
end
def switchboardlaw10_LinkExact.f (k : Nat) (a0_0 : Int) (l0_1 : List (S45)) (a1 : ByteArray) (a2 : Int) : Option (Bool) := (switchboardlaw10_ref.f k a0_0 l0_1).bind fun bt164 => (if bt164.2.2 = true then (switchboardlaw10_LinkExact.j0 k a1 a2 (decide ((a1.size : Int) > 100)) a0_0 l0_1 bt164.1 bt164.2.1) else (switchboardlaw10_LinkExact.j0 k a1 a2 true a0_0 l0_1 bt164.1 bt164.2.1))
theorem switchboardlaw10_LinkExact.mono_l : ∀ k, (∀ y0 y1 y2 y3 y4 y5 y6, LeO (switchboardlaw10_LinkExact.j0 k y0 y1 y2 y3 y4 y5 y6) (switchboardlaw10_LinkExact.j0 (k + 1) y0 y1 y2 y3 y4 y5 y6)) ∧ (∀ y0 y1 y2 y3 y4 y5 y6 y7 y8 y9 y10, LeO (switchboardlaw10_LinkExact.j1 k y0 y1 y2 y3 y4 y5 y6 y7 y8 y9 y10) (switchboardlaw10_LinkExact.j1 (k + 1) y0 y1 y2 y3 y4 y5 y6 y7 y8 y9 y10)) ∧ (∀ y0 y1 y2 y3 y4 y5 y6 y7 y8 y9 y10 y11, LeO (switchboardlaw10_LinkExact.j2 k y0 y1 y2 y3 y4 y5 y6 y7 y8 y9 y10 y11) (switchboardlaw10_LinkExact.j2 (k + 1) y0 y1 y2 y3 y4 y5 y6 y7 y8 y9 y10 y11)) ∧ (∀ y0 y1 y2 y3 y4 y5 y6 y7 y8 y9 y10, LeO (switchboardlaw10_LinkExact.j3 k y0 y1 y2 y3 y4 y5 y6 y7 y8 y9 y10) (switchboardlaw10_LinkExact.j3 (k + 1) y0 y1 y2 y3 y4 y5 y6 y7 y8 y9 y10))
  | 0 => ⟨fun _ _ _ _ _ _ _ r h => by simp [switchboardlaw10_LinkExact.j0] at h, fun _ _ _ _ _ _ _ _ _ _ _ r h => by simp [switchboardlaw10_LinkExact.j1] at h, fun _ _ _ _ _ _ _ _ _ _ _ _ r h => by simp [switchboardlaw10_LinkExact.j2] at h, fun _ _ _ _ _ _ _ _ _ _ _ r h => by simp [switchboardlaw10_LinkExact.j3] at h⟩
  | k + 1 => by
    obtain ⟨ih0, ih1, ih2, ih3⟩ := switchboardlaw10_LinkExact.mono_l k
    refine ⟨?_, ?_, ?_, ?_⟩
    · intro y0 y1 y2 y3 y4 y5 y6
      unfold switchboardlaw10_LinkExact.j0
      repeat' first
      | (with_reducible exact ih0 _ _ _ _ _ _ _)
      | (with_reducible exact ih1 _ _ _ _ _ _ _ _ _ _ _)
      | (with_reducible exact ih2 _ _ _ _ _ _ _ _ _ _ _ _)
      | (with_reducible exact ih3 _ _ _ _ _ _ _ _ _ _ _)
      | (with_reducible exact link_Push.mono _ _ _ _)
      | (with_reducible exact link_Right.mono _ _ _)
      | (with_reducible exact switchboardlaw10_awake.mono _)
      | (with_reducible exact switchboardlaw10_ref.mono _ _ _)
      | (with_reducible exact switchboardref10_Right.mono _ _ _)
      | (with_reducible exact switchboardref10_Same.mono _ _ _ _ _)
      | (with_reducible exact switchboardref10_Told.mono _ _ _ _)
      | (with_reducible exact LeO.refl _)
      | (with_reducible exact LeO.none _)
      | (with_reducible refine LeO.ite ?_ ?_)
      | (with_reducible refine LeO.bind ?_ (fun _ => ?_))
      | exact ih0 _ _ _ _ _ _ _
      | exact ih1 _ _ _ _ _ _ _ _ _ _ _
      | exact ih2 _ _ _ _ _ _ _ _ _ _ _ _
      | exact ih3 _ _ _ _ _ _ _ _ _ _ _
      | exact link_Push.mono _ _ _ _
      | exact link_Right.mono _ _ _
      | exact switchboardlaw10_awake.mono _
      | exact switchboardlaw10_ref.mono _ _ _
      | exact switchboardref10_Right.mono _ _ _
      | exact switchboardref10_Same.mono _ _ _ _ _
      | exact switchboardref10_Told.mono _ _ _ _
      | exact LeO.none _
      | refine LeO.ite ?_ ?_
      | refine LeO.bind ?_ (fun _ => ?_)
    · intro y0 y1 y2 y3 y4 y5 y6 y7 y8 y9 y10
      unfold switchboardlaw10_LinkExact.j1
      repeat' first
      | (with_reducible exact ih0 _ _ _ _ _ _ _)
      | (with_reducible exact ih1 _ _ _ _ _ _ _ _ _ _ _)
      | (with_reducible exact ih2 _ _ _ _ _ _ _ _ _ _ _ _)
      | (with_reducible exact ih3 _ _ _ _ _ _ _ _ _ _ _)
      | (with_reducible exact link_Push.mono _ _ _ _)
      | (with_reducible exact link_Right.mono _ _ _)
      | (with_reducible exact switchboardlaw10_awake.mono _)
      | (with_reducible exact switchboardlaw10_ref.mono _ _ _)
      | (with_reducible exact switchboardref10_Right.mono _ _ _)
      | (with_reducible exact switchboardref10_Same.mono _ _ _ _ _)
      | (with_reducible exact switchboardref10_Told.mono _ _ _ _)
      | (with_reducible exact LeO.refl _)
      | (with_reducible exact LeO.none _)
      | (with_reducible refine LeO.ite ?_ ?_)
      | (with_reducible refine LeO.bind ?_ (fun _ => ?_))
      | exact ih0 _ _ _ _ _ _ _
      | exact ih1 _ _ _ _ _ _ _ _ _ _ _
      | exact ih2 _ _ _ _ _ _ _ _ _ _ _ _
      | exact ih3 _ _ _ _ _ _ _ _ _ _ _
      | exact link_Push.mono _ _ _ _
      | exact link_Right.mono _ _ _
      | exact switchboardlaw10_awake.mono _
      | exact switchboardlaw10_ref.mono _ _ _
      | exact switchboardref10_Right.mono _ _ _
      | exact switchboardref10_Same.mono _ _ _ _ _
      | exact switchboardref10_Told.mono _ _ _ _
      | exact LeO.none _
      | refine LeO.ite ?_ ?_
      | refine LeO.bind ?_ (fun _ => ?_)
    · intro y0 y1 y2 y3 y4 y5 y6 y7 y8 y9 y10 y11
      unfold switchboardlaw10_LinkExact.j2
      repeat' first
      | (with_reducible exact ih0 _ _ _ _ _ _ _)
      | (with_reducible exact ih1 _ _ _ _ _ _ _ _ _ _ _)
      | (with_reducible exact ih2 _ _ _ _ _ _ _ _ _ _ _ _)
      | (with_reducible exact ih3 _ _ _ _ _ _ _ _ _ _ _)
      | (with_reducible exact link_Push.mono _ _ _ _)
      | (with_reducible exact link_Right.mono _ _ _)
      | (with_reducible exact switchboardlaw10_awake.mono _)
      | (with_reducible exact switchboardlaw10_ref.mono _ _ _)
      | (with_reducible exact switchboardref10_Right.mono _ _ _)
      | (with_reducible exact switchboardref10_Same.mono _ _ _ _ _)
      | (with_reducible exact switchboardref10_Told.mono _ _ _ _)
      | (with_reducible exact LeO.refl _)
      | (with_reducible exact LeO.none _)
      | (with_reducible refine LeO.ite ?_ ?_)
      | (with_reducible refine LeO.bind ?_ (fun _ => ?_))
      | exact ih0 _ _ _ _ _ _ _
      | exact ih1 _ _ _ _ _ _ _ _ _ _ _
      | exact ih2 _ _ _ _ _ _ _ _ _ _ _ _
      | exact ih3 _ _ _ _ _ _ _ _ _ _ _
      | exact link_Push.mono _ _ _ _
      | exact link_Right.mono _ _ _
      | exact switchboardlaw10_awake.mono _
      | exact switchboardlaw10_ref.mono _ _ _
      | exact switchboardref10_Right.mono _ _ _
      | exact switchboardref10_Same.mono _ _ _ _ _
      | exact switchboardref10_Told.mono _ _ _ _
      | exact LeO.none _
      | refine LeO.ite ?_ ?_
      | refine LeO.bind ?_ (fun _ => ?_)
    · intro y0 y1 y2 y3 y4 y5 y6 y7 y8 y9 y10
      unfold switchboardlaw10_LinkExact.j3
      repeat' first
      | (with_reducible exact ih0 _ _ _ _ _ _ _)
      | (with_reducible exact ih1 _ _ _ _ _ _ _ _ _ _ _)
      | (with_reducible exact ih2 _ _ _ _ _ _ _ _ _ _ _ _)
      | (with_reducible exact ih3 _ _ _ _ _ _ _ _ _ _ _)
      | (with_reducible exact link_Push.mono _ _ _ _)
      | (with_reducible exact link_Right.mono _ _ _)
      | (with_reducible exact switchboardlaw10_awake.mono _)
      | (with_reducible exact switchboardlaw10_ref.mono _ _ _)
      | (with_reducible exact switchboardref10_Right.mono _ _ _)
      | (with_reducible exact switchboardref10_Same.mono _ _ _ _ _)
      | (with_reducible exact switchboardref10_Told.mono _ _ _ _)
      | (with_reducible exact LeO.refl _)
      | (with_reducible exact LeO.none _)
      | (with_reducible refine LeO.ite ?_ ?_)
      | (with_reducible refine LeO.bind ?_ (fun _ => ?_))
      | exact ih0 _ _ _ _ _ _ _
      | exact ih1 _ _ _ _ _ _ _ _ _ _ _
      | exact ih2 _ _ _ _ _ _ _ _ _ _ _ _
      | exact ih3 _ _ _ _ _ _ _ _ _ _ _
      | exact link_Push.mono _ _ _ _
      | exact link_Right.mono _ _ _
      | exact switchboardlaw10_awake.mono _
      | exact switchboardlaw10_ref.mono _ _ _
      | exact switchboardref10_Right.mono _ _ _
      | exact switchboardref10_Same.mono _ _ _ _ _
      | exact switchboardref10_Told.mono _ _ _ _
      | exact LeO.none _
      | refine LeO.ite ?_ ?_
      | refine LeO.bind ?_ (fun _ => ?_)
theorem switchboardlaw10_LinkExact.mono : ∀ a0 a1 a2 a3 k, LeO (switchboardlaw10_LinkExact.f k a0 a1 a2 a3) (switchboardlaw10_LinkExact.f (k + 1) a0 a1 a2 a3) := by
  intro a0 a1 a2 a3 k
  obtain ⟨ih0, ih1, ih2, ih3⟩ := switchboardlaw10_LinkExact.mono_l k
  unfold switchboardlaw10_LinkExact.f
  repeat' first
      | (with_reducible exact ih0 _ _ _ _ _ _ _)
      | (with_reducible exact ih1 _ _ _ _ _ _ _ _ _ _ _)
      | (with_reducible exact ih2 _ _ _ _ _ _ _ _ _ _ _ _)
      | (with_reducible exact ih3 _ _ _ _ _ _ _ _ _ _ _)
      | (with_reducible exact link_Push.mono _ _ _ _)
      | (with_reducible exact link_Right.mono _ _ _)
      | (with_reducible exact switchboardlaw10_awake.mono _)
      | (with_reducible exact switchboardlaw10_ref.mono _ _ _)
      | (with_reducible exact switchboardref10_Right.mono _ _ _)
      | (with_reducible exact switchboardref10_Same.mono _ _ _ _ _)
      | (with_reducible exact switchboardref10_Told.mono _ _ _ _)
      | (with_reducible exact LeO.refl _)
      | (with_reducible exact LeO.none _)
      | (with_reducible refine LeO.ite ?_ ?_)
      | (with_reducible refine LeO.bind ?_ (fun _ => ?_))
      | exact ih0 _ _ _ _ _ _ _
      | exact ih1 _ _ _ _ _ _ _ _ _ _ _
      | exact ih2 _ _ _ _ _ _ _ _ _ _ _ _
      | exact ih3 _ _ _ _ _ _ _ _ _ _ _
      | exact link_Push.mono _ _ _ _
      | exact link_Right.mono _ _ _
      | exact switchboardlaw10_awake.mono _
      | exact switchboardlaw10_ref.mono _ _ _
      | exact switchboardref10_Right.mono _ _ _
      | exact switchboardref10_Same.mono _ _ _ _ _
      | exact switchboardref10_Told.mono _ _ _ _
      | exact LeO.none _
      | refine LeO.ite ?_ ?_
      | refine LeO.bind ?_ (fun _ => ?_)
def switchboardlaw10_LinkExact.T7 : Bool × List (List Nat × List Nat) := (true, [([], []), ([0], [0]), ([1], [1]), ([2], [2]), ([2], [2]), ([2], [2]), ([4, 5, 2, 2], [2, 4, 5]), ([3, 6, 6, 2], [2, 3, 6]), ([7, 2], [2, 7]), ([2, 8], [2, 8]), ([9, 7], [9]), ([10], [10]), ([11, 10, 10], [10, 11]), ([10], [10]), ([13, 12, 10], [10, 13]), ([12, 14, 10], [10, 12, 14]), ([10, 15], [10, 15])])
def switchboardlaw10_LinkExact.B7 : List Nat := [0, 1, 3, 7, 7, 7, 55, 127, 255, 511, 1023, 2047, 4095, 2047, 16383, 32767, 65535]
theorem switchboardlaw10_LinkExact.tab7 : rtab .any (opsOf Try.f3 7) = switchboardlaw10_LinkExact.T7 := by kernel_rfl
theorem switchboardlaw10_LinkExact.bits7 : waitsOk switchboardlaw10_LinkExact.T7.2 switchboardlaw10_LinkExact.B7 = true := by kernel_rfl
set_option maxHeartbeats 8000000 in
set_option maxRecDepth 100000 in
theorem switchboardlaw10_LinkExact.calls (k : Nat) (a0_0 : Int) (A0_1 : Option Addr) (c0_1 : Nat) (l0_1 : List (S45)) (a1 : ByteArray) (a2 : Int) (w : World) (hr0_1 : Kd.C k45 w A0_1 l0_1.length l0_1) (hc0_1 : l0_1.length ≤ c0_1) (h : switchboardlaw10_LinkExact.f k a0_0 l0_1 a1 a2 = some true) :
    Calls Try.prog 3 #[.agg #[.int .i64 a0_0, .slice A0_1 l0_1.length c0_1], .string a1, .int .i64 a2] w fun e w' => e = .returned (.bool true) ∧ Below w.heap.size w w' := by
  have hu24 := Try.underlying24
  have hu27 := Try.underlying27
  have hu40 := Try.underlying40
  have HR0_1 := Aside0.mk hr0_1
  have HC0_1 := Aside0.mk hc0_1
  clear hr0_1 hc0_1
  have HB := Aside0.mk (Below.refl w.heap.size w)
  have H : ((switchboardlaw10_ref.f k a0_0 l0_1).bind fun bt164 => (if bt164.2.2 = true then (switchboardlaw10_LinkExact.j0 k a1 a2 (decide ((a1.size : Int) > 100)) a0_0 l0_1 bt164.1 bt164.2.1) else (switchboardlaw10_LinkExact.j0 k a1 a2 true a0_0 l0_1 bt164.1 bt164.2.1))) = some true := h
  clear h
  replace H := Option.bind_eq_some_iff.mp H
  obtain ⟨⟨t164, t165, t168⟩, A40, H⟩ := H
  replace H : (if t168 = true then (switchboardlaw10_LinkExact.j0 k a1 a2 (decide ((a1.size : Int) > 100)) a0_0 l0_1 t164 t165) else (switchboardlaw10_LinkExact.j0 k a1 a2 true a0_0 l0_1 t164 t165)) = some true := H
  have A4 := Aside0.mk A40
  clear A40
  have HC5 := Aside0.mk H
  clear H
  go_enter Try.func3, Try.ntmps3
  go_upto_region 2 with (first | ((with_reducible refine gate_dst (N := 3) rfl ?_); (try (refine gate_guard (by rfl) ?_; dsimp only)); refine box_event ?hg (N := 3) ?hd (cs := #[.int .i64 a0_0, .slice A0_1 l0_1.length c0_1]) (t := 24) ?hr ?_; (case hd => rfl); (case hg => rfl); (case hr => first | (go_simp; done) | (go_simp; rfl)); intro gb163 hg w6 hbox hb; have n0_ := Aside0.mk (below_step (by repeat (first | (with_reducible first | exact HB.out | apply below_alloc | apply pw_below_drewN | apply below_drew1) | exact HB.out)) hb); have n1_ := Aside0.mk (hbox); have n2_ := Aside0.mk ((by rw [hg]; exact (below_size (by repeat (first | (with_reducible first | exact HB.out | apply below_alloc | apply pw_below_drewN | apply below_drew1) | exact HB.out))) : w.heap.size ≤ gb163)); have n3_ := Aside0.mk ((by rw [hg]; exact (below_size (by repeat (first | (with_reducible first | exact HB.out | apply below_alloc | apply pw_below_drewN | apply below_drew1) | exact HB.out))) : w.heap.size ≤ gb163)); clear HB; have HB := n0_; have BK163 := n1_; have GW163 := n2_; have GE163 := n3_; clear n0_ n1_ n2_ n3_; clear hb hbox hg; have hcz7_0 : w6.cell? ⟨gb163, 0, none⟩ = some (.int .i64 a0_0) := (blk_cell BK163.out 0).trans rfl; have hcz7_1 : w6.cell? ⟨gb163, 1, none⟩ = some (.slice A0_1 l0_1.length c0_1) := (blk_cell BK163.out 1).trans rfl; have hfz7_0 := blk_frozen BK163.out 0; have hfz7_1 := blk_frozen BK163.out 1) | ((with_reducible refine gate_callee (f := 8) rfl ?_); refine goesL_ (some 19) rfl rfl Try.func8 (by kernel_rfl) rfl #[.agg #[.int .i64 a0_0, .slice A0_1 l0_1.length c0_1]] rfl (by (try simp only [List.map_toArray, List.map_cons, List.map_nil]); first | done | rfl | (simp only [List.length_drop, List.length_take]; rfl)) ?_; (with_reducible refine (switchboardlaw10_ref.calls k a0_0 _ _ l0_1 t164 t165 t168 _ ?side1 ?side2 A4.out).mono ?_); (case side1 => repeat (first | exact (Kd.C_below HR0_1.out HB.out) | (with_reducible refine Kd.C_alloc ?_ _) | (with_reducible refine Kd.C_drewN ?_ _) | (with_reducible refine Kd.C_drew ?_))); (case side2 => exact HC0_1.out); rintro e w8 ⟨v166, rfl, ho0, hb⟩; refine ⟨_, rfl, ?_⟩; have n0_ := Aside0.mk (Kd.R_lower ho0 (below_size (by repeat (first | (with_reducible first | exact HB.out | apply below_alloc | apply pw_below_drewN | apply below_drew1 | refine below_set ?_ GE163.out) | exact HB.out)))); have n1_ := Aside0.mk (blk_below (g := gb163) (o := .cells #[.int .i64 a0_0, .slice A0_1 l0_1.length c0_1] 24 (0, 0)) (by (with_reducible repeat (first | refine blk_drewN ?_ _ | refine blk_drew ?_ | refine blk_alloc ?_ _)); exact BK163.out) hb); have n2_ := Aside0.mk (below_step (by repeat (first | (with_reducible first | exact HB.out | apply below_alloc | apply pw_below_drewN | apply below_drew1 | refine below_set ?_ GE163.out) | exact HB.out)) hb); clear BK163; clear HB; have HO167 := n0_; have BK163 := n1_; have HB := n2_; clear n0_ n1_ n2_; (try clear hb); (try clear hb2); (try clear hk); (try clear hi); (try clear ho0)) | ((with_reducible refine gate_dst (N := 7) rfl ?_); (try (refine gate_guard (by rfl) ?_; dsimp only)); refine box_event ?hg (N := 7) ?hd (cs := #[.int .i64 0, .slice none 0 0]) (t := 27) ?hr ?_; (case hd => rfl); (case hg => rfl); (case hr => first | (go_simp; done) | (go_simp; rfl)); intro gb169 hg w9 hbox hb; have n0_ := Aside0.mk (Kd.R_below (by (with_reducible repeat (first | apply Kd.R_alloc | apply Kd.R_drewN | apply Kd.R_drew)); exact HO167.out) hb); have n1_ := Aside0.mk (blk_below (g := gb163) (o := .cells #[.int .i64 a0_0, .slice A0_1 l0_1.length c0_1] 24 (0, 0)) (by (with_reducible repeat (first | refine blk_drewN ?_ _ | refine blk_drew ?_ | refine blk_alloc ?_ _)); exact BK163.out) hb); have n2_ := Aside0.mk (below_step (by repeat (first | (with_reducible first | exact HB.out | apply below_alloc | apply pw_below_drewN | apply below_drew1 | refine below_set ?_ GE163.out) | exact HB.out)) hb); have n3_ := Aside0.mk (hbox); have n4_ := Aside0.mk ((by rw [hg]; exact (below_size (by repeat (first | (with_reducible first | exact HB.out | apply below_alloc | apply pw_below_drewN | apply below_drew1 | refine below_set ?_ GE163.out) | exact HB.out))) : w.heap.size ≤ gb169)); have n5_ := Aside0.mk ((by rw [hg]; exact (below_size (by repeat (first | (with_reducible first | exact HB.out | apply below_alloc | apply pw_below_drewN | apply below_drew1 | refine below_set ?_ GE163.out) | exact HB.out))) : w.heap.size ≤ gb169)); have n6_ := Aside0.mk ((by rw [hg]; exact Nat.ne_of_lt (blk_lt (g := gb163) (o := .cells #[.int .i64 a0_0, .slice A0_1 l0_1.length c0_1] 24 (0, 0)) (by (with_reducible repeat (first | refine blk_drewN ?_ _ | refine blk_drew ?_ | refine blk_alloc ?_ _)); exact BK163.out)) : gb163 ≠ gb169)); have n7_ := Aside0.mk ((by rw [hg]; exact Nat.ne_of_gt (blk_lt (g := gb163) (o := .cells #[.int .i64 a0_0, .slice A0_1 l0_1.length c0_1] 24 (0, 0)) (by (with_reducible repeat (first | refine blk_drewN ?_ _ | refine blk_drew ?_ | refine blk_alloc ?_ _)); exact BK163.out)) : gb169 ≠ gb163)); clear HO167; clear BK163; clear HB; have HO167 := n0_; have BK163 := n1_; have HB := n2_; have BK169 := n3_; have GW169 := n4_; have GE169 := n5_; have NB163_169 := n6_; have NB169_163 := n7_; clear n0_ n1_ n2_ n3_ n4_ n5_ n6_ n7_; clear hb hbox hg; have hnb10 := NB169_163.out; have hnc10 := NB163_169.out; have hcz11_0 : w9.cell? ⟨gb169, 0, none⟩ = some (.int .i64 0) := (blk_cell BK169.out 0).trans rfl; have hcz11_1 : w9.cell? ⟨gb169, 1, none⟩ = some (.slice none 0 0) := (blk_cell BK169.out 1).trans rfl; have hfz11_0 := blk_frozen BK169.out 0; have hfz11_1 := blk_frozen BK169.out 1; obtain ⟨Ao12, co12, eo12⟩ := Kd.R_slice HO167.out; subst eo12))
  (try simp only [Act.put, List.setIfInBounds_toArray, List.set_cons_zero, List.set_cons_succ])
  go_cut [28] (fun v28 wc => ∃ (kq : Nat) (x28_4 : Bool), v28 = .bool x28_4 ∧ Aside0 (switchboardlaw10_LinkExact.j0 kq a1 a2 x28_4 a0_0 l0_1 t164 t165 = some true) ∧ Aside0 (kq ≤ k) ∧ Aside0 (Kd.R k40 40 wc w.heap.size (fun _ => True) (.slice Ao12 t165.length co12) t165) ∧ Aside0 (wc.heap[gb163]? = some (.cells #[.int .i64 a0_0, (.slice A0_1 l0_1.length c0_1)] 24 (0, 0))) ∧ Aside0 (wc.heap[gb169]? = some (.cells #[.int .i64 t164, (.slice Ao12 t165.length co12)] 27 (0, 0))) ∧ Aside0 (Below w.heap.size w wc))
  case first =>
    have H := HC5.out
    clear HC5
    by_cases c13 : t168 = true
    · subst c13
      have H1 : (switchboardlaw10_LinkExact.j0 k a1 a2 (decide ((a1.size : Int) > 100)) a0_0 l0_1 t164 t165) = some true := by rw [if_pos rfl] at H; exact H
      clear H
      have H := H1
      clear H1
      have H' := Aside0.mk H
      clear H
      go_wp2
      go_meet
      case rel => exact ⟨_, (decide ((a1.size : Int) > 100)), (by first | rfl | (simp; done) | (simp [*]; done)), H', ⟨by first | omega | exact Nat.le_refl _⟩, ⟨by (with_reducible repeat (first | apply Kd.R_alloc | apply Kd.R_drewN | apply Kd.R_drew)); exact Kd.R_mono (Kd.R_far (p := ⟨gb169, 1, none⟩) (Kd.R_far (p := ⟨gb169, 0, none⟩) (Kd.R_types HO167.out BK169.out (by decide)) (fun _ hk => hk.2) (.int .i64 t164)) (fun _ hk => hk.2) (.slice Ao12 t165.length co12)) (fun _ hk => trivial)⟩, ⟨by (with_reducible repeat (first | refine blk_drewN ?_ _ | refine blk_drew ?_ | refine blk_alloc ?_ _)); refine blk_far ?_ NB163_169.out _; (with_reducible repeat (first | refine blk_drewN ?_ _ | refine blk_drew ?_ | refine blk_alloc ?_ _)); refine blk_far ?_ NB163_169.out _; (with_reducible repeat (first | refine blk_drewN ?_ _ | refine blk_drew ?_ | refine blk_alloc ?_ _)); exact BK163.out⟩, ⟨by (with_reducible repeat (first | refine blk_drewN ?_ _ | refine blk_drew ?_ | refine blk_alloc ?_ _)); refine blk_put (cs := #[.int .i64 t164, .slice none 0 0]) ?_ 1 _ rfl; (with_reducible repeat (first | refine blk_drewN ?_ _ | refine blk_drew ?_ | refine blk_alloc ?_ _)); refine blk_put (cs := #[.int .i64 0, .slice none 0 0]) ?_ 0 _ rfl; (with_reducible repeat (first | refine blk_drewN ?_ _ | refine blk_drew ?_ | refine blk_alloc ?_ _)); exact BK169.out⟩, ⟨by repeat (first | (with_reducible first | exact HB.out | apply below_alloc | apply pw_below_drewN | apply below_drew1 | refine below_set ?_ GE163.out | refine below_set ?_ GE169.out) | exact HB.out)⟩⟩
    · replace c13 := Bool.eq_false_iff.mpr c13
      subst c13
      have H1 : (switchboardlaw10_LinkExact.j0 k a1 a2 true a0_0 l0_1 t164 t165) = some true := by rw [if_neg (show ¬ (false = true) by decide)] at H; exact H
      clear H
      have H := H1
      clear H1
      have H' := Aside0.mk H
      clear H
      go_wp2
      go_meet
      case rel => exact ⟨_, (true), (by first | rfl | (simp; done) | (simp [*]; done)), H', ⟨by first | omega | exact Nat.le_refl _⟩, ⟨by (with_reducible repeat (first | apply Kd.R_alloc | apply Kd.R_drewN | apply Kd.R_drew)); exact Kd.R_mono (Kd.R_far (p := ⟨gb169, 1, none⟩) (Kd.R_far (p := ⟨gb169, 0, none⟩) (Kd.R_types HO167.out BK169.out (by decide)) (fun _ hk => hk.2) (.int .i64 t164)) (fun _ hk => hk.2) (.slice Ao12 t165.length co12)) (fun _ hk => trivial)⟩, ⟨by (with_reducible repeat (first | refine blk_drewN ?_ _ | refine blk_drew ?_ | refine blk_alloc ?_ _)); refine blk_far ?_ NB163_169.out _; (with_reducible repeat (first | refine blk_drewN ?_ _ | refine blk_drew ?_ | refine blk_alloc ?_ _)); refine blk_far ?_ NB163_169.out _; (with_reducible repeat (first | refine blk_drewN ?_ _ | refine blk_drew ?_ | refine blk_alloc ?_ _)); exact BK163.out⟩, ⟨by (with_reducible repeat (first | refine blk_drewN ?_ _ | refine blk_drew ?_ | refine blk_alloc ?_ _)); refine blk_put (cs := #[.int .i64 t164, .slice none 0 0]) ?_ 1 _ rfl; (with_reducible repeat (first | refine blk_drewN ?_ _ | refine blk_drew ?_ | refine blk_alloc ?_ _)); refine blk_put (cs := #[.int .i64 0, .slice none 0 0]) ?_ 0 _ rfl; (with_reducible repeat (first | refine blk_drewN ?_ _ | refine blk_drew ?_ | refine blk_alloc ?_ _)); exact BK169.out⟩, ⟨by repeat (first | (with_reducible first | exact HB.out | apply below_alloc | apply pw_below_drewN | apply below_drew1 | refine below_set ?_ GE163.out | refine below_set ?_ GE169.out) | exact HB.out)⟩⟩
  case rest =>
    clear HC5
    try clear c1
    try clear p2
    try clear c3
    try clear c8
    try clear c10
    try clear c13
    try clear hcz11_0
    try clear hcz11_1
    try clear hcz7_0
    try clear hcz7_1
    try clear hfz11_0
    try clear hfz11_1
    try clear hfz7_0
    try clear hfz7_1
    obtain ⟨kq, x28_4, rfl, HA, HJ4, HO_170001, BK163, BK169, HB⟩ := hcut
    cases kq with
    | zero => exact absurd HA.out (by simp [switchboardlaw10_LinkExact.j0])
    | succ kj4 =>
      have H := HA.out
      clear HA
      simp only [switchboardlaw10_LinkExact.j0] at H
      by_cases c14 : x28_4 = true
      · subst c14
        have H1 : ((switchboardlaw10_awake.f kj4).bind fun t170 => (some t170)) = some true := by rw [if_pos rfl] at H; exact H
        clear H
        have H := H1
        clear H1
        replace H := Option.bind_eq_some_iff.mp H
        obtain ⟨t170, A150, H⟩ := H
        replace H : (some t170) = some true := H
        have A15 := Aside0.mk A150
        clear A150
        have hr_ := Aside0.mk (Option.some.inj H)
        go_wp2_with (first | ((with_reducible refine gate_callee (f := 9) rfl ?_); refine goesL_ (some 29) rfl rfl Try.func9 (by kernel_rfl) rfl #[] rfl (by (try simp only [List.map_toArray, List.map_cons, List.map_nil]); first | done | rfl | (simp only [List.length_drop, List.length_take]; rfl)) ?_; (with_reducible refine (switchboardlaw10_awake.calls kj4  t170 _ A15.out).mono ?_); rintro e w16 ⟨rfl, hb⟩; refine ⟨_, rfl, ?_⟩; have n0_ := Aside0.mk (Kd.R_below (by (with_reducible repeat (first | apply Kd.R_alloc | apply Kd.R_drewN | apply Kd.R_drew)); exact HO_170001.out) hb); have n1_ := Aside0.mk (blk_below (g := gb163) (o := .cells #[.int .i64 a0_0, .slice A0_1 l0_1.length c0_1] 24 (0, 0)) (by (with_reducible repeat (first | refine blk_drewN ?_ _ | refine blk_drew ?_ | refine blk_alloc ?_ _)); exact BK163.out) hb); have n2_ := Aside0.mk (blk_below (g := gb169) (o := .cells #[.int .i64 t164, .slice Ao12 t165.length co12] 27 (0, 0)) (by (with_reducible repeat (first | refine blk_drewN ?_ _ | refine blk_drew ?_ | refine blk_alloc ?_ _)); exact BK169.out) hb); have n3_ := Aside0.mk (below_step (by repeat (first | (with_reducible first | exact HB.out | apply below_alloc | apply pw_below_drewN | apply below_drew1 | refine below_set ?_ GE163.out | refine below_set ?_ GE169.out) | exact HB.out)) hb); clear HO_170001; clear BK163; clear BK169; clear HB; have HO_170001 := n0_; have BK163 := n1_; have BK169 := n2_; have HB := n3_; clear n0_ n1_ n2_ n3_; (try clear hb); (try clear hb2); (try clear hk); (try clear hi)))
        go_ret
        exact ⟨by first | rfl | exact congrArg (fun b_ => Ending.returned (Value.bool b_)) hr_.out | exact congrArg (fun b_ => Ending.returned (Value.bool b_)) hr_.out | (simp [errW_none, errW_some] <;> rfl) | (simp [*, errW_none, errW_some] <;> rfl), by repeat (first | (with_reducible first | exact HB.out | apply below_alloc | apply pw_below_drewN | apply below_drew1 | refine below_set ?_ GE163.out | refine below_set ?_ GE169.out) | exact HB.out)⟩
      · replace c14 := Bool.eq_false_iff.mpr c14
        subst c14
        have H1 : ((link_Push.f kj4 a0_0 l0_1 a1).bind fun bt171 => ((switchboardlaw10_ref.f kj4 bt171.1 bt171.2.1).bind fun bt178 => ((link_Told.f a0_0 l0_1 a2).bind fun bt184 => ((switchboardlaw10_ref.f kj4 bt184.1 bt184.2).bind fun bt188 => (if bt188.2.2 = true then ((switchboardref10_Told.f kj4 t164 t165 a2).bind fun bt194 => ((switchboardref10_Same.f kj4 bt188.1 bt188.2.1 bt194.1 bt194.2).bind fun t198 => (if t198 = true then ((link_Right.f kj4 a0_0 l0_1).bind fun t199 => ((switchboardref10_Right.f kj4 t164 t165).bind fun t200 => (switchboardlaw10_LinkExact.j1 kj4 a1 bt171.2.2.1 bt171.2.2.2 bt178.2.2 (t199 != t200) a0_0 l0_1 t164 t165 bt178.1 bt178.2.1))) else (switchboardlaw10_LinkExact.j1 kj4 a1 bt171.2.2.1 bt171.2.2.2 bt178.2.2 true a0_0 l0_1 t164 t165 bt178.1 bt178.2.1)))) else (switchboardlaw10_LinkExact.j1 kj4 a1 bt171.2.2.1 bt171.2.2.2 bt178.2.2 true a0_0 l0_1 t164 t165 bt178.1 bt178.2.1)))))) = some true := by rw [if_neg (show ¬ (false = true) by decide)] at H; exact H
        clear H
        have H := H1
        clear H1
        replace H := Option.bind_eq_some_iff.mp H
        obtain ⟨⟨t171, t172, t175, t176⟩, A170, H⟩ := H
        replace H : ((switchboardlaw10_ref.f kj4 t171 t172).bind fun bt178 => ((link_Told.f a0_0 l0_1 a2).bind fun bt184 => ((switchboardlaw10_ref.f kj4 bt184.1 bt184.2).bind fun bt188 => (if bt188.2.2 = true then ((switchboardref10_Told.f kj4 t164 t165 a2).bind fun bt194 => ((switchboardref10_Same.f kj4 bt188.1 bt188.2.1 bt194.1 bt194.2).bind fun t198 => (if t198 = true then ((link_Right.f kj4 a0_0 l0_1).bind fun t199 => ((switchboardref10_Right.f kj4 t164 t165).bind fun t200 => (switchboardlaw10_LinkExact.j1 kj4 a1 t175 t176 bt178.2.2 (t199 != t200) a0_0 l0_1 t164 t165 bt178.1 bt178.2.1))) else (switchboardlaw10_LinkExact.j1 kj4 a1 t175 t176 bt178.2.2 true a0_0 l0_1 t164 t165 bt178.1 bt178.2.1)))) else (switchboardlaw10_LinkExact.j1 kj4 a1 t175 t176 bt178.2.2 true a0_0 l0_1 t164 t165 bt178.1 bt178.2.1))))) = some true := H
        have A17 := Aside0.mk A170
        clear A170
        replace H := Option.bind_eq_some_iff.mp H
        obtain ⟨⟨t178, t179, t182⟩, A180, H⟩ := H
        replace H : ((link_Told.f a0_0 l0_1 a2).bind fun bt184 => ((switchboardlaw10_ref.f kj4 bt184.1 bt184.2).bind fun bt188 => (if bt188.2.2 = true then ((switchboardref10_Told.f kj4 t164 t165 a2).bind fun bt194 => ((switchboardref10_Same.f kj4 bt188.1 bt188.2.1 bt194.1 bt194.2).bind fun t198 => (if t198 = true then ((link_Right.f kj4 a0_0 l0_1).bind fun t199 => ((switchboardref10_Right.f kj4 t164 t165).bind fun t200 => (switchboardlaw10_LinkExact.j1 kj4 a1 t175 t176 t182 (t199 != t200) a0_0 l0_1 t164 t165 t178 t179))) else (switchboardlaw10_LinkExact.j1 kj4 a1 t175 t176 t182 true a0_0 l0_1 t164 t165 t178 t179)))) else (switchboardlaw10_LinkExact.j1 kj4 a1 t175 t176 t182 true a0_0 l0_1 t164 t165 t178 t179)))) = some true := H
        have A18 := Aside0.mk A180
        clear A180
        replace H := Option.bind_eq_some_iff.mp H
        obtain ⟨⟨t184, t185⟩, A190, H⟩ := H
        replace H : ((switchboardlaw10_ref.f kj4 t184 t185).bind fun bt188 => (if bt188.2.2 = true then ((switchboardref10_Told.f kj4 t164 t165 a2).bind fun bt194 => ((switchboardref10_Same.f kj4 bt188.1 bt188.2.1 bt194.1 bt194.2).bind fun t198 => (if t198 = true then ((link_Right.f kj4 a0_0 l0_1).bind fun t199 => ((switchboardref10_Right.f kj4 t164 t165).bind fun t200 => (switchboardlaw10_LinkExact.j1 kj4 a1 t175 t176 t182 (t199 != t200) a0_0 l0_1 t164 t165 t178 t179))) else (switchboardlaw10_LinkExact.j1 kj4 a1 t175 t176 t182 true a0_0 l0_1 t164 t165 t178 t179)))) else (switchboardlaw10_LinkExact.j1 kj4 a1 t175 t176 t182 true a0_0 l0_1 t164 t165 t178 t179))) = some true := H
        have A19 := Aside0.mk A190
        clear A190
        replace H := Option.bind_eq_some_iff.mp H
        obtain ⟨⟨t188, t189, t192⟩, A200, H⟩ := H
        replace H : (if t192 = true then ((switchboardref10_Told.f kj4 t164 t165 a2).bind fun bt194 => ((switchboardref10_Same.f kj4 t188 t189 bt194.1 bt194.2).bind fun t198 => (if t198 = true then ((link_Right.f kj4 a0_0 l0_1).bind fun t199 => ((switchboardref10_Right.f kj4 t164 t165).bind fun t200 => (switchboardlaw10_LinkExact.j1 kj4 a1 t175 t176 t182 (t199 != t200) a0_0 l0_1 t164 t165 t178 t179))) else (switchboardlaw10_LinkExact.j1 kj4 a1 t175 t176 t182 true a0_0 l0_1 t164 t165 t178 t179)))) else (switchboardlaw10_LinkExact.j1 kj4 a1 t175 t176 t182 true a0_0 l0_1 t164 t165 t178 t179)) = some true := H
        have A20 := Aside0.mk A200
        clear A200
        have HC21 := Aside0.mk H
        clear H
        have hnb22 := NB163_169.out
        have hnc22 := NB169_163.out
        have hcz23_0 : wc.cell? ⟨gb163, 0, none⟩ = some (.int .i64 a0_0) := (blk_cell BK163.out 0).trans rfl
        have hcz23_1 : wc.cell? ⟨gb163, 1, none⟩ = some (.slice A0_1 l0_1.length c0_1) := (blk_cell BK163.out 1).trans rfl
        have hfz23_0 := blk_frozen BK163.out 0
        have hfz23_1 := blk_frozen BK163.out 1
        go_upto_region 7 with (first | ((with_reducible refine gate_callee (f := 10) rfl ?_); refine goesL_ (some 33) rfl rfl Try.func10 (by kernel_rfl) rfl #[.agg #[.int .i64 a0_0, .slice A0_1 l0_1.length c0_1], .string a1] rfl (by (try simp only [List.map_toArray, List.map_cons, List.map_nil]); first | done | rfl | (simp only [List.length_drop, List.length_take]; rfl)) ?_; (with_reducible refine (link_Push.calls kj4 a0_0 (fun k_ => k_ < w.heap.size) _ _ l0_1 a1 t171 t172 t175 t176 _ ?side1 A17.out).mono ?_); (case side1 => exact Kd.V_mk HC0_1.out (Kd.F_below (Kd.C_F k45_heap HR0_1.out) (by repeat (first | (with_reducible first | exact HB.out | apply below_alloc | apply pw_below_drewN | apply below_drew1 | refine below_set ?_ GE163.out | refine below_set ?_ GE169.out) | exact HB.out)))); rintro e w24 ⟨v173, rfl, ho0, hb⟩; refine ⟨_, rfl, ?_⟩; have n0_ := Aside0.mk (Kd.R_below (by (with_reducible repeat (first | apply Kd.R_alloc | apply Kd.R_drewN | apply Kd.R_drew)); exact HO_170001.out) hb); have n1_ := Aside0.mk (Kd.V_lower (Kd.V_mono (ok' := fun k_ => some k_ ≠ (.slice Ao12 t165.length co12 : Value).ownBlock ∧ k_ ≠ gb163 ∧ k_ ≠ gb169) ho0 (fun k_ hk_ => ⟨Or.elim hk_ (fun hs_ => fun e_ => Nat.not_le.2 hs_ (Kd.R_base HO_170001.out k_ e_.symm)) (fun hn_ => (Kd.fresh' (Kd.R_lt (by (with_reducible repeat (first | apply Kd.R_alloc | apply Kd.R_drewN | apply Kd.R_drew)); exact HO_170001.out)) k_ hn_)), Or.elim hk_ (fun hs_ => fun e_ => Nat.not_le.2 hs_ (by rw [e_]; exact GW163.out)) (fun hn_ => (Kd.freshB (g := gb163) (o := .cells #[.int .i64 a0_0, .slice A0_1 l0_1.length c0_1] 24 (0, 0)) (by (with_reducible repeat (first | refine blk_drewN ?_ _ | refine blk_drew ?_ | refine blk_alloc ?_ _)); exact BK163.out) k_ hn_)), Or.elim hk_ (fun hs_ => fun e_ => Nat.not_le.2 hs_ (by rw [e_]; exact GW169.out)) (fun hn_ => (Kd.freshB (g := gb169) (o := .cells #[.int .i64 t164, .slice Ao12 t165.length co12] 27 (0, 0)) (by (with_reducible repeat (first | refine blk_drewN ?_ _ | refine blk_drew ?_ | refine blk_alloc ?_ _)); exact BK169.out) k_ hn_))⟩)) (below_size (by repeat (first | (with_reducible first | exact HB.out | apply below_alloc | apply pw_below_drewN | apply below_drew1 | refine below_set ?_ GE163.out | refine below_set ?_ GE169.out) | exact HB.out)))); have n2_ := Aside0.mk (blk_below (g := gb163) (o := .cells #[.int .i64 a0_0, .slice A0_1 l0_1.length c0_1] 24 (0, 0)) (by (with_reducible repeat (first | refine blk_drewN ?_ _ | refine blk_drew ?_ | refine blk_alloc ?_ _)); exact BK163.out) hb); have n3_ := Aside0.mk (blk_below (g := gb169) (o := .cells #[.int .i64 t164, .slice Ao12 t165.length co12] 27 (0, 0)) (by (with_reducible repeat (first | refine blk_drewN ?_ _ | refine blk_drew ?_ | refine blk_alloc ?_ _)); exact BK169.out) hb); have n4_ := Aside0.mk (below_step (by repeat (first | (with_reducible first | exact HB.out | apply below_alloc | apply pw_below_drewN | apply below_drew1 | refine below_set ?_ GE163.out | refine below_set ?_ GE169.out) | exact HB.out)) hb); clear HO_170001; clear BK163; clear BK169; clear HB; have HO_170001 := n0_; have HO174 := n1_; have BK163 := n2_; have BK169 := n3_; have HB := n4_; clear n0_ n1_ n2_ n3_ n4_; (try clear hb); (try clear hb2); (try clear hk); (try clear hi); (try clear ho0)) | ((with_reducible refine gate_dst (N := 9) rfl ?_); (try (refine gate_guard (by rfl) ?_; dsimp only)); refine box_event ?hg (N := 9) ?hd (cs := #[.int .i64 0, .slice none 0 0]) (t := 24) ?hr ?_; (case hd => rfl); (case hg => rfl); (case hr => first | (go_simp; done) | (go_simp; rfl)); intro gb177 hg w25 hbox hb; have n0_ := Aside0.mk (Kd.R_below (by (with_reducible repeat (first | apply Kd.R_alloc | apply Kd.R_drewN | apply Kd.R_drew)); exact HO_170001.out) hb); have n1_ := Aside0.mk (Kd.V_below (Kd.V_elderB (by (with_reducible repeat (first | apply Kd.V_alloc | apply Kd.V_drewN | apply Kd.V_drew)); exact HO174.out) gb177 (Nat.le_of_eq hg.symm)) hb); have n2_ := Aside0.mk (blk_below (g := gb163) (o := .cells #[.int .i64 a0_0, .slice A0_1 l0_1.length c0_1] 24 (0, 0)) (by (with_reducible repeat (first | refine blk_drewN ?_ _ | refine blk_drew ?_ | refine blk_alloc ?_ _)); exact BK163.out) hb); have n3_ := Aside0.mk (blk_below (g := gb169) (o := .cells #[.int .i64 t164, .slice Ao12 t165.length co12] 27 (0, 0)) (by (with_reducible repeat (first | refine blk_drewN ?_ _ | refine blk_drew ?_ | refine blk_alloc ?_ _)); exact BK169.out) hb); have n4_ := Aside0.mk (below_step (by repeat (first | (with_reducible first | exact HB.out | apply below_alloc | apply pw_below_drewN | apply below_drew1 | refine below_set ?_ GE163.out | refine below_set ?_ GE169.out) | exact HB.out)) hb); have n5_ := Aside0.mk (hbox); have n6_ := Aside0.mk ((by rw [hg]; exact (below_size (by repeat (first | (with_reducible first | exact HB.out | apply below_alloc | apply pw_below_drewN | apply below_drew1 | refine below_set ?_ GE163.out | refine below_set ?_ GE169.out) | exact HB.out))) : w.heap.size ≤ gb177)); have n7_ := Aside0.mk ((by rw [hg]; exact (below_size (by repeat (first | (with_reducible first | exact HB.out | apply below_alloc | apply pw_below_drewN | apply below_drew1 | refine below_set ?_ GE163.out | refine below_set ?_ GE169.out) | exact HB.out))) : w.heap.size ≤ gb177)); have n8_ := Aside0.mk ((by rw [hg]; exact Nat.ne_of_lt (blk_lt (g := gb163) (o := .cells #[.int .i64 a0_0, .slice A0_1 l0_1.length c0_1] 24 (0, 0)) (by (with_reducible repeat (first | refine blk_drewN ?_ _ | refine blk_drew ?_ | refine blk_alloc ?_ _)); exact BK163.out)) : gb163 ≠ gb177)); have n9_ := Aside0.mk ((by rw [hg]; exact Nat.ne_of_gt (blk_lt (g := gb163) (o := .cells #[.int .i64 a0_0, .slice A0_1 l0_1.length c0_1] 24 (0, 0)) (by (with_reducible repeat (first | refine blk_drewN ?_ _ | refine blk_drew ?_ | refine blk_alloc ?_ _)); exact BK163.out)) : gb177 ≠ gb163)); have n10_ := Aside0.mk ((by rw [hg]; exact Nat.ne_of_lt (blk_lt (g := gb169) (o := .cells #[.int .i64 t164, .slice Ao12 t165.length co12] 27 (0, 0)) (by (with_reducible repeat (first | refine blk_drewN ?_ _ | refine blk_drew ?_ | refine blk_alloc ?_ _)); exact BK169.out)) : gb169 ≠ gb177)); have n11_ := Aside0.mk ((by rw [hg]; exact Nat.ne_of_gt (blk_lt (g := gb169) (o := .cells #[.int .i64 t164, .slice Ao12 t165.length co12] 27 (0, 0)) (by (with_reducible repeat (first | refine blk_drewN ?_ _ | refine blk_drew ?_ | refine blk_alloc ?_ _)); exact BK169.out)) : gb177 ≠ gb169)); clear HO_170001; clear HO174; clear BK163; clear BK169; clear HB; have HO_170001 := n0_; have HO174 := n1_; have BK163 := n2_; have BK169 := n3_; have HB := n4_; have BK177 := n5_; have GW177 := n6_; have GE177 := n7_; have NB163_177 := n8_; have NB177_163 := n9_; have NB169_177 := n10_; have NB177_169 := n11_; clear n0_ n1_ n2_ n3_ n4_ n5_ n6_ n7_ n8_ n9_ n10_ n11_; clear hb hbox hg; have hnb26 := NB177_163.out; have hnc26 := NB163_177.out; have hnb27 := NB177_169.out; have hnc27 := NB169_177.out; have hcz28_0 : w25.cell? ⟨gb177, 0, none⟩ = some (.int .i64 0) := (blk_cell BK177.out 0).trans rfl; have hcz28_1 : w25.cell? ⟨gb177, 1, none⟩ = some (.slice none 0 0) := (blk_cell BK177.out 1).trans rfl; have hfz28_0 := blk_frozen BK177.out 0; have hfz28_1 := blk_frozen BK177.out 1; obtain ⟨Ao29, co29, eo29⟩ := Kd.V_slice HO174.out; subst eo29) | ((with_reducible refine gate_callee (f := 8) rfl ?_); refine goesL_ (some 39) rfl rfl Try.func8 (by kernel_rfl) rfl #[.agg #[.int .i64 t171, .slice Ao29 t172.length co29]] rfl (by (try simp only [List.map_toArray, List.map_cons, List.map_nil]); first | done | rfl | (simp only [List.length_drop, List.length_take]; rfl)) ?_; (with_reducible refine (switchboardlaw10_ref.calls kj4 t171 _ _ t172 t178 t179 t182 _ ?side1 ?side2 A18.out).mono ?_); (case side1 => refine (Kd.V_reads' (e := 45) (base := w.heap.size) (ok := fun k_ => ((some k_ ≠ (.slice Ao12 t165.length co12 : Value).ownBlock ∧ (k_ ≠ gb163 ∧ k_ ≠ gb169)) ∧ k_ ≠ gb177)) (n := t172.length) (c := co29) ?_).2.2; exact (by (with_reducible repeat (first | apply Kd.V_alloc | apply Kd.V_drewN | apply Kd.V_drew)); exact (Kd.V_mono (Kd.V_far (p := ⟨gb177, 1, none⟩) (Kd.V_far (p := ⟨gb177, 0, none⟩) (Kd.V_mono HO174.out (fun k_ hk => (⟨hk, hk.2⟩ : _ ∧ k_ ≠ gb177))) (fun _ hk => hk.2) (.int .i64 t171)) (fun _ hk => hk.2) (.slice Ao29 t172.length co29)) (fun _ h_ => h_.1)))); (case side2 => exact (Kd.V_reads' HO174.out).2.1); rintro e w30 ⟨v180, rfl, ho0, hb⟩; refine ⟨_, rfl, ?_⟩; have n0_ := Aside0.mk (Kd.R_elder' (by (with_reducible repeat (first | apply Kd.R_alloc | apply Kd.R_drewN | apply Kd.R_drew)); exact (Kd.R_mono (Kd.R_far (p := ⟨gb177, 1, none⟩) (Kd.R_far (p := ⟨gb177, 0, none⟩) (Kd.R_types HO_170001.out BK177.out (by decide)) (fun _ hk => hk.2) (.int .i64 t171)) (fun _ hk => hk.2) (.slice Ao29 t172.length co29)) (fun _ h_ => h_.1))) (Kd.R_base ho0) hb); have n1_ := Aside0.mk (Kd.V_elder' (by (with_reducible repeat (first | apply Kd.V_alloc | apply Kd.V_drewN | apply Kd.V_drew)); exact (Kd.V_mono (Kd.V_far (p := ⟨gb177, 1, none⟩) (Kd.V_far (p := ⟨gb177, 0, none⟩) (Kd.V_mono HO174.out (fun k_ hk => (⟨hk, hk.2⟩ : _ ∧ k_ ≠ gb177))) (fun _ hk => hk.2) (.int .i64 t171)) (fun _ hk => hk.2) (.slice Ao29 t172.length co29)) (fun _ h_ => h_.1))) (Kd.R_base ho0) hb); have n2_ := Aside0.mk (Kd.R_lower (Kd.R_new' ho0 (Kd.R_lt (by (with_reducible repeat (first | apply Kd.R_alloc | apply Kd.R_drewN | apply Kd.R_drew)); exact (Kd.R_mono (Kd.R_far (p := ⟨gb177, 1, none⟩) (Kd.R_far (p := ⟨gb177, 0, none⟩) (Kd.R_types HO_170001.out BK177.out (by decide)) (fun _ hk => hk.2) (.int .i64 t171)) (fun _ hk => hk.2) (.slice Ao29 t172.length co29)) (fun _ h_ => h_.1))))) (below_size (by repeat (first | (with_reducible first | exact HB.out | apply below_alloc | apply pw_below_drewN | apply below_drew1 | refine below_set ?_ GE163.out | refine below_set ?_ GE169.out | refine below_set ?_ GE177.out) | exact HB.out)))); have n3_ := Aside0.mk (blk_below (g := gb163) (o := .cells #[.int .i64 a0_0, .slice A0_1 l0_1.length c0_1] 24 (0, 0)) (by (with_reducible repeat (first | refine blk_drewN ?_ _ | refine blk_drew ?_ | refine blk_alloc ?_ _)); refine blk_far ?_ NB163_177.out _; (with_reducible repeat (first | refine blk_drewN ?_ _ | refine blk_drew ?_ | refine blk_alloc ?_ _)); refine blk_far ?_ NB163_177.out _; (with_reducible repeat (first | refine blk_drewN ?_ _ | refine blk_drew ?_ | refine blk_alloc ?_ _)); exact BK163.out) hb); have n4_ := Aside0.mk (blk_below (g := gb169) (o := .cells #[.int .i64 t164, .slice Ao12 t165.length co12] 27 (0, 0)) (by (with_reducible repeat (first | refine blk_drewN ?_ _ | refine blk_drew ?_ | refine blk_alloc ?_ _)); refine blk_far ?_ NB169_177.out _; (with_reducible repeat (first | refine blk_drewN ?_ _ | refine blk_drew ?_ | refine blk_alloc ?_ _)); refine blk_far ?_ NB169_177.out _; (with_reducible repeat (first | refine blk_drewN ?_ _ | refine blk_drew ?_ | refine blk_alloc ?_ _)); exact BK169.out) hb); have n5_ := Aside0.mk (blk_below (g := gb177) (o := .cells #[.int .i64 t171, .slice Ao29 t172.length co29] 24 (0, 0)) (by (with_reducible repeat (first | refine blk_drewN ?_ _ | refine blk_drew ?_ | refine blk_alloc ?_ _)); refine blk_put (cs := #[.int .i64 t171, .slice none 0 0]) ?_ 1 _ rfl; (with_reducible repeat (first | refine blk_drewN ?_ _ | refine blk_drew ?_ | refine blk_alloc ?_ _)); refine blk_put (cs := #[.int .i64 0, .slice none 0 0]) ?_ 0 _ rfl; (with_reducible repeat (first | refine blk_drewN ?_ _ | refine blk_drew ?_ | refine blk_alloc ?_ _)); exact BK177.out) hb); have n6_ := Aside0.mk (below_step (by repeat (first | (with_reducible first | exact HB.out | apply below_alloc | apply pw_below_drewN | apply below_drew1 | refine below_set ?_ GE163.out | refine below_set ?_ GE169.out | refine below_set ?_ GE177.out) | exact HB.out)) hb); clear HO_170001; clear HO174; clear BK163; clear BK169; clear BK177; clear HB; have HO_170001 := n0_; have HO174 := n1_; have HO181 := n2_; have BK163 := n3_; have BK169 := n4_; have BK177 := n5_; have HB := n6_; clear n0_ n1_ n2_ n3_ n4_ n5_ n6_; (try clear hb); (try clear hb2); (try clear hk); (try clear hi); (try clear ho0)) | ((with_reducible refine gate_dst (N := 12) rfl ?_); (try (refine gate_guard (by rfl) ?_; dsimp only)); refine box_event ?hg (N := 12) ?hd (cs := #[.int .i64 0, .slice none 0 0]) (t := 27) ?hr ?_; (case hd => rfl); (case hg => rfl); (case hr => first | (go_simp; done) | (go_simp; rfl)); intro gb183 hg w31 hbox hb; have n0_ := Aside0.mk (Kd.R_below (by (with_reducible repeat (first | apply Kd.R_alloc | apply Kd.R_drewN | apply Kd.R_drew)); exact HO_170001.out) hb); have n1_ := Aside0.mk (Kd.V_below (Kd.V_elderB (by (with_reducible repeat (first | apply Kd.V_alloc | apply Kd.V_drewN | apply Kd.V_drew)); exact HO174.out) gb183 (Nat.le_of_eq hg.symm)) hb); have n2_ := Aside0.mk (Kd.R_below (by (with_reducible repeat (first | apply Kd.R_alloc | apply Kd.R_drewN | apply Kd.R_drew)); exact HO181.out) hb); have n3_ := Aside0.mk (blk_below (g := gb163) (o := .cells #[.int .i64 a0_0, .slice A0_1 l0_1.length c0_1] 24 (0, 0)) (by (with_reducible repeat (first | refine blk_drewN ?_ _ | refine blk_drew ?_ | refine blk_alloc ?_ _)); exact BK163.out) hb); have n4_ := Aside0.mk (blk_below (g := gb169) (o := .cells #[.int .i64 t164, .slice Ao12 t165.length co12] 27 (0, 0)) (by (with_reducible repeat (first | refine blk_drewN ?_ _ | refine blk_drew ?_ | refine blk_alloc ?_ _)); exact BK169.out) hb); have n5_ := Aside0.mk (blk_below (g := gb177) (o := .cells #[.int .i64 t171, .slice Ao29 t172.length co29] 24 (0, 0)) (by (with_reducible repeat (first | refine blk_drewN ?_ _ | refine blk_drew ?_ | refine blk_alloc ?_ _)); exact BK177.out) hb); have n6_ := Aside0.mk (below_step (by repeat (first | (with_reducible first | exact HB.out | apply below_alloc | apply pw_below_drewN | apply below_drew1 | refine below_set ?_ GE163.out | refine below_set ?_ GE169.out | refine below_set ?_ GE177.out) | exact HB.out)) hb); have n7_ := Aside0.mk (hbox); have n8_ := Aside0.mk ((by rw [hg]; exact (below_size (by repeat (first | (with_reducible first | exact HB.out | apply below_alloc | apply pw_below_drewN | apply below_drew1 | refine below_set ?_ GE163.out | refine below_set ?_ GE169.out | refine below_set ?_ GE177.out) | exact HB.out))) : w.heap.size ≤ gb183)); have n9_ := Aside0.mk ((by rw [hg]; exact (below_size (by repeat (first | (with_reducible first | exact HB.out | apply below_alloc | apply pw_below_drewN | apply below_drew1 | refine below_set ?_ GE163.out | refine below_set ?_ GE169.out | refine below_set ?_ GE177.out) | exact HB.out))) : w.heap.size ≤ gb183)); have n10_ := Aside0.mk ((by rw [hg]; exact Nat.ne_of_lt (blk_lt (g := gb163) (o := .cells #[.int .i64 a0_0, .slice A0_1 l0_1.length c0_1] 24 (0, 0)) (by (with_reducible repeat (first | refine blk_drewN ?_ _ | refine blk_drew ?_ | refine blk_alloc ?_ _)); exact BK163.out)) : gb163 ≠ gb183)); have n11_ := Aside0.mk ((by rw [hg]; exact Nat.ne_of_gt (blk_lt (g := gb163) (o := .cells #[.int .i64 a0_0, .slice A0_1 l0_1.length c0_1] 24 (0, 0)) (by (with_reducible repeat (first | refine blk_drewN ?_ _ | refine blk_drew ?_ | refine blk_alloc ?_ _)); exact BK163.out)) : gb183 ≠ gb163)); have n12_ := Aside0.mk ((by rw [hg]; exact Nat.ne_of_lt (blk_lt (g := gb169) (o := .cells #[.int .i64 t164, .slice Ao12 t165.length co12] 27 (0, 0)) (by (with_reducible repeat (first | refine blk_drewN ?_ _ | refine blk_drew ?_ | refine blk_alloc ?_ _)); exact BK169.out)) : gb169 ≠ gb183)); have n13_ := Aside0.mk ((by rw [hg]; exact Nat.ne_of_gt (blk_lt (g := gb169) (o := .cells #[.int .i64 t164, .slice Ao12 t165.length co12] 27 (0, 0)) (by (with_reducible repeat (first | refine blk_drewN ?_ _ | refine blk_drew ?_ | refine blk_alloc ?_ _)); exact BK169.out)) : gb183 ≠ gb169)); have n14_ := Aside0.mk ((by rw [hg]; exact Nat.ne_of_lt (blk_lt (g := gb177) (o := .cells #[.int .i64 t171, .slice Ao29 t172.length co29] 24 (0, 0)) (by (with_reducible repeat (first | refine blk_drewN ?_ _ | refine blk_drew ?_ | refine blk_alloc ?_ _)); exact BK177.out)) : gb177 ≠ gb183)); have n15_ := Aside0.mk ((by rw [hg]; exact Nat.ne_of_gt (blk_lt (g := gb177) (o := .cells #[.int .i64 t171, .slice Ao29 t172.length co29] 24 (0, 0)) (by (with_reducible repeat (first | refine blk_drewN ?_ _ | refine blk_drew ?_ | refine blk_alloc ?_ _)); exact BK177.out)) : gb183 ≠ gb177)); clear HO_170001; clear HO174; clear HO181; clear BK163; clear BK169; clear BK177; clear HB; have HO_170001 := n0_; have HO174 := n1_; have HO181 := n2_; have BK163 := n3_; have BK169 := n4_; have BK177 := n5_; have HB := n6_; have BK183 := n7_; have GW183 := n8_; have GE183 := n9_; have NB163_183 := n10_; have NB183_163 := n11_; have NB169_183 := n12_; have NB183_169 := n13_; have NB177_183 := n14_; have NB183_177 := n15_; clear n0_ n1_ n2_ n3_ n4_ n5_ n6_ n7_ n8_ n9_ n10_ n11_ n12_ n13_ n14_ n15_; clear hb hbox hg; have hnb32 := NB183_163.out; have hnc32 := NB163_183.out; have hnb33 := NB183_169.out; have hnc33 := NB169_183.out; have hnb34 := NB183_177.out; have hnc34 := NB177_183.out; have hcz35_0 : w31.cell? ⟨gb183, 0, none⟩ = some (.int .i64 0) := (blk_cell BK183.out 0).trans rfl; have hcz35_1 : w31.cell? ⟨gb183, 1, none⟩ = some (.slice none 0 0) := (blk_cell BK183.out 1).trans rfl; have hfz35_0 := blk_frozen BK183.out 0; have hfz35_1 := blk_frozen BK183.out 1; obtain ⟨Ao36, co36, eo36⟩ := Kd.R_slice HO181.out; subst eo36; have hcz37_0 : w31.cell? ⟨gb163, 0, none⟩ = some (.int .i64 a0_0) := (blk_cell BK163.out 0).trans rfl; have hcz37_1 : w31.cell? ⟨gb163, 1, none⟩ = some (.slice A0_1 l0_1.length c0_1) := (blk_cell BK163.out 1).trans rfl; have hfz37_0 := blk_frozen BK163.out 0; have hfz37_1 := blk_frozen BK163.out 1) | ((with_reducible refine gate_callee (f := 11) rfl ?_); refine goesL_ (some 45) rfl rfl Try.func11 (by kernel_rfl) rfl #[.agg #[.int .i64 a0_0, .slice A0_1 l0_1.length c0_1], .int .i64 a2] rfl (by (try simp only [List.map_toArray, List.map_cons, List.map_nil]); first | done | rfl | (simp only [List.length_drop, List.length_take]; rfl)) ?_; (with_reducible refine (link_Told.calls a0_0 _ _ l0_1 a2 t184 t185 _ ?side1 ?side2 A19.out).mono ?_); (case side1 => exact Kd.C_below HR0_1.out (by repeat (first | (with_reducible first | exact HB.out | apply below_alloc | apply pw_below_drewN | apply below_drew1 | refine below_set ?_ GE163.out | refine below_set ?_ GE169.out | refine below_set ?_ GE177.out | refine below_set ?_ GE183.out) | exact HB.out))); (case side2 => exact HC0_1.out); rintro e w38 ⟨v186, rfl, ho0, hb⟩; refine ⟨_, rfl, ?_⟩; have n0_ := Aside0.mk (Kd.R_below (by (with_reducible repeat (first | apply Kd.R_alloc | apply Kd.R_drewN | apply Kd.R_drew)); exact (Kd.R_mono (Kd.R_far (p := ⟨gb183, 1, none⟩) (Kd.R_far (p := ⟨gb183, 0, none⟩) (Kd.R_types HO_170001.out BK183.out (by decide)) (fun _ hk => hk.2) (.int .i64 t178)) (fun _ hk => hk.2) (.slice Ao36 t179.length co36)) (fun _ h_ => h_.1))) hb); have n1_ := Aside0.mk (Kd.V_elder' (by (with_reducible repeat (first | apply Kd.V_alloc | apply Kd.V_drewN | apply Kd.V_drew)); exact (Kd.V_mono (Kd.V_far (p := ⟨gb183, 1, none⟩) (Kd.V_far (p := ⟨gb183, 0, none⟩) (Kd.V_mono HO174.out (fun k_ hk => (⟨hk, hk.2⟩ : _ ∧ k_ ≠ gb183))) (fun _ hk => hk.2) (.int .i64 t178)) (fun _ hk => hk.2) (.slice Ao36 t179.length co36)) (fun _ h_ => h_.1))) (Kd.R_base ho0) hb); have n2_ := Aside0.mk (Kd.R_below (by (with_reducible repeat (first | apply Kd.R_alloc | apply Kd.R_drewN | apply Kd.R_drew)); exact (Kd.R_mono (Kd.R_far (p := ⟨gb183, 1, none⟩) (Kd.R_far (p := ⟨gb183, 0, none⟩) (Kd.R_types HO181.out BK183.out (by decide)) (fun _ hk => hk.2) (.int .i64 t178)) (fun _ hk => hk.2) (.slice Ao36 t179.length co36)) (fun _ h_ => h_.1))) hb); have n3_ := Aside0.mk (Kd.R_lower ho0 (below_size (by repeat (first | (with_reducible first | exact HB.out | apply below_alloc | apply pw_below_drewN | apply below_drew1 | refine below_set ?_ GE163.out | refine below_set ?_ GE169.out | refine below_set ?_ GE177.out | refine below_set ?_ GE183.out) | exact HB.out)))); have n4_ := Aside0.mk (blk_below (g := gb163) (o := .cells #[.int .i64 a0_0, .slice A0_1 l0_1.length c0_1] 24 (0, 0)) (by (with_reducible repeat (first | refine blk_drewN ?_ _ | refine blk_drew ?_ | refine blk_alloc ?_ _)); refine blk_far ?_ NB163_183.out _; (with_reducible repeat (first | refine blk_drewN ?_ _ | refine blk_drew ?_ | refine blk_alloc ?_ _)); refine blk_far ?_ NB163_183.out _; (with_reducible repeat (first | refine blk_drewN ?_ _ | refine blk_drew ?_ | refine blk_alloc ?_ _)); exact BK163.out) hb); have n5_ := Aside0.mk (blk_below (g := gb169) (o := .cells #[.int .i64 t164, .slice Ao12 t165.length co12] 27 (0, 0)) (by (with_reducible repeat (first | refine blk_drewN ?_ _ | refine blk_drew ?_ | refine blk_alloc ?_ _)); refine blk_far ?_ NB169_183.out _; (with_reducible repeat (first | refine blk_drewN ?_ _ | refine blk_drew ?_ | refine blk_alloc ?_ _)); refine blk_far ?_ NB169_183.out _; (with_reducible repeat (first | refine blk_drewN ?_ _ | refine blk_drew ?_ | refine blk_alloc ?_ _)); exact BK169.out) hb); have n6_ := Aside0.mk (blk_below (g := gb177) (o := .cells #[.int .i64 t171, .slice Ao29 t172.length co29] 24 (0, 0)) (by (with_reducible repeat (first | refine blk_drewN ?_ _ | refine blk_drew ?_ | refine blk_alloc ?_ _)); refine blk_far ?_ NB177_183.out _; (with_reducible repeat (first | refine blk_drewN ?_ _ | refine blk_drew ?_ | refine blk_alloc ?_ _)); refine blk_far ?_ NB177_183.out _; (with_reducible repeat (first | refine blk_drewN ?_ _ | refine blk_drew ?_ | refine blk_alloc ?_ _)); exact BK177.out) hb); have n7_ := Aside0.mk (blk_below (g := gb183) (o := .cells #[.int .i64 t178, .slice Ao36 t179.length co36] 27 (0, 0)) (by (with_reducible repeat (first | refine blk_drewN ?_ _ | refine blk_drew ?_ | refine blk_alloc ?_ _)); refine blk_put (cs := #[.int .i64 t178, .slice none 0 0]) ?_ 1 _ rfl; (with_reducible repeat (first | refine blk_drewN ?_ _ | refine blk_drew ?_ | refine blk_alloc ?_ _)); refine blk_put (cs := #[.int .i64 0, .slice none 0 0]) ?_ 0 _ rfl; (with_reducible repeat (first | refine blk_drewN ?_ _ | refine blk_drew ?_ | refine blk_alloc ?_ _)); exact BK183.out) hb); have n8_ := Aside0.mk (below_step (by repeat (first | (with_reducible first | exact HB.out | apply below_alloc | apply pw_below_drewN | apply below_drew1 | refine below_set ?_ GE163.out | refine below_set ?_ GE169.out | refine below_set ?_ GE177.out | refine below_set ?_ GE183.out) | exact HB.out)) hb); clear HO_170001; clear HO174; clear HO181; clear BK163; clear BK169; clear BK177; clear BK183; clear HB; have HO_170001 := n0_; have HO174 := n1_; have HO181 := n2_; have HO187 := n3_; have BK163 := n4_; have BK169 := n5_; have BK177 := n6_; have BK183 := n7_; have HB := n8_; clear n0_ n1_ n2_ n3_ n4_ n5_ n6_ n7_ n8_; (try clear hb); (try clear hb2); (try clear hk); (try clear hi); (try clear ho0); obtain ⟨Ao39, co39, eo39⟩ := Kd.R_slice HO187.out; subst eo39) | ((with_reducible refine gate_callee (f := 8) rfl ?_); refine goesL_ (some 46) rfl rfl Try.func8 (by kernel_rfl) rfl #[.agg #[.int .i64 t184, .slice Ao39 t185.length co39]] rfl (by (try simp only [List.map_toArray, List.map_cons, List.map_nil]); first | done | rfl | (simp only [List.length_drop, List.length_take]; rfl)) ?_; (with_reducible refine (switchboardlaw10_ref.calls kj4 t184 _ _ t185 t188 t189 t192 _ ?side1 ?side2 A20.out).mono ?_); (case side1 => repeat (first | exact (Kd.R_reads' HO187.out).2.2 | (with_reducible refine Kd.C_alloc ?_ _) | (with_reducible refine Kd.C_drewN ?_ _) | (with_reducible refine Kd.C_drew ?_))); (case side2 => exact (Kd.R_reads' HO187.out).2.1); rintro e w40 ⟨v190, rfl, ho0, hb⟩; refine ⟨_, rfl, ?_⟩; have n0_ := Aside0.mk (Kd.R_elder' (by (with_reducible repeat (first | apply Kd.R_alloc | apply Kd.R_drewN | apply Kd.R_drew)); exact HO_170001.out) (Kd.R_base ho0) hb); have n1_ := Aside0.mk (Kd.V_elder' (by (with_reducible repeat (first | apply Kd.V_alloc | apply Kd.V_drewN | apply Kd.V_drew)); exact HO174.out) (Kd.R_base ho0) hb); have n2_ := Aside0.mk (Kd.R_elder' (by (with_reducible repeat (first | apply Kd.R_alloc | apply Kd.R_drewN | apply Kd.R_drew)); exact HO181.out) (Kd.R_base ho0) hb); have n3_ := Aside0.mk (Kd.R_below (by (with_reducible repeat (first | apply Kd.R_alloc | apply Kd.R_drewN | apply Kd.R_drew)); exact HO187.out) hb); have n4_ := Aside0.mk (Kd.R_lower (Kd.R_new' (Kd.R_new' ho0 (Kd.R_lt (by (with_reducible repeat (first | apply Kd.R_alloc | apply Kd.R_drewN | apply Kd.R_drew)); exact HO_170001.out))) (Kd.R_lt (by (with_reducible repeat (first | apply Kd.R_alloc | apply Kd.R_drewN | apply Kd.R_drew)); exact HO181.out))) (below_size (by repeat (first | (with_reducible first | exact HB.out | apply below_alloc | apply pw_below_drewN | apply below_drew1 | refine below_set ?_ GE163.out | refine below_set ?_ GE169.out | refine below_set ?_ GE177.out | refine below_set ?_ GE183.out) | exact HB.out)))); have n5_ := Aside0.mk (blk_below (g := gb163) (o := .cells #[.int .i64 a0_0, .slice A0_1 l0_1.length c0_1] 24 (0, 0)) (by (with_reducible repeat (first | refine blk_drewN ?_ _ | refine blk_drew ?_ | refine blk_alloc ?_ _)); exact BK163.out) hb); have n6_ := Aside0.mk (blk_below (g := gb169) (o := .cells #[.int .i64 t164, .slice Ao12 t165.length co12] 27 (0, 0)) (by (with_reducible repeat (first | refine blk_drewN ?_ _ | refine blk_drew ?_ | refine blk_alloc ?_ _)); exact BK169.out) hb); have n7_ := Aside0.mk (blk_below (g := gb177) (o := .cells #[.int .i64 t171, .slice Ao29 t172.length co29] 24 (0, 0)) (by (with_reducible repeat (first | refine blk_drewN ?_ _ | refine blk_drew ?_ | refine blk_alloc ?_ _)); exact BK177.out) hb); have n8_ := Aside0.mk (blk_below (g := gb183) (o := .cells #[.int .i64 t178, .slice Ao36 t179.length co36] 27 (0, 0)) (by (with_reducible repeat (first | refine blk_drewN ?_ _ | refine blk_drew ?_ | refine blk_alloc ?_ _)); exact BK183.out) hb); have n9_ := Aside0.mk (below_step (by repeat (first | (with_reducible first | exact HB.out | apply below_alloc | apply pw_below_drewN | apply below_drew1 | refine below_set ?_ GE163.out | refine below_set ?_ GE169.out | refine below_set ?_ GE177.out | refine below_set ?_ GE183.out) | exact HB.out)) hb); clear HO_170001; clear HO174; clear HO181; clear HO187; clear BK163; clear BK169; clear BK177; clear BK183; clear HB; have HO_170001 := n0_; have HO174 := n1_; have HO181 := n2_; have HO187 := n3_; have HO191 := n4_; have BK163 := n5_; have BK169 := n6_; have BK177 := n7_; have BK183 := n8_; have HB := n9_; clear n0_ n1_ n2_ n3_ n4_ n5_ n6_ n7_ n8_ n9_; (try clear hb); (try clear hb2); (try clear hk); (try clear hi); (try clear ho0)) | ((with_reducible refine gate_dst (N := 14) rfl ?_); (try (refine gate_guard (by rfl) ?_; dsimp only)); refine box_event ?hg (N := 14) ?hd (cs := #[.int .i64 0, .slice none 0 0]) (t := 27) ?hr ?_; (case hd => rfl); (case hg => rfl); (case hr => first | (go_simp; done) | (go_simp; rfl)); intro gb193 hg w41 hbox hb; have n0_ := Aside0.mk (Kd.R_below (by (with_reducible repeat (first | apply Kd.R_alloc | apply Kd.R_drewN | apply Kd.R_drew)); exact HO_170001.out) hb); have n1_ := Aside0.mk (Kd.V_below (Kd.V_elderB (by (with_reducible repeat (first | apply Kd.V_alloc | apply Kd.V_drewN | apply Kd.V_drew)); exact HO174.out) gb193 (Nat.le_of_eq hg.symm)) hb); have n2_ := Aside0.mk (Kd.R_below (by (with_reducible repeat (first | apply Kd.R_alloc | apply Kd.R_drewN | apply Kd.R_drew)); exact HO181.out) hb); have n3_ := Aside0.mk (Kd.R_below (by (with_reducible repeat (first | apply Kd.R_alloc | apply Kd.R_drewN | apply Kd.R_drew)); exact HO187.out) hb); have n4_ := Aside0.mk (Kd.R_below (by (with_reducible repeat (first | apply Kd.R_alloc | apply Kd.R_drewN | apply Kd.R_drew)); exact HO191.out) hb); have n5_ := Aside0.mk (blk_below (g := gb163) (o := .cells #[.int .i64 a0_0, .slice A0_1 l0_1.length c0_1] 24 (0, 0)) (by (with_reducible repeat (first | refine blk_drewN ?_ _ | refine blk_drew ?_ | refine blk_alloc ?_ _)); exact BK163.out) hb); have n6_ := Aside0.mk (blk_below (g := gb169) (o := .cells #[.int .i64 t164, .slice Ao12 t165.length co12] 27 (0, 0)) (by (with_reducible repeat (first | refine blk_drewN ?_ _ | refine blk_drew ?_ | refine blk_alloc ?_ _)); exact BK169.out) hb); have n7_ := Aside0.mk (blk_below (g := gb177) (o := .cells #[.int .i64 t171, .slice Ao29 t172.length co29] 24 (0, 0)) (by (with_reducible repeat (first | refine blk_drewN ?_ _ | refine blk_drew ?_ | refine blk_alloc ?_ _)); exact BK177.out) hb); have n8_ := Aside0.mk (blk_below (g := gb183) (o := .cells #[.int .i64 t178, .slice Ao36 t179.length co36] 27 (0, 0)) (by (with_reducible repeat (first | refine blk_drewN ?_ _ | refine blk_drew ?_ | refine blk_alloc ?_ _)); exact BK183.out) hb); have n9_ := Aside0.mk (below_step (by repeat (first | (with_reducible first | exact HB.out | apply below_alloc | apply pw_below_drewN | apply below_drew1 | refine below_set ?_ GE163.out | refine below_set ?_ GE169.out | refine below_set ?_ GE177.out | refine below_set ?_ GE183.out) | exact HB.out)) hb); have n10_ := Aside0.mk (hbox); have n11_ := Aside0.mk ((by rw [hg]; exact (below_size (by repeat (first | (with_reducible first | exact HB.out | apply below_alloc | apply pw_below_drewN | apply below_drew1 | refine below_set ?_ GE163.out | refine below_set ?_ GE169.out | refine below_set ?_ GE177.out | refine below_set ?_ GE183.out) | exact HB.out))) : w.heap.size ≤ gb193)); have n12_ := Aside0.mk ((by rw [hg]; exact (below_size (by repeat (first | (with_reducible first | exact HB.out | apply below_alloc | apply pw_below_drewN | apply below_drew1 | refine below_set ?_ GE163.out | refine below_set ?_ GE169.out | refine below_set ?_ GE177.out | refine below_set ?_ GE183.out) | exact HB.out))) : w.heap.size ≤ gb193)); have n13_ := Aside0.mk ((by rw [hg]; exact Nat.ne_of_lt (blk_lt (g := gb163) (o := .cells #[.int .i64 a0_0, .slice A0_1 l0_1.length c0_1] 24 (0, 0)) (by (with_reducible repeat (first | refine blk_drewN ?_ _ | refine blk_drew ?_ | refine blk_alloc ?_ _)); exact BK163.out)) : gb163 ≠ gb193)); have n14_ := Aside0.mk ((by rw [hg]; exact Nat.ne_of_gt (blk_lt (g := gb163) (o := .cells #[.int .i64 a0_0, .slice A0_1 l0_1.length c0_1] 24 (0, 0)) (by (with_reducible repeat (first | refine blk_drewN ?_ _ | refine blk_drew ?_ | refine blk_alloc ?_ _)); exact BK163.out)) : gb193 ≠ gb163)); have n15_ := Aside0.mk ((by rw [hg]; exact Nat.ne_of_lt (blk_lt (g := gb169) (o := .cells #[.int .i64 t164, .slice Ao12 t165.length co12] 27 (0, 0)) (by (with_reducible repeat (first | refine blk_drewN ?_ _ | refine blk_drew ?_ | refine blk_alloc ?_ _)); exact BK169.out)) : gb169 ≠ gb193)); have n16_ := Aside0.mk ((by rw [hg]; exact Nat.ne_of_gt (blk_lt (g := gb169) (o := .cells #[.int .i64 t164, .slice Ao12 t165.length co12] 27 (0, 0)) (by (with_reducible repeat (first | refine blk_drewN ?_ _ | refine blk_drew ?_ | refine blk_alloc ?_ _)); exact BK169.out)) : gb193 ≠ gb169)); have n17_ := Aside0.mk ((by rw [hg]; exact Nat.ne_of_lt (blk_lt (g := gb177) (o := .cells #[.int .i64 t171, .slice Ao29 t172.length co29] 24 (0, 0)) (by (with_reducible repeat (first | refine blk_drewN ?_ _ | refine blk_drew ?_ | refine blk_alloc ?_ _)); exact BK177.out)) : gb177 ≠ gb193)); have n18_ := Aside0.mk ((by rw [hg]; exact Nat.ne_of_gt (blk_lt (g := gb177) (o := .cells #[.int .i64 t171, .slice Ao29 t172.length co29] 24 (0, 0)) (by (with_reducible repeat (first | refine blk_drewN ?_ _ | refine blk_drew ?_ | refine blk_alloc ?_ _)); exact BK177.out)) : gb193 ≠ gb177)); have n19_ := Aside0.mk ((by rw [hg]; exact Nat.ne_of_lt (blk_lt (g := gb183) (o := .cells #[.int .i64 t178, .slice Ao36 t179.length co36] 27 (0, 0)) (by (with_reducible repeat (first | refine blk_drewN ?_ _ | refine blk_drew ?_ | refine blk_alloc ?_ _)); exact BK183.out)) : gb183 ≠ gb193)); have n20_ := Aside0.mk ((by rw [hg]; exact Nat.ne_of_gt (blk_lt (g := gb183) (o := .cells #[.int .i64 t178, .slice Ao36 t179.length co36] 27 (0, 0)) (by (with_reducible repeat (first | refine blk_drewN ?_ _ | refine blk_drew ?_ | refine blk_alloc ?_ _)); exact BK183.out)) : gb193 ≠ gb183)); clear HO_170001; clear HO174; clear HO181; clear HO187; clear HO191; clear BK163; clear BK169; clear BK177; clear BK183; clear HB; have HO_170001 := n0_; have HO174 := n1_; have HO181 := n2_; have HO187 := n3_; have HO191 := n4_; have BK163 := n5_; have BK169 := n6_; have BK177 := n7_; have BK183 := n8_; have HB := n9_; have BK193 := n10_; have GW193 := n11_; have GE193 := n12_; have NB163_193 := n13_; have NB193_163 := n14_; have NB169_193 := n15_; have NB193_169 := n16_; have NB177_193 := n17_; have NB193_177 := n18_; have NB183_193 := n19_; have NB193_183 := n20_; clear n0_ n1_ n2_ n3_ n4_ n5_ n6_ n7_ n8_ n9_ n10_ n11_ n12_ n13_ n14_ n15_ n16_ n17_ n18_ n19_ n20_; clear hb hbox hg; have hnb42 := NB193_163.out; have hnc42 := NB163_193.out; have hnb43 := NB193_169.out; have hnc43 := NB169_193.out; have hnb44 := NB193_177.out; have hnc44 := NB177_193.out; have hnb45 := NB193_183.out; have hnc45 := NB183_193.out; have hcz46_0 : w41.cell? ⟨gb193, 0, none⟩ = some (.int .i64 0) := (blk_cell BK193.out 0).trans rfl; have hcz46_1 : w41.cell? ⟨gb193, 1, none⟩ = some (.slice none 0 0) := (blk_cell BK193.out 1).trans rfl; have hfz46_0 := blk_frozen BK193.out 0; have hfz46_1 := blk_frozen BK193.out 1; obtain ⟨Ao47, co47, eo47⟩ := Kd.R_slice HO191.out; subst eo47))
        (try simp only [Act.put, List.setIfInBounds_toArray, List.set_cons_zero, List.set_cons_succ])
        go_cut [65] (fun v65 wc => ∃ (kq : Nat) (x65_20 : Bool), v65 = .bool x65_20 ∧ Aside0 (switchboardlaw10_LinkExact.j1 kq a1 t175 t176 t182 x65_20 a0_0 l0_1 t164 t165 t178 t179 = some true) ∧ Aside0 (kq ≤ kj4) ∧ Aside0 (Kd.R k40 40 wc w.heap.size (fun k_ => some k_ ≠ ((.slice Ao36 t179.length co36) : Value).ownBlock ∧ some k_ ≠ ((.slice Ao47 t189.length co47) : Value).ownBlock) (.slice Ao12 t165.length co12) t165) ∧ Aside0 (Kd.V k45 45 wc w.heap.size (fun k_ => some k_ ≠ ((.slice Ao12 t165.length co12) : Value).ownBlock ∧ some k_ ≠ ((.slice Ao36 t179.length co36) : Value).ownBlock ∧ some k_ ≠ ((.slice Ao47 t189.length co47) : Value).ownBlock ∧ k_ ≠ gb163 ∧ k_ ≠ gb169 ∧ k_ ≠ gb177 ∧ k_ ≠ gb183 ∧ k_ ≠ gb193) (.slice Ao29 t172.length co29) t172) ∧ Aside0 (Kd.R k40 40 wc w.heap.size (fun k_ => some k_ ≠ ((.slice Ao12 t165.length co12) : Value).ownBlock ∧ some k_ ≠ ((.slice Ao47 t189.length co47) : Value).ownBlock) (.slice Ao36 t179.length co36) t179) ∧ Aside0 (Kd.R k40 40 wc w.heap.size (fun k_ => some k_ ≠ ((.slice Ao12 t165.length co12) : Value).ownBlock ∧ some k_ ≠ ((.slice Ao36 t179.length co36) : Value).ownBlock) (.slice Ao47 t189.length co47) t189) ∧ Aside0 (wc.heap[gb163]? = some (.cells #[.int .i64 a0_0, (.slice A0_1 l0_1.length c0_1)] 24 (0, 0))) ∧ Aside0 (wc.heap[gb169]? = some (.cells #[.int .i64 t164, (.slice Ao12 t165.length co12)] 27 (0, 0))) ∧ Aside0 (wc.heap[gb177]? = some (.cells #[.int .i64 t171, (.slice Ao29 t172.length co29)] 24 (0, 0))) ∧ Aside0 (wc.heap[gb183]? = some (.cells #[.int .i64 t178, (.slice Ao36 t179.length co36)] 27 (0, 0))) ∧ Aside0 (wc.heap[gb193]? = some (.cells #[.int .i64 t188, (.slice Ao47 t189.length co47)] 27 (0, 0))) ∧ Aside0 (Below w.heap.size w wc))
        case first =>
          have H := HC21.out
          clear HC21
          by_cases c48 : t192 = true
          · subst c48
            have H1 : ((switchboardref10_Told.f kj4 t164 t165 a2).bind fun bt194 => ((switchboardref10_Same.f kj4 t188 t189 bt194.1 bt194.2).bind fun t198 => (if t198 = true then ((link_Right.f kj4 a0_0 l0_1).bind fun t199 => ((switchboardref10_Right.f kj4 t164 t165).bind fun t200 => (switchboardlaw10_LinkExact.j1 kj4 a1 t175 t176 t182 (t199 != t200) a0_0 l0_1 t164 t165 t178 t179))) else (switchboardlaw10_LinkExact.j1 kj4 a1 t175 t176 t182 true a0_0 l0_1 t164 t165 t178 t179)))) = some true := by rw [if_pos rfl] at H; exact H
            clear H
            have H := H1
            clear H1
            replace H := Option.bind_eq_some_iff.mp H
            obtain ⟨⟨t194, t195⟩, A490, H⟩ := H
            replace H : ((switchboardref10_Same.f kj4 t188 t189 t194 t195).bind fun t198 => (if t198 = true then ((link_Right.f kj4 a0_0 l0_1).bind fun t199 => ((switchboardref10_Right.f kj4 t164 t165).bind fun t200 => (switchboardlaw10_LinkExact.j1 kj4 a1 t175 t176 t182 (t199 != t200) a0_0 l0_1 t164 t165 t178 t179))) else (switchboardlaw10_LinkExact.j1 kj4 a1 t175 t176 t182 true a0_0 l0_1 t164 t165 t178 t179))) = some true := H
            have A49 := Aside0.mk A490
            clear A490
            replace H := Option.bind_eq_some_iff.mp H
            obtain ⟨t198, A500, H⟩ := H
            replace H : (if t198 = true then ((link_Right.f kj4 a0_0 l0_1).bind fun t199 => ((switchboardref10_Right.f kj4 t164 t165).bind fun t200 => (switchboardlaw10_LinkExact.j1 kj4 a1 t175 t176 t182 (t199 != t200) a0_0 l0_1 t164 t165 t178 t179))) else (switchboardlaw10_LinkExact.j1 kj4 a1 t175 t176 t182 true a0_0 l0_1 t164 t165 t178 t179)) = some true := H
            have A50 := Aside0.mk A500
            clear A500
            by_cases c51 : t198 = true
            · subst c51
              have H1 : ((link_Right.f kj4 a0_0 l0_1).bind fun t199 => ((switchboardref10_Right.f kj4 t164 t165).bind fun t200 => (switchboardlaw10_LinkExact.j1 kj4 a1 t175 t176 t182 (t199 != t200) a0_0 l0_1 t164 t165 t178 t179))) = some true := by rw [if_pos rfl] at H; exact H
              clear H
              have H := H1
              clear H1
              replace H := Option.bind_eq_some_iff.mp H
              obtain ⟨t199, A520, H⟩ := H
              replace H : ((switchboardref10_Right.f kj4 t164 t165).bind fun t200 => (switchboardlaw10_LinkExact.j1 kj4 a1 t175 t176 t182 (t199 != t200) a0_0 l0_1 t164 t165 t178 t179)) = some true := H
              have A52 := Aside0.mk A520
              clear A520
              replace H := Option.bind_eq_some_iff.mp H
              obtain ⟨t200, A530, H⟩ := H
              replace H : (switchboardlaw10_LinkExact.j1 kj4 a1 t175 t176 t182 (t199 != t200) a0_0 l0_1 t164 t165 t178 t179) = some true := H
              have A53 := Aside0.mk A530
              clear A530
              have H' := Aside0.mk H
              clear H
              try go_wp2
              have n0_ : Aside0 (Kd.R k40 40 ((w41.setCell ⟨gb193, 0, none⟩ (.int .i64 t188)).setCell ⟨gb193, 1, none⟩ (.slice Ao47 t189.length co47)) w.heap.size (fun k_ => some k_ ≠ (.slice Ao36 t179.length co36 : Value).ownBlock ∧ some k_ ≠ (.slice Ao47 t189.length co47 : Value).ownBlock) (.slice Ao12 t165.length co12) t165) := ⟨by (with_reducible repeat (first | apply Kd.R_alloc | apply Kd.R_drewN | apply Kd.R_drew)); exact Kd.R_mono (Kd.R_far (p := ⟨gb193, 1, none⟩) (Kd.R_far (p := ⟨gb193, 0, none⟩) (Kd.R_types HO_170001.out BK193.out (by decide)) (fun _ hk => hk.2) (.int .i64 t188)) (fun _ hk => hk.2) (.slice Ao47 t189.length co47)) (fun _ hk => ⟨hk.1.1.2, hk.1.2⟩)⟩
              have n1_ : Aside0 (Kd.V k45 45 ((w41.setCell ⟨gb193, 0, none⟩ (.int .i64 t188)).setCell ⟨gb193, 1, none⟩ (.slice Ao47 t189.length co47)) w.heap.size (fun k_ => some k_ ≠ (.slice Ao12 t165.length co12 : Value).ownBlock ∧ some k_ ≠ (.slice Ao36 t179.length co36 : Value).ownBlock ∧ some k_ ≠ (.slice Ao39 t185.length co39 : Value).ownBlock ∧ some k_ ≠ (.slice Ao47 t189.length co47 : Value).ownBlock ∧ k_ ≠ gb163 ∧ k_ ≠ gb169 ∧ k_ ≠ gb177 ∧ k_ ≠ gb183 ∧ k_ ≠ gb193) (.slice Ao29 t172.length co29) t172) := ⟨by (with_reducible repeat (first | apply Kd.V_alloc | apply Kd.V_drewN | apply Kd.V_drew)); exact Kd.V_mono (Kd.V_far (p := ⟨gb193, 1, none⟩) (Kd.V_far (p := ⟨gb193, 0, none⟩) (Kd.V_mono HO174.out (fun k_ hk => (⟨hk, hk.2⟩ : _ ∧ k_ ≠ gb193))) (fun _ hk => hk.2) (.int .i64 t188)) (fun _ hk => hk.2) (.slice Ao47 t189.length co47)) (fun _ hk => ⟨hk.1.1.1.1.1.1.1.1, ⟨hk.1.1.1.1.1.2, ⟨hk.1.1.1.2, ⟨hk.1.1.2, ⟨hk.1.1.1.1.1.1.1.2.1, ⟨hk.1.1.1.1.1.1.1.2.2, ⟨hk.1.1.1.1.1.1.2, ⟨hk.1.1.1.1.2, hk.1.2⟩⟩⟩⟩⟩⟩⟩⟩)⟩
              have n2_ : Aside0 (Kd.R k40 40 ((w41.setCell ⟨gb193, 0, none⟩ (.int .i64 t188)).setCell ⟨gb193, 1, none⟩ (.slice Ao47 t189.length co47)) w.heap.size (fun k_ => some k_ ≠ (.slice Ao12 t165.length co12 : Value).ownBlock ∧ some k_ ≠ (.slice Ao47 t189.length co47 : Value).ownBlock) (.slice Ao36 t179.length co36) t179) := ⟨by (with_reducible repeat (first | apply Kd.R_alloc | apply Kd.R_drewN | apply Kd.R_drew)); exact Kd.R_mono (Kd.R_far (p := ⟨gb193, 1, none⟩) (Kd.R_far (p := ⟨gb193, 0, none⟩) (Kd.R_types HO181.out BK193.out (by decide)) (fun _ hk => hk.2) (.int .i64 t188)) (fun _ hk => hk.2) (.slice Ao47 t189.length co47)) (fun _ hk => ⟨hk.1.1.2, hk.1.2⟩)⟩
              have n3_ : Aside0 (Kd.R k45 45 ((w41.setCell ⟨gb193, 0, none⟩ (.int .i64 t188)).setCell ⟨gb193, 1, none⟩ (.slice Ao47 t189.length co47)) w.heap.size (fun _ => True) (.slice Ao39 t185.length co39) t185) := ⟨by (with_reducible repeat (first | apply Kd.R_alloc | apply Kd.R_drewN | apply Kd.R_drew)); exact Kd.R_mono (Kd.R_far (p := ⟨gb193, 1, none⟩) (Kd.R_far (p := ⟨gb193, 0, none⟩) (Kd.R_types HO187.out BK193.out (by decide)) (fun _ hk => hk.2) (.int .i64 t188)) (fun _ hk => hk.2) (.slice Ao47 t189.length co47)) (fun _ hk => trivial)⟩
              have n4_ : Aside0 (Kd.R k40 40 ((w41.setCell ⟨gb193, 0, none⟩ (.int .i64 t188)).setCell ⟨gb193, 1, none⟩ (.slice Ao47 t189.length co47)) w.heap.size (fun k_ => some k_ ≠ (.slice Ao12 t165.length co12 : Value).ownBlock ∧ some k_ ≠ (.slice Ao36 t179.length co36 : Value).ownBlock) (.slice Ao47 t189.length co47) t189) := ⟨by (with_reducible repeat (first | apply Kd.R_alloc | apply Kd.R_drewN | apply Kd.R_drew)); exact Kd.R_mono (Kd.R_far (p := ⟨gb193, 1, none⟩) (Kd.R_far (p := ⟨gb193, 0, none⟩) (Kd.R_types HO191.out BK193.out (by decide)) (fun _ hk => hk.2) (.int .i64 t188)) (fun _ hk => hk.2) (.slice Ao47 t189.length co47)) (fun _ hk => ⟨hk.1.1.2, hk.1.2⟩)⟩
              have n5_ : Aside0 (((w41.setCell ⟨gb193, 0, none⟩ (.int .i64 t188)).setCell ⟨gb193, 1, none⟩ (.slice Ao47 t189.length co47)).heap[gb163]? = some (.cells #[.int .i64 a0_0, .slice A0_1 l0_1.length c0_1] 24 (0, 0))) := ⟨by (with_reducible repeat (first | refine blk_drewN ?_ _ | refine blk_drew ?_ | refine blk_alloc ?_ _)); refine blk_far ?_ NB163_193.out _; (with_reducible repeat (first | refine blk_drewN ?_ _ | refine blk_drew ?_ | refine blk_alloc ?_ _)); refine blk_far ?_ NB163_193.out _; (with_reducible repeat (first | refine blk_drewN ?_ _ | refine blk_drew ?_ | refine blk_alloc ?_ _)); exact BK163.out⟩
              have n6_ : Aside0 (((w41.setCell ⟨gb193, 0, none⟩ (.int .i64 t188)).setCell ⟨gb193, 1, none⟩ (.slice Ao47 t189.length co47)).heap[gb169]? = some (.cells #[.int .i64 t164, .slice Ao12 t165.length co12] 27 (0, 0))) := ⟨by (with_reducible repeat (first | refine blk_drewN ?_ _ | refine blk_drew ?_ | refine blk_alloc ?_ _)); refine blk_far ?_ NB169_193.out _; (with_reducible repeat (first | refine blk_drewN ?_ _ | refine blk_drew ?_ | refine blk_alloc ?_ _)); refine blk_far ?_ NB169_193.out _; (with_reducible repeat (first | refine blk_drewN ?_ _ | refine blk_drew ?_ | refine blk_alloc ?_ _)); exact BK169.out⟩
              have n7_ : Aside0 (((w41.setCell ⟨gb193, 0, none⟩ (.int .i64 t188)).setCell ⟨gb193, 1, none⟩ (.slice Ao47 t189.length co47)).heap[gb177]? = some (.cells #[.int .i64 t171, .slice Ao29 t172.length co29] 24 (0, 0))) := ⟨by (with_reducible repeat (first | refine blk_drewN ?_ _ | refine blk_drew ?_ | refine blk_alloc ?_ _)); refine blk_far ?_ NB177_193.out _; (with_reducible repeat (first | refine blk_drewN ?_ _ | refine blk_drew ?_ | refine blk_alloc ?_ _)); refine blk_far ?_ NB177_193.out _; (with_reducible repeat (first | refine blk_drewN ?_ _ | refine blk_drew ?_ | refine blk_alloc ?_ _)); exact BK177.out⟩
              have n8_ : Aside0 (((w41.setCell ⟨gb193, 0, none⟩ (.int .i64 t188)).setCell ⟨gb193, 1, none⟩ (.slice Ao47 t189.length co47)).heap[gb183]? = some (.cells #[.int .i64 t178, .slice Ao36 t179.length co36] 27 (0, 0))) := ⟨by (with_reducible repeat (first | refine blk_drewN ?_ _ | refine blk_drew ?_ | refine blk_alloc ?_ _)); refine blk_far ?_ NB183_193.out _; (with_reducible repeat (first | refine blk_drewN ?_ _ | refine blk_drew ?_ | refine blk_alloc ?_ _)); refine blk_far ?_ NB183_193.out _; (with_reducible repeat (first | refine blk_drewN ?_ _ | refine blk_drew ?_ | refine blk_alloc ?_ _)); exact BK183.out⟩
              have n9_ : Aside0 (((w41.setCell ⟨gb193, 0, none⟩ (.int .i64 t188)).setCell ⟨gb193, 1, none⟩ (.slice Ao47 t189.length co47)).heap[gb193]? = some (.cells #[.int .i64 t188, .slice Ao47 t189.length co47] 27 (0, 0))) := ⟨by (with_reducible repeat (first | refine blk_drewN ?_ _ | refine blk_drew ?_ | refine blk_alloc ?_ _)); refine blk_put (cs := #[.int .i64 t188, .slice none 0 0]) ?_ 1 _ rfl; (with_reducible repeat (first | refine blk_drewN ?_ _ | refine blk_drew ?_ | refine blk_alloc ?_ _)); refine blk_put (cs := #[.int .i64 0, .slice none 0 0]) ?_ 0 _ rfl; (with_reducible repeat (first | refine blk_drewN ?_ _ | refine blk_drew ?_ | refine blk_alloc ?_ _)); exact BK193.out⟩
              have n10_ : Aside0 (Below w.heap.size w ((w41.setCell ⟨gb193, 0, none⟩ (.int .i64 t188)).setCell ⟨gb193, 1, none⟩ (.slice Ao47 t189.length co47))) := ⟨by repeat (first | (with_reducible first | exact HB.out | apply below_alloc | apply pw_below_drewN | apply below_drew1 | refine below_set ?_ GE163.out | refine below_set ?_ GE169.out | refine below_set ?_ GE177.out | refine below_set ?_ GE183.out | refine below_set ?_ GE193.out) | exact HB.out)⟩
              (try clear HO_170001)
              (try clear HO174)
              (try clear HO181)
              (try clear HO187)
              (try clear HO191)
              (try clear BK163)
              (try clear BK169)
              (try clear BK177)
              (try clear BK183)
              (try clear BK193)
              (try clear HB)
              generalize ((w41.setCell ⟨gb193, 0, none⟩ (.int .i64 t188)).setCell ⟨gb193, 1, none⟩ (.slice Ao47 t189.length co47)) = w54 at n0_ n1_ n2_ n3_ n4_ n5_ n6_ n7_ n8_ n9_ n10_ ⊢
              have HO_170001 := n0_
              have HO174 := n1_
              have HO181 := n2_
              have HO187 := n3_
              have HO191 := n4_
              have BK163 := n5_
              have BK169 := n6_
              have BK177 := n7_
              have BK183 := n8_
              have BK193 := n9_
              have HB := n10_
              clear n0_ n1_ n2_ n3_ n4_ n5_ n6_ n7_ n8_ n9_ n10_
              have n0_ := Aside0.mk (Kd.R_drew HO_170001.out)
              have n1_ := Aside0.mk (Kd.V_drew HO174.out)
              have n2_ := Aside0.mk (Kd.R_drew HO181.out)
              have n3_ := Aside0.mk (Kd.R_drew HO187.out)
              have n4_ := Aside0.mk (Kd.R_drew HO191.out)
              have n5_ := Aside0.mk (blk_drew BK163.out)
              have n6_ := Aside0.mk (blk_drew BK169.out)
              have n7_ := Aside0.mk (blk_drew BK177.out)
              have n8_ := Aside0.mk (blk_drew BK183.out)
              have n9_ := Aside0.mk (blk_drew BK193.out)
              have n10_ := Aside0.mk (below_drew1 HB.out)
              clear HO_170001
              clear HO174
              clear HO181
              clear HO187
              clear HO191
              clear BK163
              clear BK169
              clear BK177
              clear BK183
              clear BK193
              clear HB
              have HO_170001 := n0_
              have HO174 := n1_
              have HO181 := n2_
              have HO187 := n3_
              have HO191 := n4_
              have BK163 := n5_
              have BK169 := n6_
              have BK177 := n7_
              have BK183 := n8_
              have BK193 := n9_
              have HB := n10_
              clear n0_ n1_ n2_ n3_ n4_ n5_ n6_ n7_ n8_ n9_ n10_
              refine start_ (n := 17) (S := fun w' => w'.cell? ⟨gb193, 0, none⟩ = some (.int .i64 t188) ∧ w'.cell? ⟨gb193, 1, none⟩ = some (.slice Ao47 t189.length co47) ∧ w'.cell? ⟨gb169, 0, none⟩ = some (.int .i64 t164) ∧ w'.cell? ⟨gb169, 1, none⟩ = some (.slice Ao12 t165.length co12) ∧ w'.cell? ⟨gb163, 0, none⟩ = some (.int .i64 a0_0) ∧ w'.cell? ⟨gb163, 1, none⟩ = some (.slice A0_1 l0_1.length c0_1)) (ds := []) #[false, false, false, false, false, false, false, false, false, false, false, false, false, false, false, false, false] (by kernel_rfl) rfl rfl ⟨(blk_cell BK193.out 0).trans rfl, (blk_cell BK193.out 1).trans rfl, (blk_cell BK169.out 0).trans rfl, (blk_cell BK169.out 1).trans rfl, (blk_cell BK163.out 0).trans rfl, (blk_cell BK163.out 1).trans rfl⟩ (fun hHeld => ?_); refine with_tabW switchboardlaw10_LinkExact.tab7 switchboardlaw10_LinkExact.bits7 (fun HT_ HW_ => ?_)
              generalize w54.drew = w55 at HO_170001 HO174 HO181 HO187 HO191 BK163 BK169 BK177 BK183 BK193 HB hHeld ⊢
              refine pure_ (i := 0) (N := some 49) (v := ?_) (a' := ?_) #[true, false, false, false, false, false, false, false, false, false, false, false, false, false, false, false, false] rfl rfl (any_of HT_.out (by kernel_rfl)) (fun _ _ _ h => h) (Or.inl ⟨by rfl, ?_⟩) ?_ ?_
              rotate_left
              · intro w'
                go_simp
                with_reducible rfl
              rotate_left
              · simp only [Act.put, List.setIfInBounds_toArray, List.set_cons_zero, List.set_cons_succ, i64_w, i32_w]
                rfl
              refine pure_ (i := 1) (N := some 50) (v := ?_) (a' := ?_) #[true, true, false, false, false, false, false, false, false, false, false, false, false, false, false, false, false] rfl rfl (any_of HT_.out (by kernel_rfl)) (fun _ _ _ h => h) (Or.inl ⟨by rfl, ?_⟩) ?_ ?_
              rotate_left
              · intro w'
                go_simp
                with_reducible rfl
              rotate_left
              · simp only [Act.put, List.setIfInBounds_toArray, List.set_cons_zero, List.set_cons_succ, i64_w, i32_w]
                rfl
              refine pure_ (i := 2) (N := some 51) (v := ?_) (a' := ?_) #[true, true, true, false, false, false, false, false, false, false, false, false, false, false, false, false, false] rfl rfl (any_of HT_.out (by kernel_rfl)) (fun _ _ _ h => h) (Or.inl ⟨by rfl, ?_⟩) ?_ ?_
              rotate_left
              · intro w'
                go_simp
                with_reducible rfl
              rotate_left
              · simp only [Act.put, List.setIfInBounds_toArray, List.set_cons_zero, List.set_cons_succ, i64_w, i32_w]
                rfl
              refine pure_ (i := 5) (N := some 54) (v := ?_) (a' := ?_) #[true, true, true, false, false, true, false, false, false, false, false, false, false, false, false, false, false] rfl rfl (any_of HT_.out (by kernel_rfl)) (fun _ _ _ h => h) (Or.inl ⟨by rfl, ?_⟩) ?_ ?_
              rotate_left
              · intro w'
                go_simp
                with_reducible rfl
              rotate_left
              · simp only [Act.put, List.setIfInBounds_toArray, List.set_cons_zero, List.set_cons_succ, i64_w, i32_w]
                rfl
              refine take_ (i := 3) (N := some 52) (v := ?_) (a' := ?_) #[true, true, true, true, false, true, false, false, false, false, false, false, false, false, false, false, false] rfl rfl (take_ofW HT_.out HW_.out (by kernel_rfl)) (fun _ _ _ h => h) (Or.inl ⟨by rfl, ?_⟩) hHeld ?_ ?_
              rotate_left
              · rintro w' ⟨s0, s1, s2, s3, s4, s5⟩
                go_simp
                with_reducible rfl
              rotate_left
              · simp only [Act.put, List.setIfInBounds_toArray, List.set_cons_zero, List.set_cons_succ, i64_w, i32_w]
                rfl
              refine take_ (i := 4) (N := some 53) (v := ?_) (a' := ?_) #[true, true, true, true, true, true, false, false, false, false, false, false, false, false, false, false, false] rfl rfl (take_ofW HT_.out HW_.out (by kernel_rfl)) (fun _ _ _ h => h) (Or.inl ⟨by rfl, ?_⟩) hHeld ?_ ?_
              rotate_left
              · rintro w' ⟨s0, s1, s2, s3, s4, s5⟩
                go_simp
                with_reducible rfl
              rotate_left
              · simp only [Act.put, List.setIfInBounds_toArray, List.set_cons_zero, List.set_cons_succ, i64_w, i32_w]
                rfl
              refine one_ (i := 6) (N := some 55) #[true, true, true, true, true, true, true, false, false, false, false, false, false, false, false, false, false] rfl rfl (one_of HT_.out (by kernel_rfl)) (by decide) (fun K hK => ?_)
              refine goes_ Try.func13 (by kernel_rfl) rfl #[.agg #[.int .i64 t164, .slice Ao12 t165.length co12], .int .i64 a2] (by rfl) rfl rfl (by (try simp only [List.map_toArray, List.map_cons, List.map_nil]); first | done | rfl | (simp only [List.length_drop, List.length_take]; rfl)) ?_
              with_reducible refine (switchboardref10_Told.calls kj4 t164 _ _ t165 a2 t194 t195 _ ?side1 ?side2 A49.out).mono ?_
              (case side1 => repeat (first | exact (Kd.R_reads' HO_170001.out).2.2 | (with_reducible refine Kd.C_alloc ?_ _) | (with_reducible refine Kd.C_drewN ?_ _) | (with_reducible refine Kd.C_drew ?_)))
              (case side2 => exact (Kd.R_reads' HO_170001.out).2.1)
              rintro e w56 ⟨v196, rfl, ho0, hb⟩
              refine ⟨_, rfl, ?_⟩
              have n0_ := Aside0.mk (Kd.R_elder' (by (with_reducible repeat (first | apply Kd.R_alloc | apply Kd.R_drewN | apply Kd.R_drew)); exact HO_170001.out) (Kd.R_base ho0) hb)
              have n1_ := Aside0.mk (Kd.V_elder' (by (with_reducible repeat (first | apply Kd.V_alloc | apply Kd.V_drewN | apply Kd.V_drew)); exact HO174.out) (Kd.R_base ho0) hb)
              have n2_ := Aside0.mk (Kd.R_elder' (by (with_reducible repeat (first | apply Kd.R_alloc | apply Kd.R_drewN | apply Kd.R_drew)); exact HO181.out) (Kd.R_base ho0) hb)
              have n3_ := Aside0.mk (Kd.R_below (by (with_reducible repeat (first | apply Kd.R_alloc | apply Kd.R_drewN | apply Kd.R_drew)); exact HO187.out) hb)
              have n4_ := Aside0.mk (Kd.R_elder' (by (with_reducible repeat (first | apply Kd.R_alloc | apply Kd.R_drewN | apply Kd.R_drew)); exact HO191.out) (Kd.R_base ho0) hb)
              have n5_ := Aside0.mk (Kd.R_lower (Kd.R_new' (Kd.R_new' (Kd.R_new' ho0 (Kd.R_lt (by (with_reducible repeat (first | apply Kd.R_alloc | apply Kd.R_drewN | apply Kd.R_drew)); exact HO_170001.out))) (Kd.R_lt (by (with_reducible repeat (first | apply Kd.R_alloc | apply Kd.R_drewN | apply Kd.R_drew)); exact HO181.out))) (Kd.R_lt (by (with_reducible repeat (first | apply Kd.R_alloc | apply Kd.R_drewN | apply Kd.R_drew)); exact HO191.out))) (below_size (by repeat (first | (with_reducible first | exact HB.out | apply below_alloc | apply pw_below_drewN | apply below_drew1 | refine below_set ?_ GE163.out | refine below_set ?_ GE169.out | refine below_set ?_ GE177.out | refine below_set ?_ GE183.out | refine below_set ?_ GE193.out) | exact HB.out))))
              have n6_ := Aside0.mk (blk_below (g := gb163) (o := .cells #[.int .i64 a0_0, .slice A0_1 l0_1.length c0_1] 24 (0, 0)) (by (with_reducible repeat (first | refine blk_drewN ?_ _ | refine blk_drew ?_ | refine blk_alloc ?_ _)); exact BK163.out) hb)
              have n7_ := Aside0.mk (blk_below (g := gb169) (o := .cells #[.int .i64 t164, .slice Ao12 t165.length co12] 27 (0, 0)) (by (with_reducible repeat (first | refine blk_drewN ?_ _ | refine blk_drew ?_ | refine blk_alloc ?_ _)); exact BK169.out) hb)
              have n8_ := Aside0.mk (blk_below (g := gb177) (o := .cells #[.int .i64 t171, .slice Ao29 t172.length co29] 24 (0, 0)) (by (with_reducible repeat (first | refine blk_drewN ?_ _ | refine blk_drew ?_ | refine blk_alloc ?_ _)); exact BK177.out) hb)
              have n9_ := Aside0.mk (blk_below (g := gb183) (o := .cells #[.int .i64 t178, .slice Ao36 t179.length co36] 27 (0, 0)) (by (with_reducible repeat (first | refine blk_drewN ?_ _ | refine blk_drew ?_ | refine blk_alloc ?_ _)); exact BK183.out) hb)
              have n10_ := Aside0.mk (blk_below (g := gb193) (o := .cells #[.int .i64 t188, .slice Ao47 t189.length co47] 27 (0, 0)) (by (with_reducible repeat (first | refine blk_drewN ?_ _ | refine blk_drew ?_ | refine blk_alloc ?_ _)); exact BK193.out) hb)
              have n11_ := Aside0.mk (below_step (by repeat (first | (with_reducible first | exact HB.out | apply below_alloc | apply pw_below_drewN | apply below_drew1 | refine below_set ?_ GE163.out | refine below_set ?_ GE169.out | refine below_set ?_ GE177.out | refine below_set ?_ GE183.out | refine below_set ?_ GE193.out) | exact HB.out)) hb)
              clear HO_170001
              clear HO174
              clear HO181
              clear HO187
              clear HO191
              clear BK163
              clear BK169
              clear BK177
              clear BK183
              clear BK193
              clear HB
              have HO_170001 := n0_
              have HO174 := n1_
              have HO181 := n2_
              have HO187 := n3_
              have HO191 := n4_
              have HO197 := n5_
              have BK163 := n6_
              have BK169 := n7_
              have BK177 := n8_
              have BK183 := n9_
              have BK193 := n10_
              have HB := n11_
              clear n0_ n1_ n2_ n3_ n4_ n5_ n6_ n7_ n8_ n9_ n10_ n11_
              (try clear hb)
              (try clear hb2)
              (try clear hk)
              (try clear hi)
              (try clear ho0)
              obtain ⟨Ao57, co57, eo57⟩ := Kd.R_slice HO197.out
              (first | subst eo57 | (injection eo57 with f1_ f2_ f3_; have f4_ := f1_.symm; have f5_ := f3_.symm; clear f1_ f2_ f3_; subst f4_; subst f5_))
              refine hK.out _ _ ⟨(blk_cell BK193.out 0).trans rfl, (blk_cell BK193.out 1).trans rfl, (blk_cell BK169.out 0).trans rfl, (blk_cell BK169.out 1).trans rfl, (blk_cell BK163.out 0).trans rfl, (blk_cell BK163.out 1).trans rfl⟩ (fun hHeld => ?_)
              clear hK K
              refine norm_ (a' := ?_) ?_ ?_
              rotate_left
              · show Act.put _ (some 55) _ = _
                simp only [Act.put, List.setIfInBounds_toArray, List.set_cons_zero, List.set_cons_succ, i64_w, i32_w]
                rfl
              refine one_ (i := 7) (N := some 56) #[true, true, true, true, true, true, true, true, false, false, false, false, false, false, false, false, false] rfl rfl (one_of HT_.out (by kernel_rfl)) (by decide) (fun K hK => ?_)
              refine goes_ Try.func12 (by kernel_rfl) rfl #[.agg #[.int .i64 t188, .slice Ao47 t189.length co47], .agg #[.int .i64 t194, .slice Ao57 t195.length co57]] (by rfl) rfl rfl (by (try simp only [List.map_toArray, List.map_cons, List.map_nil]); first | done | rfl | (simp only [List.length_drop, List.length_take]; rfl)) ?_
              with_reducible refine (switchboardref10_Same.calls kj4 t188 _ _ t189 t194 _ _ t195 true _ ?side1 ?side2 ?side3 ?side4 A50.out).mono ?_
              (case side1 => repeat (first | exact (Kd.R_reads' HO191.out).2.2 | (with_reducible refine Kd.C_alloc ?_ _) | (with_reducible refine Kd.C_drewN ?_ _) | (with_reducible refine Kd.C_drew ?_)))
              (case side2 => exact (Kd.R_reads' HO191.out).2.1)
              (case side3 => repeat (first | exact (Kd.R_reads' HO197.out).2.2 | (with_reducible refine Kd.C_alloc ?_ _) | (with_reducible refine Kd.C_drewN ?_ _) | (with_reducible refine Kd.C_drew ?_)))
              (case side4 => exact (Kd.R_reads' HO197.out).2.1)
              rintro e w58 ⟨rfl, hb⟩
              refine ⟨_, rfl, ?_⟩
              have n0_ := Aside0.mk (Kd.R_below (by (with_reducible repeat (first | apply Kd.R_alloc | apply Kd.R_drewN | apply Kd.R_drew)); exact HO_170001.out) hb)
              have n1_ := Aside0.mk (Kd.V_below (by (with_reducible repeat (first | apply Kd.V_alloc | apply Kd.V_drewN | apply Kd.V_drew)); exact HO174.out) hb)
              have n2_ := Aside0.mk (Kd.R_below (by (with_reducible repeat (first | apply Kd.R_alloc | apply Kd.R_drewN | apply Kd.R_drew)); exact HO181.out) hb)
              have n3_ := Aside0.mk (Kd.R_below (by (with_reducible repeat (first | apply Kd.R_alloc | apply Kd.R_drewN | apply Kd.R_drew)); exact HO187.out) hb)
              have n4_ := Aside0.mk (Kd.R_below (by (with_reducible repeat (first | apply Kd.R_alloc | apply Kd.R_drewN | apply Kd.R_drew)); exact HO191.out) hb)
              have n5_ := Aside0.mk (Kd.R_below (by (with_reducible repeat (first | apply Kd.R_alloc | apply Kd.R_drewN | apply Kd.R_drew)); exact HO197.out) hb)
              have n6_ := Aside0.mk (blk_below (g := gb163) (o := .cells #[.int .i64 a0_0, .slice A0_1 l0_1.length c0_1] 24 (0, 0)) (by (with_reducible repeat (first | refine blk_drewN ?_ _ | refine blk_drew ?_ | refine blk_alloc ?_ _)); exact BK163.out) hb)
              have n7_ := Aside0.mk (blk_below (g := gb169) (o := .cells #[.int .i64 t164, .slice Ao12 t165.length co12] 27 (0, 0)) (by (with_reducible repeat (first | refine blk_drewN ?_ _ | refine blk_drew ?_ | refine blk_alloc ?_ _)); exact BK169.out) hb)
              have n8_ := Aside0.mk (blk_below (g := gb177) (o := .cells #[.int .i64 t171, .slice Ao29 t172.length co29] 24 (0, 0)) (by (with_reducible repeat (first | refine blk_drewN ?_ _ | refine blk_drew ?_ | refine blk_alloc ?_ _)); exact BK177.out) hb)
              have n9_ := Aside0.mk (blk_below (g := gb183) (o := .cells #[.int .i64 t178, .slice Ao36 t179.length co36] 27 (0, 0)) (by (with_reducible repeat (first | refine blk_drewN ?_ _ | refine blk_drew ?_ | refine blk_alloc ?_ _)); exact BK183.out) hb)
              have n10_ := Aside0.mk (blk_below (g := gb193) (o := .cells #[.int .i64 t188, .slice Ao47 t189.length co47] 27 (0, 0)) (by (with_reducible repeat (first | refine blk_drewN ?_ _ | refine blk_drew ?_ | refine blk_alloc ?_ _)); exact BK193.out) hb)
              have n11_ := Aside0.mk (below_step (by repeat (first | (with_reducible first | exact HB.out | apply below_alloc | apply pw_below_drewN | apply below_drew1 | refine below_set ?_ GE163.out | refine below_set ?_ GE169.out | refine below_set ?_ GE177.out | refine below_set ?_ GE183.out | refine below_set ?_ GE193.out) | exact HB.out)) hb)
              clear HO_170001
              clear HO174
              clear HO181
              clear HO187
              clear HO191
              clear HO197
              clear BK163
              clear BK169
              clear BK177
              clear BK183
              clear BK193
              clear HB
              have HO_170001 := n0_
              have HO174 := n1_
              have HO181 := n2_
              have HO187 := n3_
              have HO191 := n4_
              have HO197 := n5_
              have BK163 := n6_
              have BK169 := n7_
              have BK177 := n8_
              have BK183 := n9_
              have BK193 := n10_
              have HB := n11_
              clear n0_ n1_ n2_ n3_ n4_ n5_ n6_ n7_ n8_ n9_ n10_ n11_
              (try clear hb)
              (try clear hb2)
              (try clear hk)
              (try clear hi)
              refine hK.out _ _ ⟨(blk_cell BK193.out 0).trans rfl, (blk_cell BK193.out 1).trans rfl, (blk_cell BK169.out 0).trans rfl, (blk_cell BK169.out 1).trans rfl, (blk_cell BK163.out 0).trans rfl, (blk_cell BK163.out 1).trans rfl⟩ (fun hHeld => ?_)
              clear hK K
              refine norm_ (a' := ?_) ?_ ?_
              rotate_left
              · show Act.put _ (some 56) _ = _
                simp only [Act.put, List.setIfInBounds_toArray, List.set_cons_zero, List.set_cons_succ, i64_w, i32_w]
                rfl
              refine pure_ (i := 8) (N := some 57) (v := ?_) (a' := ?_) #[true, true, true, true, true, true, true, true, true, false, false, false, false, false, false, false, false] rfl rfl (any_of HT_.out (by kernel_rfl)) (fun _ _ _ h => h) (Or.inl ⟨by rfl, ?_⟩) ?_ ?_
              rotate_left
              · intro w'
                go_simp
                with_reducible rfl
              rotate_left
              · simp only [Act.put, List.setIfInBounds_toArray, List.set_cons_zero, List.set_cons_succ, i64_w, i32_w]
                rfl
              refine pure_ (i := 9) (N := some 58) (v := ?_) (a' := ?_) #[true, true, true, true, true, true, true, true, true, true, false, false, false, false, false, false, false] rfl rfl (any_of HT_.out (by kernel_rfl)) (fun _ _ _ h => h) (Or.inl ⟨by rfl, ?_⟩) ?_ ?_
              rotate_left
              · intro w'
                go_simp
                with_reducible rfl
              rotate_left
              · simp only [Act.put, List.setIfInBounds_toArray, List.set_cons_zero, List.set_cons_succ, i64_w, i32_w]
                rfl
              refine pure_ (i := 10) (N := some 59) (v := ?_) (a' := ?_) #[true, true, true, true, true, true, true, true, true, true, true, false, false, false, false, false, false] rfl rfl (any_of HT_.out (by kernel_rfl)) (fun _ _ _ h => h) (Or.inl ⟨by rfl, ?_⟩) ?_ ?_
              rotate_left
              · intro w'
                go_simp
                with_reducible rfl
              rotate_left
              · simp only [Act.put, List.setIfInBounds_toArray, List.set_cons_zero, List.set_cons_succ, i64_w, i32_w]
                rfl
              refine take_ (i := 11) (N := some 60) (v := ?_) (a' := ?_) #[true, true, true, true, true, true, true, true, true, true, true, true, false, false, false, false, false] rfl rfl (take_ofW HT_.out HW_.out (by kernel_rfl)) (fun _ _ _ h => h) (Or.inl ⟨by rfl, ?_⟩) hHeld ?_ ?_
              rotate_left
              · rintro w' ⟨s0, s1, s2, s3, s4, s5⟩
                go_simp
                with_reducible rfl
              rotate_left
              · simp only [Act.put, List.setIfInBounds_toArray, List.set_cons_zero, List.set_cons_succ, i64_w, i32_w]
                rfl
              refine take_ (i := 13) (N := some 62) (v := ?_) (a' := ?_) #[true, true, true, true, true, true, true, true, true, true, true, true, false, true, false, false, false] rfl rfl (take_ofW HT_.out HW_.out (by kernel_rfl)) (fun _ _ _ h => h) (Or.inl ⟨by rfl, ?_⟩) hHeld ?_ ?_
              rotate_left
              · rintro w' ⟨s0, s1, s2, s3, s4, s5⟩
                go_simp
                with_reducible rfl
              rotate_left
              · simp only [Act.put, List.setIfInBounds_toArray, List.set_cons_zero, List.set_cons_succ, i64_w, i32_w]
                rfl
              refine one_ (i := 12) (N := some 61) #[true, true, true, true, true, true, true, true, true, true, true, true, true, true, false, false, false] rfl rfl (one_of HT_.out (by kernel_rfl)) (by decide) (fun K hK => ?_)
              refine goes_ Try.func14 (by kernel_rfl) rfl #[.agg #[.int .i64 a0_0, .slice A0_1 l0_1.length c0_1]] (by rfl) rfl rfl (by (try simp only [List.map_toArray, List.map_cons, List.map_nil]); first | done | rfl | (simp only [List.length_drop, List.length_take]; rfl)) ?_
              with_reducible refine (link_Right.calls kj4 a0_0 _ _ l0_1 t199 _ ?side1 ?side2 A52.out).mono ?_
              (case side1 => repeat (first | exact (Kd.C_below HR0_1.out HB.out) | (with_reducible refine Kd.C_alloc ?_ _) | (with_reducible refine Kd.C_drewN ?_ _) | (with_reducible refine Kd.C_drew ?_)))
              (case side2 => exact HC0_1.out)
              rintro e w59 ⟨rfl, hb⟩
              refine ⟨_, rfl, ?_⟩
              have n0_ := Aside0.mk (Kd.R_below (by (with_reducible repeat (first | apply Kd.R_alloc | apply Kd.R_drewN | apply Kd.R_drew)); exact HO_170001.out) hb)
              have n1_ := Aside0.mk (Kd.V_below (by (with_reducible repeat (first | apply Kd.V_alloc | apply Kd.V_drewN | apply Kd.V_drew)); exact HO174.out) hb)
              have n2_ := Aside0.mk (Kd.R_below (by (with_reducible repeat (first | apply Kd.R_alloc | apply Kd.R_drewN | apply Kd.R_drew)); exact HO181.out) hb)
              have n3_ := Aside0.mk (Kd.R_below (by (with_reducible repeat (first | apply Kd.R_alloc | apply Kd.R_drewN | apply Kd.R_drew)); exact HO187.out) hb)
              have n4_ := Aside0.mk (Kd.R_below (by (with_reducible repeat (first | apply Kd.R_alloc | apply Kd.R_drewN | apply Kd.R_drew)); exact HO191.out) hb)
              have n5_ := Aside0.mk (Kd.R_below (by (with_reducible repeat (first | apply Kd.R_alloc | apply Kd.R_drewN | apply Kd.R_drew)); exact HO197.out) hb)
              have n6_ := Aside0.mk (blk_below (g := gb163) (o := .cells #[.int .i64 a0_0, .slice A0_1 l0_1.length c0_1] 24 (0, 0)) (by (with_reducible repeat (first | refine blk_drewN ?_ _ | refine blk_drew ?_ | refine blk_alloc ?_ _)); exact BK163.out) hb)
              have n7_ := Aside0.mk (blk_below (g := gb169) (o := .cells #[.int .i64 t164, .slice Ao12 t165.length co12] 27 (0, 0)) (by (with_reducible repeat (first | refine blk_drewN ?_ _ | refine blk_drew ?_ | refine blk_alloc ?_ _)); exact BK169.out) hb)
              have n8_ := Aside0.mk (blk_below (g := gb177) (o := .cells #[.int .i64 t171, .slice Ao29 t172.length co29] 24 (0, 0)) (by (with_reducible repeat (first | refine blk_drewN ?_ _ | refine blk_drew ?_ | refine blk_alloc ?_ _)); exact BK177.out) hb)
              have n9_ := Aside0.mk (blk_below (g := gb183) (o := .cells #[.int .i64 t178, .slice Ao36 t179.length co36] 27 (0, 0)) (by (with_reducible repeat (first | refine blk_drewN ?_ _ | refine blk_drew ?_ | refine blk_alloc ?_ _)); exact BK183.out) hb)
              have n10_ := Aside0.mk (blk_below (g := gb193) (o := .cells #[.int .i64 t188, .slice Ao47 t189.length co47] 27 (0, 0)) (by (with_reducible repeat (first | refine blk_drewN ?_ _ | refine blk_drew ?_ | refine blk_alloc ?_ _)); exact BK193.out) hb)
              have n11_ := Aside0.mk (below_step (by repeat (first | (with_reducible first | exact HB.out | apply below_alloc | apply pw_below_drewN | apply below_drew1 | refine below_set ?_ GE163.out | refine below_set ?_ GE169.out | refine below_set ?_ GE177.out | refine below_set ?_ GE183.out | refine below_set ?_ GE193.out) | exact HB.out)) hb)
              clear HO_170001
              clear HO174
              clear HO181
              clear HO187
              clear HO191
              clear HO197
              clear BK163
              clear BK169
              clear BK177
              clear BK183
              clear BK193
              clear HB
              have HO_170001 := n0_
              have HO174 := n1_
              have HO181 := n2_
              have HO187 := n3_
              have HO191 := n4_
              have HO197 := n5_
              have BK163 := n6_
              have BK169 := n7_
              have BK177 := n8_
              have BK183 := n9_
              have BK193 := n10_
              have HB := n11_
              clear n0_ n1_ n2_ n3_ n4_ n5_ n6_ n7_ n8_ n9_ n10_ n11_
              (try clear hb)
              (try clear hb2)
              (try clear hk)
              (try clear hi)
              refine hK.out _ _ ⟨(blk_cell BK193.out 0).trans rfl, (blk_cell BK193.out 1).trans rfl, (blk_cell BK169.out 0).trans rfl, (blk_cell BK169.out 1).trans rfl, (blk_cell BK163.out 0).trans rfl, (blk_cell BK163.out 1).trans rfl⟩ (fun hHeld => ?_)
              clear hK K
              refine norm_ (a' := ?_) ?_ ?_
              rotate_left
              · show Act.put _ (some 61) _ = _
                simp only [Act.put, List.setIfInBounds_toArray, List.set_cons_zero, List.set_cons_succ, i64_w, i32_w]
                rfl
              refine one_ (i := 14) (N := some 63) #[true, true, true, true, true, true, true, true, true, true, true, true, true, true, true, false, false] rfl rfl (one_of HT_.out (by kernel_rfl)) (by decide) (fun K hK => ?_)
              refine goes_ Try.func15 (by kernel_rfl) rfl #[.agg #[.int .i64 t164, .slice Ao12 t165.length co12]] (by rfl) rfl rfl (by (try simp only [List.map_toArray, List.map_cons, List.map_nil]); first | done | rfl | (simp only [List.length_drop, List.length_take]; rfl)) ?_
              with_reducible refine (switchboardref10_Right.calls kj4 t164 _ _ t165 t200 _ ?side1 ?side2 A53.out).mono ?_
              (case side1 => repeat (first | exact (Kd.R_reads' HO_170001.out).2.2 | (with_reducible refine Kd.C_alloc ?_ _) | (with_reducible refine Kd.C_drewN ?_ _) | (with_reducible refine Kd.C_drew ?_)))
              (case side2 => exact (Kd.R_reads' HO_170001.out).2.1)
              rintro e w60 ⟨rfl, hb⟩
              refine ⟨_, rfl, ?_⟩
              have n0_ := Aside0.mk (Kd.R_below (by (with_reducible repeat (first | apply Kd.R_alloc | apply Kd.R_drewN | apply Kd.R_drew)); exact HO_170001.out) hb)
              have n1_ := Aside0.mk (Kd.V_below (by (with_reducible repeat (first | apply Kd.V_alloc | apply Kd.V_drewN | apply Kd.V_drew)); exact HO174.out) hb)
              have n2_ := Aside0.mk (Kd.R_below (by (with_reducible repeat (first | apply Kd.R_alloc | apply Kd.R_drewN | apply Kd.R_drew)); exact HO181.out) hb)
              have n3_ := Aside0.mk (Kd.R_below (by (with_reducible repeat (first | apply Kd.R_alloc | apply Kd.R_drewN | apply Kd.R_drew)); exact HO187.out) hb)
              have n4_ := Aside0.mk (Kd.R_below (by (with_reducible repeat (first | apply Kd.R_alloc | apply Kd.R_drewN | apply Kd.R_drew)); exact HO191.out) hb)
              have n5_ := Aside0.mk (Kd.R_below (by (with_reducible repeat (first | apply Kd.R_alloc | apply Kd.R_drewN | apply Kd.R_drew)); exact HO197.out) hb)
              have n6_ := Aside0.mk (blk_below (g := gb163) (o := .cells #[.int .i64 a0_0, .slice A0_1 l0_1.length c0_1] 24 (0, 0)) (by (with_reducible repeat (first | refine blk_drewN ?_ _ | refine blk_drew ?_ | refine blk_alloc ?_ _)); exact BK163.out) hb)
              have n7_ := Aside0.mk (blk_below (g := gb169) (o := .cells #[.int .i64 t164, .slice Ao12 t165.length co12] 27 (0, 0)) (by (with_reducible repeat (first | refine blk_drewN ?_ _ | refine blk_drew ?_ | refine blk_alloc ?_ _)); exact BK169.out) hb)
              have n8_ := Aside0.mk (blk_below (g := gb177) (o := .cells #[.int .i64 t171, .slice Ao29 t172.length co29] 24 (0, 0)) (by (with_reducible repeat (first | refine blk_drewN ?_ _ | refine blk_drew ?_ | refine blk_alloc ?_ _)); exact BK177.out) hb)
              have n9_ := Aside0.mk (blk_below (g := gb183) (o := .cells #[.int .i64 t178, .slice Ao36 t179.length co36] 27 (0, 0)) (by (with_reducible repeat (first | refine blk_drewN ?_ _ | refine blk_drew ?_ | refine blk_alloc ?_ _)); exact BK183.out) hb)
              have n10_ := Aside0.mk (blk_below (g := gb193) (o := .cells #[.int .i64 t188, .slice Ao47 t189.length co47] 27 (0, 0)) (by (with_reducible repeat (first | refine blk_drewN ?_ _ | refine blk_drew ?_ | refine blk_alloc ?_ _)); exact BK193.out) hb)
              have n11_ := Aside0.mk (below_step (by repeat (first | (with_reducible first | exact HB.out | apply below_alloc | apply pw_below_drewN | apply below_drew1 | refine below_set ?_ GE163.out | refine below_set ?_ GE169.out | refine below_set ?_ GE177.out | refine below_set ?_ GE183.out | refine below_set ?_ GE193.out) | exact HB.out)) hb)
              clear HO_170001
              clear HO174
              clear HO181
              clear HO187
              clear HO191
              clear HO197
              clear BK163
              clear BK169
              clear BK177
              clear BK183
              clear BK193
              clear HB
              have HO_170001 := n0_
              have HO174 := n1_
              have HO181 := n2_
              have HO187 := n3_
              have HO191 := n4_
              have HO197 := n5_
              have BK163 := n6_
              have BK169 := n7_
              have BK177 := n8_
              have BK183 := n9_
              have BK193 := n10_
              have HB := n11_
              clear n0_ n1_ n2_ n3_ n4_ n5_ n6_ n7_ n8_ n9_ n10_ n11_
              (try clear hb)
              (try clear hb2)
              (try clear hk)
              (try clear hi)
              refine hK.out _ _ ⟨(blk_cell BK193.out 0).trans rfl, (blk_cell BK193.out 1).trans rfl, (blk_cell BK169.out 0).trans rfl, (blk_cell BK169.out 1).trans rfl, (blk_cell BK163.out 0).trans rfl, (blk_cell BK163.out 1).trans rfl⟩ (fun hHeld => ?_)
              clear hK K
              refine norm_ (a' := ?_) ?_ ?_
              rotate_left
              · show Act.put _ (some 63) _ = _
                simp only [Act.put, List.setIfInBounds_toArray, List.set_cons_zero, List.set_cons_succ, i64_w, i32_w]
                rfl
              refine pure_ (i := 15) (N := some 64) (v := ?_) (a' := ?_) #[true, true, true, true, true, true, true, true, true, true, true, true, true, true, true, true, false] rfl rfl (any_of HT_.out (by kernel_rfl)) (fun _ _ _ h => h) (Or.inl ⟨by rfl, ?_⟩) ?_ ?_
              rotate_left
              · intro w'
                go_simp
                with_reducible rfl
              rotate_left
              · simp only [Act.put, List.setIfInBounds_toArray, List.set_cons_zero, List.set_cons_succ, i64_w, i32_w]
                rfl
              refine pure_ (i := 16) (N := some 65) (v := ?_) (a' := ?_) #[true, true, true, true, true, true, true, true, true, true, true, true, true, true, true, true, true] rfl rfl (any_of HT_.out (by kernel_rfl)) (fun _ _ _ h => h) (Or.inl ⟨by rfl, ?_⟩) ?_ ?_
              rotate_left
              · intro w'
                go_simp
                with_reducible rfl
              rotate_left
              · simp only [Act.put, List.setIfInBounds_toArray, List.set_cons_zero, List.set_cons_succ, i64_w, i32_w]
                rfl
              refine done_ (done_of HT_.out (by kernel_rfl)) ?_
              try go_wp2
              go_meet
              case rel => exact ⟨_, ((t199 != t200)), (by first | rfl | (simp; done) | (simp [*]; done)), H', ⟨by have := HJ4.out; first | omega | exact Nat.le_refl _⟩, ⟨by (with_reducible repeat (first | apply Kd.R_alloc | apply Kd.R_drewN | apply Kd.R_drew)); exact Kd.R_mono HO_170001.out (fun _ hk => ⟨hk.1.1, hk.1.2⟩)⟩, ⟨by (with_reducible repeat (first | apply Kd.V_alloc | apply Kd.V_drewN | apply Kd.V_drew)); exact Kd.V_mono HO174.out (fun _ hk => ⟨hk.1.1, ⟨hk.1.2.1, ⟨hk.1.2.2.2.1, ⟨hk.1.2.2.2.2.1, ⟨hk.1.2.2.2.2.2.1, ⟨hk.1.2.2.2.2.2.2.1, ⟨hk.1.2.2.2.2.2.2.2.1, hk.1.2.2.2.2.2.2.2.2⟩⟩⟩⟩⟩⟩⟩)⟩, ⟨by (with_reducible repeat (first | apply Kd.R_alloc | apply Kd.R_drewN | apply Kd.R_drew)); exact Kd.R_mono HO181.out (fun _ hk => ⟨hk.1.1, hk.1.2⟩)⟩, ⟨by (with_reducible repeat (first | apply Kd.R_alloc | apply Kd.R_drewN | apply Kd.R_drew)); exact Kd.R_mono HO191.out (fun _ hk => ⟨hk.1.1, hk.1.2⟩)⟩, ⟨by (with_reducible repeat (first | refine blk_drewN ?_ _ | refine blk_drew ?_ | refine blk_alloc ?_ _)); exact BK163.out⟩, ⟨by (with_reducible repeat (first | refine blk_drewN ?_ _ | refine blk_drew ?_ | refine blk_alloc ?_ _)); exact BK169.out⟩, ⟨by (with_reducible repeat (first | refine blk_drewN ?_ _ | refine blk_drew ?_ | refine blk_alloc ?_ _)); exact BK177.out⟩, ⟨by (with_reducible repeat (first | refine blk_drewN ?_ _ | refine blk_drew ?_ | refine blk_alloc ?_ _)); exact BK183.out⟩, ⟨by (with_reducible repeat (first | refine blk_drewN ?_ _ | refine blk_drew ?_ | refine blk_alloc ?_ _)); exact BK193.out⟩, ⟨by repeat (first | (with_reducible first | exact HB.out | apply below_alloc | apply pw_below_drewN | apply below_drew1 | refine below_set ?_ GE163.out | refine below_set ?_ GE169.out | refine below_set ?_ GE177.out | refine below_set ?_ GE183.out | refine below_set ?_ GE193.out) | exact HB.out)⟩⟩
            · replace c51 := Bool.eq_false_iff.mpr c51
              subst c51
              have H1 : (switchboardlaw10_LinkExact.j1 kj4 a1 t175 t176 t182 true a0_0 l0_1 t164 t165 t178 t179) = some true := by rw [if_neg (show ¬ (false = true) by decide)] at H; exact H
              clear H
              have H := H1
              clear H1
              have H' := Aside0.mk H
              clear H
              try go_wp2
              have n0_ : Aside0 (Kd.R k40 40 ((w41.setCell ⟨gb193, 0, none⟩ (.int .i64 t188)).setCell ⟨gb193, 1, none⟩ (.slice Ao47 t189.length co47)) w.heap.size (fun k_ => some k_ ≠ (.slice Ao36 t179.length co36 : Value).ownBlock ∧ some k_ ≠ (.slice Ao47 t189.length co47 : Value).ownBlock) (.slice Ao12 t165.length co12) t165) := ⟨by (with_reducible repeat (first | apply Kd.R_alloc | apply Kd.R_drewN | apply Kd.R_drew)); exact Kd.R_mono (Kd.R_far (p := ⟨gb193, 1, none⟩) (Kd.R_far (p := ⟨gb193, 0, none⟩) (Kd.R_types HO_170001.out BK193.out (by decide)) (fun _ hk => hk.2) (.int .i64 t188)) (fun _ hk => hk.2) (.slice Ao47 t189.length co47)) (fun _ hk => ⟨hk.1.1.2, hk.1.2⟩)⟩
              have n1_ : Aside0 (Kd.V k45 45 ((w41.setCell ⟨gb193, 0, none⟩ (.int .i64 t188)).setCell ⟨gb193, 1, none⟩ (.slice Ao47 t189.length co47)) w.heap.size (fun k_ => some k_ ≠ (.slice Ao12 t165.length co12 : Value).ownBlock ∧ some k_ ≠ (.slice Ao36 t179.length co36 : Value).ownBlock ∧ some k_ ≠ (.slice Ao39 t185.length co39 : Value).ownBlock ∧ some k_ ≠ (.slice Ao47 t189.length co47 : Value).ownBlock ∧ k_ ≠ gb163 ∧ k_ ≠ gb169 ∧ k_ ≠ gb177 ∧ k_ ≠ gb183 ∧ k_ ≠ gb193) (.slice Ao29 t172.length co29) t172) := ⟨by (with_reducible repeat (first | apply Kd.V_alloc | apply Kd.V_drewN | apply Kd.V_drew)); exact Kd.V_mono (Kd.V_far (p := ⟨gb193, 1, none⟩) (Kd.V_far (p := ⟨gb193, 0, none⟩) (Kd.V_mono HO174.out (fun k_ hk => (⟨hk, hk.2⟩ : _ ∧ k_ ≠ gb193))) (fun _ hk => hk.2) (.int .i64 t188)) (fun _ hk => hk.2) (.slice Ao47 t189.length co47)) (fun _ hk => ⟨hk.1.1.1.1.1.1.1.1, ⟨hk.1.1.1.1.1.2, ⟨hk.1.1.1.2, ⟨hk.1.1.2, ⟨hk.1.1.1.1.1.1.1.2.1, ⟨hk.1.1.1.1.1.1.1.2.2, ⟨hk.1.1.1.1.1.1.2, ⟨hk.1.1.1.1.2, hk.1.2⟩⟩⟩⟩⟩⟩⟩⟩)⟩
              have n2_ : Aside0 (Kd.R k40 40 ((w41.setCell ⟨gb193, 0, none⟩ (.int .i64 t188)).setCell ⟨gb193, 1, none⟩ (.slice Ao47 t189.length co47)) w.heap.size (fun k_ => some k_ ≠ (.slice Ao12 t165.length co12 : Value).ownBlock ∧ some k_ ≠ (.slice Ao47 t189.length co47 : Value).ownBlock) (.slice Ao36 t179.length co36) t179) := ⟨by (with_reducible repeat (first | apply Kd.R_alloc | apply Kd.R_drewN | apply Kd.R_drew)); exact Kd.R_mono (Kd.R_far (p := ⟨gb193, 1, none⟩) (Kd.R_far (p := ⟨gb193, 0, none⟩) (Kd.R_types HO181.out BK193.out (by decide)) (fun _ hk => hk.2) (.int .i64 t188)) (fun _ hk => hk.2) (.slice Ao47 t189.length co47)) (fun _ hk => ⟨hk.1.1.2, hk.1.2⟩)⟩
              have n3_ : Aside0 (Kd.R k45 45 ((w41.setCell ⟨gb193, 0, none⟩ (.int .i64 t188)).setCell ⟨gb193, 1, none⟩ (.slice Ao47 t189.length co47)) w.heap.size (fun _ => True) (.slice Ao39 t185.length co39) t185) := ⟨by (with_reducible repeat (first | apply Kd.R_alloc | apply Kd.R_drewN | apply Kd.R_drew)); exact Kd.R_mono (Kd.R_far (p := ⟨gb193, 1, none⟩) (Kd.R_far (p := ⟨gb193, 0, none⟩) (Kd.R_types HO187.out BK193.out (by decide)) (fun _ hk => hk.2) (.int .i64 t188)) (fun _ hk => hk.2) (.slice Ao47 t189.length co47)) (fun _ hk => trivial)⟩
              have n4_ : Aside0 (Kd.R k40 40 ((w41.setCell ⟨gb193, 0, none⟩ (.int .i64 t188)).setCell ⟨gb193, 1, none⟩ (.slice Ao47 t189.length co47)) w.heap.size (fun k_ => some k_ ≠ (.slice Ao12 t165.length co12 : Value).ownBlock ∧ some k_ ≠ (.slice Ao36 t179.length co36 : Value).ownBlock) (.slice Ao47 t189.length co47) t189) := ⟨by (with_reducible repeat (first | apply Kd.R_alloc | apply Kd.R_drewN | apply Kd.R_drew)); exact Kd.R_mono (Kd.R_far (p := ⟨gb193, 1, none⟩) (Kd.R_far (p := ⟨gb193, 0, none⟩) (Kd.R_types HO191.out BK193.out (by decide)) (fun _ hk => hk.2) (.int .i64 t188)) (fun _ hk => hk.2) (.slice Ao47 t189.length co47)) (fun _ hk => ⟨hk.1.1.2, hk.1.2⟩)⟩
              have n5_ : Aside0 (((w41.setCell ⟨gb193, 0, none⟩ (.int .i64 t188)).setCell ⟨gb193, 1, none⟩ (.slice Ao47 t189.length co47)).heap[gb163]? = some (.cells #[.int .i64 a0_0, .slice A0_1 l0_1.length c0_1] 24 (0, 0))) := ⟨by (with_reducible repeat (first | refine blk_drewN ?_ _ | refine blk_drew ?_ | refine blk_alloc ?_ _)); refine blk_far ?_ NB163_193.out _; (with_reducible repeat (first | refine blk_drewN ?_ _ | refine blk_drew ?_ | refine blk_alloc ?_ _)); refine blk_far ?_ NB163_193.out _; (with_reducible repeat (first | refine blk_drewN ?_ _ | refine blk_drew ?_ | refine blk_alloc ?_ _)); exact BK163.out⟩
              have n6_ : Aside0 (((w41.setCell ⟨gb193, 0, none⟩ (.int .i64 t188)).setCell ⟨gb193, 1, none⟩ (.slice Ao47 t189.length co47)).heap[gb169]? = some (.cells #[.int .i64 t164, .slice Ao12 t165.length co12] 27 (0, 0))) := ⟨by (with_reducible repeat (first | refine blk_drewN ?_ _ | refine blk_drew ?_ | refine blk_alloc ?_ _)); refine blk_far ?_ NB169_193.out _; (with_reducible repeat (first | refine blk_drewN ?_ _ | refine blk_drew ?_ | refine blk_alloc ?_ _)); refine blk_far ?_ NB169_193.out _; (with_reducible repeat (first | refine blk_drewN ?_ _ | refine blk_drew ?_ | refine blk_alloc ?_ _)); exact BK169.out⟩
              have n7_ : Aside0 (((w41.setCell ⟨gb193, 0, none⟩ (.int .i64 t188)).setCell ⟨gb193, 1, none⟩ (.slice Ao47 t189.length co47)).heap[gb177]? = some (.cells #[.int .i64 t171, .slice Ao29 t172.length co29] 24 (0, 0))) := ⟨by (with_reducible repeat (first | refine blk_drewN ?_ _ | refine blk_drew ?_ | refine blk_alloc ?_ _)); refine blk_far ?_ NB177_193.out _; (with_reducible repeat (first | refine blk_drewN ?_ _ | refine blk_drew ?_ | refine blk_alloc ?_ _)); refine blk_far ?_ NB177_193.out _; (with_reducible repeat (first | refine blk_drewN ?_ _ | refine blk_drew ?_ | refine blk_alloc ?_ _)); exact BK177.out⟩
              have n8_ : Aside0 (((w41.setCell ⟨gb193, 0, none⟩ (.int .i64 t188)).setCell ⟨gb193, 1, none⟩ (.slice Ao47 t189.length co47)).heap[gb183]? = some (.cells #[.int .i64 t178, .slice Ao36 t179.length co36] 27 (0, 0))) := ⟨by (with_reducible repeat (first | refine blk_drewN ?_ _ | refine blk_drew ?_ | refine blk_alloc ?_ _)); refine blk_far ?_ NB183_193.out _; (with_reducible repeat (first | refine blk_drewN ?_ _ | refine blk_drew ?_ | refine blk_alloc ?_ _)); refine blk_far ?_ NB183_193.out _; (with_reducible repeat (first | refine blk_drewN ?_ _ | refine blk_drew ?_ | refine blk_alloc ?_ _)); exact BK183.out⟩
              have n9_ : Aside0 (((w41.setCell ⟨gb193, 0, none⟩ (.int .i64 t188)).setCell ⟨gb193, 1, none⟩ (.slice Ao47 t189.length co47)).heap[gb193]? = some (.cells #[.int .i64 t188, .slice Ao47 t189.length co47] 27 (0, 0))) := ⟨by (with_reducible repeat (first | refine blk_drewN ?_ _ | refine blk_drew ?_ | refine blk_alloc ?_ _)); refine blk_put (cs := #[.int .i64 t188, .slice none 0 0]) ?_ 1 _ rfl; (with_reducible repeat (first | refine blk_drewN ?_ _ | refine blk_drew ?_ | refine blk_alloc ?_ _)); refine blk_put (cs := #[.int .i64 0, .slice none 0 0]) ?_ 0 _ rfl; (with_reducible repeat (first | refine blk_drewN ?_ _ | refine blk_drew ?_ | refine blk_alloc ?_ _)); exact BK193.out⟩
              have n10_ : Aside0 (Below w.heap.size w ((w41.setCell ⟨gb193, 0, none⟩ (.int .i64 t188)).setCell ⟨gb193, 1, none⟩ (.slice Ao47 t189.length co47))) := ⟨by repeat (first | (with_reducible first | exact HB.out | apply below_alloc | apply pw_below_drewN | apply below_drew1 | refine below_set ?_ GE163.out | refine below_set ?_ GE169.out | refine below_set ?_ GE177.out | refine below_set ?_ GE183.out | refine below_set ?_ GE193.out) | exact HB.out)⟩
              (try clear HO_170001)
              (try clear HO174)
              (try clear HO181)
              (try clear HO187)
              (try clear HO191)
              (try clear BK163)
              (try clear BK169)
              (try clear BK177)
              (try clear BK183)
              (try clear BK193)
              (try clear HB)
              generalize ((w41.setCell ⟨gb193, 0, none⟩ (.int .i64 t188)).setCell ⟨gb193, 1, none⟩ (.slice Ao47 t189.length co47)) = w61 at n0_ n1_ n2_ n3_ n4_ n5_ n6_ n7_ n8_ n9_ n10_ ⊢
              have HO_170001 := n0_
              have HO174 := n1_
              have HO181 := n2_
              have HO187 := n3_
              have HO191 := n4_
              have BK163 := n5_
              have BK169 := n6_
              have BK177 := n7_
              have BK183 := n8_
              have BK193 := n9_
              have HB := n10_
              clear n0_ n1_ n2_ n3_ n4_ n5_ n6_ n7_ n8_ n9_ n10_
              have n0_ := Aside0.mk (Kd.R_drew HO_170001.out)
              have n1_ := Aside0.mk (Kd.V_drew HO174.out)
              have n2_ := Aside0.mk (Kd.R_drew HO181.out)
              have n3_ := Aside0.mk (Kd.R_drew HO187.out)
              have n4_ := Aside0.mk (Kd.R_drew HO191.out)
              have n5_ := Aside0.mk (blk_drew BK163.out)
              have n6_ := Aside0.mk (blk_drew BK169.out)
              have n7_ := Aside0.mk (blk_drew BK177.out)
              have n8_ := Aside0.mk (blk_drew BK183.out)
              have n9_ := Aside0.mk (blk_drew BK193.out)
              have n10_ := Aside0.mk (below_drew1 HB.out)
              clear HO_170001
              clear HO174
              clear HO181
              clear HO187
              clear HO191
              clear BK163
              clear BK169
              clear BK177
              clear BK183
              clear BK193
              clear HB
              have HO_170001 := n0_
              have HO174 := n1_
              have HO181 := n2_
              have HO187 := n3_
              have HO191 := n4_
              have BK163 := n5_
              have BK169 := n6_
              have BK177 := n7_
              have BK183 := n8_
              have BK193 := n9_
              have HB := n10_
              clear n0_ n1_ n2_ n3_ n4_ n5_ n6_ n7_ n8_ n9_ n10_
              refine start_ (n := 17) (S := fun w' => w'.cell? ⟨gb193, 0, none⟩ = some (.int .i64 t188) ∧ w'.cell? ⟨gb193, 1, none⟩ = some (.slice Ao47 t189.length co47) ∧ w'.cell? ⟨gb169, 0, none⟩ = some (.int .i64 t164) ∧ w'.cell? ⟨gb169, 1, none⟩ = some (.slice Ao12 t165.length co12)) (ds := []) #[false, false, false, false, false, false, false, false, false, false, false, false, false, false, false, false, false] (by kernel_rfl) rfl rfl ⟨(blk_cell BK193.out 0).trans rfl, (blk_cell BK193.out 1).trans rfl, (blk_cell BK169.out 0).trans rfl, (blk_cell BK169.out 1).trans rfl⟩ (fun hHeld => ?_); refine with_tabW switchboardlaw10_LinkExact.tab7 switchboardlaw10_LinkExact.bits7 (fun HT_ HW_ => ?_)
              generalize w61.drew = w62 at HO_170001 HO174 HO181 HO187 HO191 BK163 BK169 BK177 BK183 BK193 HB hHeld ⊢
              refine pure_ (i := 0) (N := some 49) (v := ?_) (a' := ?_) #[true, false, false, false, false, false, false, false, false, false, false, false, false, false, false, false, false] rfl rfl (any_of HT_.out (by kernel_rfl)) (fun _ _ _ h => h) (Or.inl ⟨by rfl, ?_⟩) ?_ ?_
              rotate_left
              · intro w'
                go_simp
                with_reducible rfl
              rotate_left
              · simp only [Act.put, List.setIfInBounds_toArray, List.set_cons_zero, List.set_cons_succ, i64_w, i32_w]
                rfl
              refine pure_ (i := 1) (N := some 50) (v := ?_) (a' := ?_) #[true, true, false, false, false, false, false, false, false, false, false, false, false, false, false, false, false] rfl rfl (any_of HT_.out (by kernel_rfl)) (fun _ _ _ h => h) (Or.inl ⟨by rfl, ?_⟩) ?_ ?_
              rotate_left
              · intro w'
                go_simp
                with_reducible rfl
              rotate_left
              · simp only [Act.put, List.setIfInBounds_toArray, List.set_cons_zero, List.set_cons_succ, i64_w, i32_w]
                rfl
              refine pure_ (i := 2) (N := some 51) (v := ?_) (a' := ?_) #[true, true, true, false, false, false, false, false, false, false, false, false, false, false, false, false, false] rfl rfl (any_of HT_.out (by kernel_rfl)) (fun _ _ _ h => h) (Or.inl ⟨by rfl, ?_⟩) ?_ ?_
              rotate_left
              · intro w'
                go_simp
                with_reducible rfl
              rotate_left
              · simp only [Act.put, List.setIfInBounds_toArray, List.set_cons_zero, List.set_cons_succ, i64_w, i32_w]
                rfl
              refine pure_ (i := 5) (N := some 54) (v := ?_) (a' := ?_) #[true, true, true, false, false, true, false, false, false, false, false, false, false, false, false, false, false] rfl rfl (any_of HT_.out (by kernel_rfl)) (fun _ _ _ h => h) (Or.inl ⟨by rfl, ?_⟩) ?_ ?_
              rotate_left
              · intro w'
                go_simp
                with_reducible rfl
              rotate_left
              · simp only [Act.put, List.setIfInBounds_toArray, List.set_cons_zero, List.set_cons_succ, i64_w, i32_w]
                rfl
              refine take_ (i := 3) (N := some 52) (v := ?_) (a' := ?_) #[true, true, true, true, false, true, false, false, false, false, false, false, false, false, false, false, false] rfl rfl (take_ofW HT_.out HW_.out (by kernel_rfl)) (fun _ _ _ h => h) (Or.inl ⟨by rfl, ?_⟩) hHeld ?_ ?_
              rotate_left
              · rintro w' ⟨s0, s1, s2, s3⟩
                go_simp
                with_reducible rfl
              rotate_left
              · simp only [Act.put, List.setIfInBounds_toArray, List.set_cons_zero, List.set_cons_succ, i64_w, i32_w]
                rfl
              refine take_ (i := 4) (N := some 53) (v := ?_) (a' := ?_) #[true, true, true, true, true, true, false, false, false, false, false, false, false, false, false, false, false] rfl rfl (take_ofW HT_.out HW_.out (by kernel_rfl)) (fun _ _ _ h => h) (Or.inl ⟨by rfl, ?_⟩) hHeld ?_ ?_
              rotate_left
              · rintro w' ⟨s0, s1, s2, s3⟩
                go_simp
                with_reducible rfl
              rotate_left
              · simp only [Act.put, List.setIfInBounds_toArray, List.set_cons_zero, List.set_cons_succ, i64_w, i32_w]
                rfl
              refine one_ (i := 6) (N := some 55) #[true, true, true, true, true, true, true, false, false, false, false, false, false, false, false, false, false] rfl rfl (one_of HT_.out (by kernel_rfl)) (by decide) (fun K hK => ?_)
              refine goes_ Try.func13 (by kernel_rfl) rfl #[.agg #[.int .i64 t164, .slice Ao12 t165.length co12], .int .i64 a2] (by rfl) rfl rfl (by (try simp only [List.map_toArray, List.map_cons, List.map_nil]); first | done | rfl | (simp only [List.length_drop, List.length_take]; rfl)) ?_
              with_reducible refine (switchboardref10_Told.calls kj4 t164 _ _ t165 a2 t194 t195 _ ?side1 ?side2 A49.out).mono ?_
              (case side1 => repeat (first | exact (Kd.R_reads' HO_170001.out).2.2 | (with_reducible refine Kd.C_alloc ?_ _) | (with_reducible refine Kd.C_drewN ?_ _) | (with_reducible refine Kd.C_drew ?_)))
              (case side2 => exact (Kd.R_reads' HO_170001.out).2.1)
              rintro e w63 ⟨v196, rfl, ho0, hb⟩
              refine ⟨_, rfl, ?_⟩
              have n0_ := Aside0.mk (Kd.R_elder' (by (with_reducible repeat (first | apply Kd.R_alloc | apply Kd.R_drewN | apply Kd.R_drew)); exact HO_170001.out) (Kd.R_base ho0) hb)
              have n1_ := Aside0.mk (Kd.V_elder' (by (with_reducible repeat (first | apply Kd.V_alloc | apply Kd.V_drewN | apply Kd.V_drew)); exact HO174.out) (Kd.R_base ho0) hb)
              have n2_ := Aside0.mk (Kd.R_elder' (by (with_reducible repeat (first | apply Kd.R_alloc | apply Kd.R_drewN | apply Kd.R_drew)); exact HO181.out) (Kd.R_base ho0) hb)
              have n3_ := Aside0.mk (Kd.R_below (by (with_reducible repeat (first | apply Kd.R_alloc | apply Kd.R_drewN | apply Kd.R_drew)); exact HO187.out) hb)
              have n4_ := Aside0.mk (Kd.R_elder' (by (with_reducible repeat (first | apply Kd.R_alloc | apply Kd.R_drewN | apply Kd.R_drew)); exact HO191.out) (Kd.R_base ho0) hb)
              have n5_ := Aside0.mk (Kd.R_lower (Kd.R_new' (Kd.R_new' (Kd.R_new' ho0 (Kd.R_lt (by (with_reducible repeat (first | apply Kd.R_alloc | apply Kd.R_drewN | apply Kd.R_drew)); exact HO_170001.out))) (Kd.R_lt (by (with_reducible repeat (first | apply Kd.R_alloc | apply Kd.R_drewN | apply Kd.R_drew)); exact HO181.out))) (Kd.R_lt (by (with_reducible repeat (first | apply Kd.R_alloc | apply Kd.R_drewN | apply Kd.R_drew)); exact HO191.out))) (below_size (by repeat (first | (with_reducible first | exact HB.out | apply below_alloc | apply pw_below_drewN | apply below_drew1 | refine below_set ?_ GE163.out | refine below_set ?_ GE169.out | refine below_set ?_ GE177.out | refine below_set ?_ GE183.out | refine below_set ?_ GE193.out) | exact HB.out))))
              have n6_ := Aside0.mk (blk_below (g := gb163) (o := .cells #[.int .i64 a0_0, .slice A0_1 l0_1.length c0_1] 24 (0, 0)) (by (with_reducible repeat (first | refine blk_drewN ?_ _ | refine blk_drew ?_ | refine blk_alloc ?_ _)); exact BK163.out) hb)
              have n7_ := Aside0.mk (blk_below (g := gb169) (o := .cells #[.int .i64 t164, .slice Ao12 t165.length co12] 27 (0, 0)) (by (with_reducible repeat (first | refine blk_drewN ?_ _ | refine blk_drew ?_ | refine blk_alloc ?_ _)); exact BK169.out) hb)
              have n8_ := Aside0.mk (blk_below (g := gb177) (o := .cells #[.int .i64 t171, .slice Ao29 t172.length co29] 24 (0, 0)) (by (with_reducible repeat (first | refine blk_drewN ?_ _ | refine blk_drew ?_ | refine blk_alloc ?_ _)); exact BK177.out) hb)
              have n9_ := Aside0.mk (blk_below (g := gb183) (o := .cells #[.int .i64 t178, .slice Ao36 t179.length co36] 27 (0, 0)) (by (with_reducible repeat (first | refine blk_drewN ?_ _ | refine blk_drew ?_ | refine blk_alloc ?_ _)); exact BK183.out) hb)
              have n10_ := Aside0.mk (blk_below (g := gb193) (o := .cells #[.int .i64 t188, .slice Ao47 t189.length co47] 27 (0, 0)) (by (with_reducible repeat (first | refine blk_drewN ?_ _ | refine blk_drew ?_ | refine blk_alloc ?_ _)); exact BK193.out) hb)
              have n11_ := Aside0.mk (below_step (by repeat (first | (with_reducible first | exact HB.out | apply below_alloc | apply pw_below_drewN | apply below_drew1 | refine below_set ?_ GE163.out | refine below_set ?_ GE169.out | refine below_set ?_ GE177.out | refine below_set ?_ GE183.out | refine below_set ?_ GE193.out) | exact HB.out)) hb)
              clear HO_170001
              clear HO174
              clear HO181
              clear HO187
              clear HO191
              clear BK163
              clear BK169
              clear BK177
              clear BK183
              clear BK193
              clear HB
              have HO_170001 := n0_
              have HO174 := n1_
              have HO181 := n2_
              have HO187 := n3_
              have HO191 := n4_
              have HO197 := n5_
              have BK163 := n6_
              have BK169 := n7_
              have BK177 := n8_
              have BK183 := n9_
              have BK193 := n10_
              have HB := n11_
              clear n0_ n1_ n2_ n3_ n4_ n5_ n6_ n7_ n8_ n9_ n10_ n11_
              (try clear hb)
              (try clear hb2)
              (try clear hk)
              (try clear hi)
              (try clear ho0)
              obtain ⟨Ao64, co64, eo64⟩ := Kd.R_slice HO197.out
              (first | subst eo64 | (injection eo64 with f1_ f2_ f3_; have f4_ := f1_.symm; have f5_ := f3_.symm; clear f1_ f2_ f3_; subst f4_; subst f5_))
              refine hK.out _ _ ⟨(blk_cell BK193.out 0).trans rfl, (blk_cell BK193.out 1).trans rfl, (blk_cell BK169.out 0).trans rfl, (blk_cell BK169.out 1).trans rfl⟩ (fun hHeld => ?_)
              clear hK K
              refine norm_ (a' := ?_) ?_ ?_
              rotate_left
              · show Act.put _ (some 55) _ = _
                simp only [Act.put, List.setIfInBounds_toArray, List.set_cons_zero, List.set_cons_succ, i64_w, i32_w]
                rfl
              refine one_ (i := 7) (N := some 56) #[true, true, true, true, true, true, true, true, false, false, false, false, false, false, false, false, false] rfl rfl (one_of HT_.out (by kernel_rfl)) (by decide) (fun K hK => ?_)
              refine goes_ Try.func12 (by kernel_rfl) rfl #[.agg #[.int .i64 t188, .slice Ao47 t189.length co47], .agg #[.int .i64 t194, .slice Ao64 t195.length co64]] (by rfl) rfl rfl (by (try simp only [List.map_toArray, List.map_cons, List.map_nil]); first | done | rfl | (simp only [List.length_drop, List.length_take]; rfl)) ?_
              with_reducible refine (switchboardref10_Same.calls kj4 t188 _ _ t189 t194 _ _ t195 false _ ?side1 ?side2 ?side3 ?side4 A50.out).mono ?_
              (case side1 => repeat (first | exact (Kd.R_reads' HO191.out).2.2 | (with_reducible refine Kd.C_alloc ?_ _) | (with_reducible refine Kd.C_drewN ?_ _) | (with_reducible refine Kd.C_drew ?_)))
              (case side2 => exact (Kd.R_reads' HO191.out).2.1)
              (case side3 => repeat (first | exact (Kd.R_reads' HO197.out).2.2 | (with_reducible refine Kd.C_alloc ?_ _) | (with_reducible refine Kd.C_drewN ?_ _) | (with_reducible refine Kd.C_drew ?_)))
              (case side4 => exact (Kd.R_reads' HO197.out).2.1)
              rintro e w65 ⟨rfl, hb⟩
              refine ⟨_, rfl, ?_⟩
              have n0_ := Aside0.mk (Kd.R_below (by (with_reducible repeat (first | apply Kd.R_alloc | apply Kd.R_drewN | apply Kd.R_drew)); exact HO_170001.out) hb)
              have n1_ := Aside0.mk (Kd.V_below (by (with_reducible repeat (first | apply Kd.V_alloc | apply Kd.V_drewN | apply Kd.V_drew)); exact HO174.out) hb)
              have n2_ := Aside0.mk (Kd.R_below (by (with_reducible repeat (first | apply Kd.R_alloc | apply Kd.R_drewN | apply Kd.R_drew)); exact HO181.out) hb)
              have n3_ := Aside0.mk (Kd.R_below (by (with_reducible repeat (first | apply Kd.R_alloc | apply Kd.R_drewN | apply Kd.R_drew)); exact HO187.out) hb)
              have n4_ := Aside0.mk (Kd.R_below (by (with_reducible repeat (first | apply Kd.R_alloc | apply Kd.R_drewN | apply Kd.R_drew)); exact HO191.out) hb)
              have n5_ := Aside0.mk (Kd.R_below (by (with_reducible repeat (first | apply Kd.R_alloc | apply Kd.R_drewN | apply Kd.R_drew)); exact HO197.out) hb)
              have n6_ := Aside0.mk (blk_below (g := gb163) (o := .cells #[.int .i64 a0_0, .slice A0_1 l0_1.length c0_1] 24 (0, 0)) (by (with_reducible repeat (first | refine blk_drewN ?_ _ | refine blk_drew ?_ | refine blk_alloc ?_ _)); exact BK163.out) hb)
              have n7_ := Aside0.mk (blk_below (g := gb169) (o := .cells #[.int .i64 t164, .slice Ao12 t165.length co12] 27 (0, 0)) (by (with_reducible repeat (first | refine blk_drewN ?_ _ | refine blk_drew ?_ | refine blk_alloc ?_ _)); exact BK169.out) hb)
              have n8_ := Aside0.mk (blk_below (g := gb177) (o := .cells #[.int .i64 t171, .slice Ao29 t172.length co29] 24 (0, 0)) (by (with_reducible repeat (first | refine blk_drewN ?_ _ | refine blk_drew ?_ | refine blk_alloc ?_ _)); exact BK177.out) hb)
              have n9_ := Aside0.mk (blk_below (g := gb183) (o := .cells #[.int .i64 t178, .slice Ao36 t179.length co36] 27 (0, 0)) (by (with_reducible repeat (first | refine blk_drewN ?_ _ | refine blk_drew ?_ | refine blk_alloc ?_ _)); exact BK183.out) hb)
              have n10_ := Aside0.mk (blk_below (g := gb193) (o := .cells #[.int .i64 t188, .slice Ao47 t189.length co47] 27 (0, 0)) (by (with_reducible repeat (first | refine blk_drewN ?_ _ | refine blk_drew ?_ | refine blk_alloc ?_ _)); exact BK193.out) hb)
              have n11_ := Aside0.mk (below_step (by repeat (first | (with_reducible first | exact HB.out | apply below_alloc | apply pw_below_drewN | apply below_drew1 | refine below_set ?_ GE163.out | refine below_set ?_ GE169.out | refine below_set ?_ GE177.out | refine below_set ?_ GE183.out | refine below_set ?_ GE193.out) | exact HB.out)) hb)
              clear HO_170001
              clear HO174
              clear HO181
              clear HO187
              clear HO191
              clear HO197
              clear BK163
              clear BK169
              clear BK177
              clear BK183
              clear BK193
              clear HB
              have HO_170001 := n0_
              have HO174 := n1_
              have HO181 := n2_
              have HO187 := n3_
              have HO191 := n4_
              have HO197 := n5_
              have BK163 := n6_
              have BK169 := n7_
              have BK177 := n8_
              have BK183 := n9_
              have BK193 := n10_
              have HB := n11_
              clear n0_ n1_ n2_ n3_ n4_ n5_ n6_ n7_ n8_ n9_ n10_ n11_
              (try clear hb)
              (try clear hb2)
              (try clear hk)
              (try clear hi)
              refine hK.out _ _ ⟨(blk_cell BK193.out 0).trans rfl, (blk_cell BK193.out 1).trans rfl, (blk_cell BK169.out 0).trans rfl, (blk_cell BK169.out 1).trans rfl⟩ (fun hHeld => ?_)
              clear hK K
              refine norm_ (a' := ?_) ?_ ?_
              rotate_left
              · show Act.put _ (some 56) _ = _
                simp only [Act.put, List.setIfInBounds_toArray, List.set_cons_zero, List.set_cons_succ, i64_w, i32_w]
                rfl
              refine pure_ (i := 8) (N := some 57) (v := ?_) (a' := ?_) #[true, true, true, true, true, true, true, true, true, false, false, false, false, false, false, false, false] rfl rfl (any_of HT_.out (by kernel_rfl)) (fun _ _ _ h => h) (Or.inl ⟨by rfl, ?_⟩) ?_ ?_
              rotate_left
              · intro w'
                go_simp
                with_reducible rfl
              rotate_left
              · simp only [Act.put, List.setIfInBounds_toArray, List.set_cons_zero, List.set_cons_succ, i64_w, i32_w]
                rfl
              refine pure_ (i := 9) (N := some 58) (v := ?_) (a' := ?_) #[true, true, true, true, true, true, true, true, true, true, false, false, false, false, false, false, false] rfl rfl (any_of HT_.out (by kernel_rfl)) (fun _ _ _ h => h) (Or.inl ⟨by rfl, ?_⟩) ?_ ?_
              rotate_left
              · intro w'
                go_simp
                with_reducible rfl
              rotate_left
              · simp only [Act.put, List.setIfInBounds_toArray, List.set_cons_zero, List.set_cons_succ, i64_w, i32_w]
                rfl
              refine pure_ (i := 10) (N := some 59) (v := ?_) (a' := ?_) #[true, true, true, true, true, true, true, true, true, true, true, false, false, false, false, false, false] rfl rfl (any_of HT_.out (by kernel_rfl)) (fun _ _ _ h => h) (Or.inl ⟨by rfl, ?_⟩) ?_ ?_
              rotate_left
              · intro w'
                go_simp
                with_reducible rfl
              rotate_left
              · simp only [Act.put, List.setIfInBounds_toArray, List.set_cons_zero, List.set_cons_succ, i64_w, i32_w]
                rfl
              refine pure_ (i := 11) (N := some 60) (v := undef) (a' := ?_) #[true, true, true, true, true, true, true, true, true, true, true, true, false, false, false, false, false] rfl rfl (any_of HT_.out (by kernel_rfl)) (fun _ _ _ h => h) (Or.inr ⟨by rfl, rfl⟩) ?_ ?_
              rotate_left
              · simp only [Act.put, List.setIfInBounds_toArray, List.set_cons_zero, List.set_cons_succ, i64_w, i32_w]
                rfl
              refine pure_ (i := 12) (N := some 61) (v := undef) (a' := ?_) #[true, true, true, true, true, true, true, true, true, true, true, true, true, false, false, false, false] rfl rfl (any_of HT_.out (by kernel_rfl)) (fun _ _ _ h => h) (Or.inr ⟨by rfl, rfl⟩) ?_ ?_
              rotate_left
              · simp only [Act.put, List.setIfInBounds_toArray, List.set_cons_zero, List.set_cons_succ, i64_w, i32_w]
                rfl
              refine pure_ (i := 13) (N := some 62) (v := undef) (a' := ?_) #[true, true, true, true, true, true, true, true, true, true, true, true, true, true, false, false, false] rfl rfl (any_of HT_.out (by kernel_rfl)) (fun _ _ _ h => h) (Or.inr ⟨by rfl, rfl⟩) ?_ ?_
              rotate_left
              · simp only [Act.put, List.setIfInBounds_toArray, List.set_cons_zero, List.set_cons_succ, i64_w, i32_w]
                rfl
              refine pure_ (i := 14) (N := some 63) (v := undef) (a' := ?_) #[true, true, true, true, true, true, true, true, true, true, true, true, true, true, true, false, false] rfl rfl (any_of HT_.out (by kernel_rfl)) (fun _ _ _ h => h) (Or.inr ⟨by rfl, rfl⟩) ?_ ?_
              rotate_left
              · simp only [Act.put, List.setIfInBounds_toArray, List.set_cons_zero, List.set_cons_succ, i64_w, i32_w]
                rfl
              refine pure_ (i := 15) (N := some 64) (v := undef) (a' := ?_) #[true, true, true, true, true, true, true, true, true, true, true, true, true, true, true, true, false] rfl rfl (any_of HT_.out (by kernel_rfl)) (fun _ _ _ h => h) (Or.inr ⟨by rfl, rfl⟩) ?_ ?_
              rotate_left
              · simp only [Act.put, List.setIfInBounds_toArray, List.set_cons_zero, List.set_cons_succ, i64_w, i32_w]
                rfl
              refine pure_ (i := 16) (N := some 65) (v := ?_) (a' := ?_) #[true, true, true, true, true, true, true, true, true, true, true, true, true, true, true, true, true] rfl rfl (any_of HT_.out (by kernel_rfl)) (fun _ _ _ h => h) (Or.inl ⟨by rfl, ?_⟩) ?_ ?_
              rotate_left
              · intro w'
                go_simp
                with_reducible rfl
              rotate_left
              · simp only [Act.put, List.setIfInBounds_toArray, List.set_cons_zero, List.set_cons_succ, i64_w, i32_w]
                rfl
              refine done_ (done_of HT_.out (by kernel_rfl)) ?_
              try go_wp2
              go_meet
              case rel => exact ⟨_, (true), (by first | rfl | (simp; done) | (simp [*]; done)), H', ⟨by have := HJ4.out; first | omega | exact Nat.le_refl _⟩, ⟨by (with_reducible repeat (first | apply Kd.R_alloc | apply Kd.R_drewN | apply Kd.R_drew)); exact Kd.R_mono HO_170001.out (fun _ hk => ⟨hk.1.1, hk.1.2⟩)⟩, ⟨by (with_reducible repeat (first | apply Kd.V_alloc | apply Kd.V_drewN | apply Kd.V_drew)); exact Kd.V_mono HO174.out (fun _ hk => ⟨hk.1.1, ⟨hk.1.2.1, ⟨hk.1.2.2.2.1, ⟨hk.1.2.2.2.2.1, ⟨hk.1.2.2.2.2.2.1, ⟨hk.1.2.2.2.2.2.2.1, ⟨hk.1.2.2.2.2.2.2.2.1, hk.1.2.2.2.2.2.2.2.2⟩⟩⟩⟩⟩⟩⟩)⟩, ⟨by (with_reducible repeat (first | apply Kd.R_alloc | apply Kd.R_drewN | apply Kd.R_drew)); exact Kd.R_mono HO181.out (fun _ hk => ⟨hk.1.1, hk.1.2⟩)⟩, ⟨by (with_reducible repeat (first | apply Kd.R_alloc | apply Kd.R_drewN | apply Kd.R_drew)); exact Kd.R_mono HO191.out (fun _ hk => ⟨hk.1.1, hk.1.2⟩)⟩, ⟨by (with_reducible repeat (first | refine blk_drewN ?_ _ | refine blk_drew ?_ | refine blk_alloc ?_ _)); exact BK163.out⟩, ⟨by (with_reducible repeat (first | refine blk_drewN ?_ _ | refine blk_drew ?_ | refine blk_alloc ?_ _)); exact BK169.out⟩, ⟨by (with_reducible repeat (first | refine blk_drewN ?_ _ | refine blk_drew ?_ | refine blk_alloc ?_ _)); exact BK177.out⟩, ⟨by (with_reducible repeat (first | refine blk_drewN ?_ _ | refine blk_drew ?_ | refine blk_alloc ?_ _)); exact BK183.out⟩, ⟨by (with_reducible repeat (first | refine blk_drewN ?_ _ | refine blk_drew ?_ | refine blk_alloc ?_ _)); exact BK193.out⟩, ⟨by repeat (first | (with_reducible first | exact HB.out | apply below_alloc | apply pw_below_drewN | apply below_drew1 | refine below_set ?_ GE163.out | refine below_set ?_ GE169.out | refine below_set ?_ GE177.out | refine below_set ?_ GE183.out | refine below_set ?_ GE193.out) | exact HB.out)⟩⟩
          · replace c48 := Bool.eq_false_iff.mpr c48
            subst c48
            have H1 : (switchboardlaw10_LinkExact.j1 kj4 a1 t175 t176 t182 true a0_0 l0_1 t164 t165 t178 t179) = some true := by rw [if_neg (show ¬ (false = true) by decide)] at H; exact H
            clear H
            have H := H1
            clear H1
            have H' := Aside0.mk H
            clear H
            try go_wp2
            have n0_ : Aside0 (Kd.R k40 40 ((w41.setCell ⟨gb193, 0, none⟩ (.int .i64 t188)).setCell ⟨gb193, 1, none⟩ (.slice Ao47 t189.length co47)) w.heap.size (fun k_ => some k_ ≠ (.slice Ao36 t179.length co36 : Value).ownBlock ∧ some k_ ≠ (.slice Ao47 t189.length co47 : Value).ownBlock) (.slice Ao12 t165.length co12) t165) := ⟨by (with_reducible repeat (first | apply Kd.R_alloc | apply Kd.R_drewN | apply Kd.R_drew)); exact Kd.R_mono (Kd.R_far (p := ⟨gb193, 1, none⟩) (Kd.R_far (p := ⟨gb193, 0, none⟩) (Kd.R_types HO_170001.out BK193.out (by decide)) (fun _ hk => hk.2) (.int .i64 t188)) (fun _ hk => hk.2) (.slice Ao47 t189.length co47)) (fun _ hk => ⟨hk.1.1.2, hk.1.2⟩)⟩
            have n1_ : Aside0 (Kd.V k45 45 ((w41.setCell ⟨gb193, 0, none⟩ (.int .i64 t188)).setCell ⟨gb193, 1, none⟩ (.slice Ao47 t189.length co47)) w.heap.size (fun k_ => some k_ ≠ (.slice Ao12 t165.length co12 : Value).ownBlock ∧ some k_ ≠ (.slice Ao36 t179.length co36 : Value).ownBlock ∧ some k_ ≠ (.slice Ao39 t185.length co39 : Value).ownBlock ∧ some k_ ≠ (.slice Ao47 t189.length co47 : Value).ownBlock ∧ k_ ≠ gb163 ∧ k_ ≠ gb169 ∧ k_ ≠ gb177 ∧ k_ ≠ gb183 ∧ k_ ≠ gb193) (.slice Ao29 t172.length co29) t172) := ⟨by (with_reducible repeat (first | apply Kd.V_alloc | apply Kd.V_drewN | apply Kd.V_drew)); exact Kd.V_mono (Kd.V_far (p := ⟨gb193, 1, none⟩) (Kd.V_far (p := ⟨gb193, 0, none⟩) (Kd.V_mono HO174.out (fun k_ hk => (⟨hk, hk.2⟩ : _ ∧ k_ ≠ gb193))) (fun _ hk => hk.2) (.int .i64 t188)) (fun _ hk => hk.2) (.slice Ao47 t189.length co47)) (fun _ hk => ⟨hk.1.1.1.1.1.1.1.1, ⟨hk.1.1.1.1.1.2, ⟨hk.1.1.1.2, ⟨hk.1.1.2, ⟨hk.1.1.1.1.1.1.1.2.1, ⟨hk.1.1.1.1.1.1.1.2.2, ⟨hk.1.1.1.1.1.1.2, ⟨hk.1.1.1.1.2, hk.1.2⟩⟩⟩⟩⟩⟩⟩⟩)⟩
            have n2_ : Aside0 (Kd.R k40 40 ((w41.setCell ⟨gb193, 0, none⟩ (.int .i64 t188)).setCell ⟨gb193, 1, none⟩ (.slice Ao47 t189.length co47)) w.heap.size (fun k_ => some k_ ≠ (.slice Ao12 t165.length co12 : Value).ownBlock ∧ some k_ ≠ (.slice Ao47 t189.length co47 : Value).ownBlock) (.slice Ao36 t179.length co36) t179) := ⟨by (with_reducible repeat (first | apply Kd.R_alloc | apply Kd.R_drewN | apply Kd.R_drew)); exact Kd.R_mono (Kd.R_far (p := ⟨gb193, 1, none⟩) (Kd.R_far (p := ⟨gb193, 0, none⟩) (Kd.R_types HO181.out BK193.out (by decide)) (fun _ hk => hk.2) (.int .i64 t188)) (fun _ hk => hk.2) (.slice Ao47 t189.length co47)) (fun _ hk => ⟨hk.1.1.2, hk.1.2⟩)⟩
            have n3_ : Aside0 (Kd.R k45 45 ((w41.setCell ⟨gb193, 0, none⟩ (.int .i64 t188)).setCell ⟨gb193, 1, none⟩ (.slice Ao47 t189.length co47)) w.heap.size (fun _ => True) (.slice Ao39 t185.length co39) t185) := ⟨by (with_reducible repeat (first | apply Kd.R_alloc | apply Kd.R_drewN | apply Kd.R_drew)); exact Kd.R_mono (Kd.R_far (p := ⟨gb193, 1, none⟩) (Kd.R_far (p := ⟨gb193, 0, none⟩) (Kd.R_types HO187.out BK193.out (by decide)) (fun _ hk => hk.2) (.int .i64 t188)) (fun _ hk => hk.2) (.slice Ao47 t189.length co47)) (fun _ hk => trivial)⟩
            have n4_ : Aside0 (Kd.R k40 40 ((w41.setCell ⟨gb193, 0, none⟩ (.int .i64 t188)).setCell ⟨gb193, 1, none⟩ (.slice Ao47 t189.length co47)) w.heap.size (fun k_ => some k_ ≠ (.slice Ao12 t165.length co12 : Value).ownBlock ∧ some k_ ≠ (.slice Ao36 t179.length co36 : Value).ownBlock) (.slice Ao47 t189.length co47) t189) := ⟨by (with_reducible repeat (first | apply Kd.R_alloc | apply Kd.R_drewN | apply Kd.R_drew)); exact Kd.R_mono (Kd.R_far (p := ⟨gb193, 1, none⟩) (Kd.R_far (p := ⟨gb193, 0, none⟩) (Kd.R_types HO191.out BK193.out (by decide)) (fun _ hk => hk.2) (.int .i64 t188)) (fun _ hk => hk.2) (.slice Ao47 t189.length co47)) (fun _ hk => ⟨hk.1.1.2, hk.1.2⟩)⟩
            have n5_ : Aside0 (((w41.setCell ⟨gb193, 0, none⟩ (.int .i64 t188)).setCell ⟨gb193, 1, none⟩ (.slice Ao47 t189.length co47)).heap[gb163]? = some (.cells #[.int .i64 a0_0, .slice A0_1 l0_1.length c0_1] 24 (0, 0))) := ⟨by (with_reducible repeat (first | refine blk_drewN ?_ _ | refine blk_drew ?_ | refine blk_alloc ?_ _)); refine blk_far ?_ NB163_193.out _; (with_reducible repeat (first | refine blk_drewN ?_ _ | refine blk_drew ?_ | refine blk_alloc ?_ _)); refine blk_far ?_ NB163_193.out _; (with_reducible repeat (first | refine blk_drewN ?_ _ | refine blk_drew ?_ | refine blk_alloc ?_ _)); exact BK163.out⟩
            have n6_ : Aside0 (((w41.setCell ⟨gb193, 0, none⟩ (.int .i64 t188)).setCell ⟨gb193, 1, none⟩ (.slice Ao47 t189.length co47)).heap[gb169]? = some (.cells #[.int .i64 t164, .slice Ao12 t165.length co12] 27 (0, 0))) := ⟨by (with_reducible repeat (first | refine blk_drewN ?_ _ | refine blk_drew ?_ | refine blk_alloc ?_ _)); refine blk_far ?_ NB169_193.out _; (with_reducible repeat (first | refine blk_drewN ?_ _ | refine blk_drew ?_ | refine blk_alloc ?_ _)); refine blk_far ?_ NB169_193.out _; (with_reducible repeat (first | refine blk_drewN ?_ _ | refine blk_drew ?_ | refine blk_alloc ?_ _)); exact BK169.out⟩
            have n7_ : Aside0 (((w41.setCell ⟨gb193, 0, none⟩ (.int .i64 t188)).setCell ⟨gb193, 1, none⟩ (.slice Ao47 t189.length co47)).heap[gb177]? = some (.cells #[.int .i64 t171, .slice Ao29 t172.length co29] 24 (0, 0))) := ⟨by (with_reducible repeat (first | refine blk_drewN ?_ _ | refine blk_drew ?_ | refine blk_alloc ?_ _)); refine blk_far ?_ NB177_193.out _; (with_reducible repeat (first | refine blk_drewN ?_ _ | refine blk_drew ?_ | refine blk_alloc ?_ _)); refine blk_far ?_ NB177_193.out _; (with_reducible repeat (first | refine blk_drewN ?_ _ | refine blk_drew ?_ | refine blk_alloc ?_ _)); exact BK177.out⟩
            have n8_ : Aside0 (((w41.setCell ⟨gb193, 0, none⟩ (.int .i64 t188)).setCell ⟨gb193, 1, none⟩ (.slice Ao47 t189.length co47)).heap[gb183]? = some (.cells #[.int .i64 t178, .slice Ao36 t179.length co36] 27 (0, 0))) := ⟨by (with_reducible repeat (first | refine blk_drewN ?_ _ | refine blk_drew ?_ | refine blk_alloc ?_ _)); refine blk_far ?_ NB183_193.out _; (with_reducible repeat (first | refine blk_drewN ?_ _ | refine blk_drew ?_ | refine blk_alloc ?_ _)); refine blk_far ?_ NB183_193.out _; (with_reducible repeat (first | refine blk_drewN ?_ _ | refine blk_drew ?_ | refine blk_alloc ?_ _)); exact BK183.out⟩
            have n9_ : Aside0 (((w41.setCell ⟨gb193, 0, none⟩ (.int .i64 t188)).setCell ⟨gb193, 1, none⟩ (.slice Ao47 t189.length co47)).heap[gb193]? = some (.cells #[.int .i64 t188, .slice Ao47 t189.length co47] 27 (0, 0))) := ⟨by (with_reducible repeat (first | refine blk_drewN ?_ _ | refine blk_drew ?_ | refine blk_alloc ?_ _)); refine blk_put (cs := #[.int .i64 t188, .slice none 0 0]) ?_ 1 _ rfl; (with_reducible repeat (first | refine blk_drewN ?_ _ | refine blk_drew ?_ | refine blk_alloc ?_ _)); refine blk_put (cs := #[.int .i64 0, .slice none 0 0]) ?_ 0 _ rfl; (with_reducible repeat (first | refine blk_drewN ?_ _ | refine blk_drew ?_ | refine blk_alloc ?_ _)); exact BK193.out⟩
            have n10_ : Aside0 (Below w.heap.size w ((w41.setCell ⟨gb193, 0, none⟩ (.int .i64 t188)).setCell ⟨gb193, 1, none⟩ (.slice Ao47 t189.length co47))) := ⟨by repeat (first | (with_reducible first | exact HB.out | apply below_alloc | apply pw_below_drewN | apply below_drew1 | refine below_set ?_ GE163.out | refine below_set ?_ GE169.out | refine below_set ?_ GE177.out | refine below_set ?_ GE183.out | refine below_set ?_ GE193.out) | exact HB.out)⟩
            (try clear HO_170001)
            (try clear HO174)
            (try clear HO181)
            (try clear HO187)
            (try clear HO191)
            (try clear BK163)
            (try clear BK169)
            (try clear BK177)
            (try clear BK183)
            (try clear BK193)
            (try clear HB)
            generalize ((w41.setCell ⟨gb193, 0, none⟩ (.int .i64 t188)).setCell ⟨gb193, 1, none⟩ (.slice Ao47 t189.length co47)) = w66 at n0_ n1_ n2_ n3_ n4_ n5_ n6_ n7_ n8_ n9_ n10_ ⊢
            have HO_170001 := n0_
            have HO174 := n1_
            have HO181 := n2_
            have HO187 := n3_
            have HO191 := n4_
            have BK163 := n5_
            have BK169 := n6_
            have BK177 := n7_
            have BK183 := n8_
            have BK193 := n9_
            have HB := n10_
            clear n0_ n1_ n2_ n3_ n4_ n5_ n6_ n7_ n8_ n9_ n10_
            have n0_ := Aside0.mk (Kd.R_drew HO_170001.out)
            have n1_ := Aside0.mk (Kd.V_drew HO174.out)
            have n2_ := Aside0.mk (Kd.R_drew HO181.out)
            have n3_ := Aside0.mk (Kd.R_drew HO187.out)
            have n4_ := Aside0.mk (Kd.R_drew HO191.out)
            have n5_ := Aside0.mk (blk_drew BK163.out)
            have n6_ := Aside0.mk (blk_drew BK169.out)
            have n7_ := Aside0.mk (blk_drew BK177.out)
            have n8_ := Aside0.mk (blk_drew BK183.out)
            have n9_ := Aside0.mk (blk_drew BK193.out)
            have n10_ := Aside0.mk (below_drew1 HB.out)
            clear HO_170001
            clear HO174
            clear HO181
            clear HO187
            clear HO191
            clear BK163
            clear BK169
            clear BK177
            clear BK183
            clear BK193
            clear HB
            have HO_170001 := n0_
            have HO174 := n1_
            have HO181 := n2_
            have HO187 := n3_
            have HO191 := n4_
            have BK163 := n5_
            have BK169 := n6_
            have BK177 := n7_
            have BK183 := n8_
            have BK193 := n9_
            have HB := n10_
            clear n0_ n1_ n2_ n3_ n4_ n5_ n6_ n7_ n8_ n9_ n10_
            refine start_ (n := 17) (S := fun w' => True) (ds := []) #[false, false, false, false, false, false, false, false, false, false, false, false, false, false, false, false, false] (by kernel_rfl) rfl rfl trivial (fun hHeld => ?_); refine with_tabW switchboardlaw10_LinkExact.tab7 switchboardlaw10_LinkExact.bits7 (fun HT_ HW_ => ?_)
            generalize w66.drew = w67 at HO_170001 HO174 HO181 HO187 HO191 BK163 BK169 BK177 BK183 BK193 HB hHeld ⊢
            refine pure_ (i := 0) (N := some 49) (v := ?_) (a' := ?_) #[true, false, false, false, false, false, false, false, false, false, false, false, false, false, false, false, false] rfl rfl (any_of HT_.out (by kernel_rfl)) (fun _ _ _ h => h) (Or.inl ⟨by rfl, ?_⟩) ?_ ?_
            rotate_left
            · intro w'
              go_simp
              with_reducible rfl
            rotate_left
            · simp only [Act.put, List.setIfInBounds_toArray, List.set_cons_zero, List.set_cons_succ, i64_w, i32_w]
              rfl
            refine pure_ (i := 1) (N := some 50) (v := ?_) (a' := ?_) #[true, true, false, false, false, false, false, false, false, false, false, false, false, false, false, false, false] rfl rfl (any_of HT_.out (by kernel_rfl)) (fun _ _ _ h => h) (Or.inl ⟨by rfl, ?_⟩) ?_ ?_
            rotate_left
            · intro w'
              go_simp
              with_reducible rfl
            rotate_left
            · simp only [Act.put, List.setIfInBounds_toArray, List.set_cons_zero, List.set_cons_succ, i64_w, i32_w]
              rfl
            refine pure_ (i := 2) (N := some 51) (v := ?_) (a' := ?_) #[true, true, true, false, false, false, false, false, false, false, false, false, false, false, false, false, false] rfl rfl (any_of HT_.out (by kernel_rfl)) (fun _ _ _ h => h) (Or.inl ⟨by rfl, ?_⟩) ?_ ?_
            rotate_left
            · intro w'
              go_simp
              with_reducible rfl
            rotate_left
            · simp only [Act.put, List.setIfInBounds_toArray, List.set_cons_zero, List.set_cons_succ, i64_w, i32_w]
              rfl
            refine pure_ (i := 3) (N := some 52) (v := undef) (a' := ?_) #[true, true, true, true, false, false, false, false, false, false, false, false, false, false, false, false, false] rfl rfl (any_of HT_.out (by kernel_rfl)) (fun _ _ _ h => h) (Or.inr ⟨by rfl, rfl⟩) ?_ ?_
            rotate_left
            · simp only [Act.put, List.setIfInBounds_toArray, List.set_cons_zero, List.set_cons_succ, i64_w, i32_w]
              rfl
            refine pure_ (i := 4) (N := some 53) (v := undef) (a' := ?_) #[true, true, true, true, true, false, false, false, false, false, false, false, false, false, false, false, false] rfl rfl (any_of HT_.out (by kernel_rfl)) (fun _ _ _ h => h) (Or.inr ⟨by rfl, rfl⟩) ?_ ?_
            rotate_left
            · simp only [Act.put, List.setIfInBounds_toArray, List.set_cons_zero, List.set_cons_succ, i64_w, i32_w]
              rfl
            refine pure_ (i := 5) (N := some 54) (v := undef) (a' := ?_) #[true, true, true, true, true, true, false, false, false, false, false, false, false, false, false, false, false] rfl rfl (any_of HT_.out (by kernel_rfl)) (fun _ _ _ h => h) (Or.inr ⟨by rfl, rfl⟩) ?_ ?_
            rotate_left
            · simp only [Act.put, List.setIfInBounds_toArray, List.set_cons_zero, List.set_cons_succ, i64_w, i32_w]
              rfl
            refine pure_ (i := 6) (N := some 55) (v := undef) (a' := ?_) #[true, true, true, true, true, true, true, false, false, false, false, false, false, false, false, false, false] rfl rfl (any_of HT_.out (by kernel_rfl)) (fun _ _ _ h => h) (Or.inr ⟨by rfl, rfl⟩) ?_ ?_
            rotate_left
            · simp only [Act.put, List.setIfInBounds_toArray, List.set_cons_zero, List.set_cons_succ, i64_w, i32_w]
              rfl
            refine pure_ (i := 7) (N := some 56) (v := undef) (a' := ?_) #[true, true, true, true, true, true, true, true, false, false, false, false, false, false, false, false, false] rfl rfl (any_of HT_.out (by kernel_rfl)) (fun _ _ _ h => h) (Or.inr ⟨by rfl, rfl⟩) ?_ ?_
            rotate_left
            · simp only [Act.put, List.setIfInBounds_toArray, List.set_cons_zero, List.set_cons_succ, i64_w, i32_w]
              rfl
            refine pure_ (i := 8) (N := some 57) (v := undef) (a' := ?_) #[true, true, true, true, true, true, true, true, true, false, false, false, false, false, false, false, false] rfl rfl (any_of HT_.out (by kernel_rfl)) (fun _ _ _ h => h) (Or.inr ⟨by rfl, rfl⟩) ?_ ?_
            rotate_left
            · simp only [Act.put, List.setIfInBounds_toArray, List.set_cons_zero, List.set_cons_succ, i64_w, i32_w]
              rfl
            refine pure_ (i := 9) (N := some 58) (v := ?_) (a' := ?_) #[true, true, true, true, true, true, true, true, true, true, false, false, false, false, false, false, false] rfl rfl (any_of HT_.out (by kernel_rfl)) (fun _ _ _ h => h) (Or.inl ⟨by rfl, ?_⟩) ?_ ?_
            rotate_left
            · intro w'
              go_simp
              with_reducible rfl
            rotate_left
            · simp only [Act.put, List.setIfInBounds_toArray, List.set_cons_zero, List.set_cons_succ, i64_w, i32_w]
              rfl
            refine pure_ (i := 10) (N := some 59) (v := ?_) (a' := ?_) #[true, true, true, true, true, true, true, true, true, true, true, false, false, false, false, false, false] rfl rfl (any_of HT_.out (by kernel_rfl)) (fun _ _ _ h => h) (Or.inl ⟨by rfl, ?_⟩) ?_ ?_
            rotate_left
            · intro w'
              go_simp
              with_reducible rfl
            rotate_left
            · simp only [Act.put, List.setIfInBounds_toArray, List.set_cons_zero, List.set_cons_succ, i64_w, i32_w]
              rfl
            refine pure_ (i := 11) (N := some 60) (v := undef) (a' := ?_) #[true, true, true, true, true, true, true, true, true, true, true, true, false, false, false, false, false] rfl rfl (any_of HT_.out (by kernel_rfl)) (fun _ _ _ h => h) (Or.inr ⟨by rfl, rfl⟩) ?_ ?_
            rotate_left
            · simp only [Act.put, List.setIfInBounds_toArray, List.set_cons_zero, List.set_cons_succ, i64_w, i32_w]
              rfl
            refine pure_ (i := 12) (N := some 61) (v := undef) (a' := ?_) #[true, true, true, true, true, true, true, true, true, true, true, true, true, false, false, false, false] rfl rfl (any_of HT_.out (by kernel_rfl)) (fun _ _ _ h => h) (Or.inr ⟨by rfl, rfl⟩) ?_ ?_
            rotate_left
            · simp only [Act.put, List.setIfInBounds_toArray, List.set_cons_zero, List.set_cons_succ, i64_w, i32_w]
              rfl
            refine pure_ (i := 13) (N := some 62) (v := undef) (a' := ?_) #[true, true, true, true, true, true, true, true, true, true, true, true, true, true, false, false, false] rfl rfl (any_of HT_.out (by kernel_rfl)) (fun _ _ _ h => h) (Or.inr ⟨by rfl, rfl⟩) ?_ ?_
            rotate_left
            · simp only [Act.put, List.setIfInBounds_toArray, List.set_cons_zero, List.set_cons_succ, i64_w, i32_w]
              rfl
            refine pure_ (i := 14) (N := some 63) (v := undef) (a' := ?_) #[true, true, true, true, true, true, true, true, true, true, true, true, true, true, true, false, false] rfl rfl (any_of HT_.out (by kernel_rfl)) (fun _ _ _ h => h) (Or.inr ⟨by rfl, rfl⟩) ?_ ?_
            rotate_left
            · simp only [Act.put, List.setIfInBounds_toArray, List.set_cons_zero, List.set_cons_succ, i64_w, i32_w]
              rfl
            refine pure_ (i := 15) (N := some 64) (v := undef) (a' := ?_) #[true, true, true, true, true, true, true, true, true, true, true, true, true, true, true, true, false] rfl rfl (any_of HT_.out (by kernel_rfl)) (fun _ _ _ h => h) (Or.inr ⟨by rfl, rfl⟩) ?_ ?_
            rotate_left
            · simp only [Act.put, List.setIfInBounds_toArray, List.set_cons_zero, List.set_cons_succ, i64_w, i32_w]
              rfl
            refine pure_ (i := 16) (N := some 65) (v := ?_) (a' := ?_) #[true, true, true, true, true, true, true, true, true, true, true, true, true, true, true, true, true] rfl rfl (any_of HT_.out (by kernel_rfl)) (fun _ _ _ h => h) (Or.inl ⟨by rfl, ?_⟩) ?_ ?_
            rotate_left
            · intro w'
              go_simp
              with_reducible rfl
            rotate_left
            · simp only [Act.put, List.setIfInBounds_toArray, List.set_cons_zero, List.set_cons_succ, i64_w, i32_w]
              rfl
            refine done_ (done_of HT_.out (by kernel_rfl)) ?_
            try go_wp2
            go_meet
            case rel => exact ⟨_, (true), (by first | rfl | (simp; done) | (simp [*]; done)), H', ⟨by have := HJ4.out; first | omega | exact Nat.le_refl _⟩, ⟨by (with_reducible repeat (first | apply Kd.R_alloc | apply Kd.R_drewN | apply Kd.R_drew)); exact HO_170001.out⟩, ⟨by (with_reducible repeat (first | apply Kd.V_alloc | apply Kd.V_drewN | apply Kd.V_drew)); exact Kd.V_mono HO174.out (fun _ hk => ⟨hk.1, ⟨hk.2.1, ⟨hk.2.2.2.1, ⟨hk.2.2.2.2.1, ⟨hk.2.2.2.2.2.1, ⟨hk.2.2.2.2.2.2.1, ⟨hk.2.2.2.2.2.2.2.1, hk.2.2.2.2.2.2.2.2⟩⟩⟩⟩⟩⟩⟩)⟩, ⟨by (with_reducible repeat (first | apply Kd.R_alloc | apply Kd.R_drewN | apply Kd.R_drew)); exact HO181.out⟩, ⟨by (with_reducible repeat (first | apply Kd.R_alloc | apply Kd.R_drewN | apply Kd.R_drew)); exact HO191.out⟩, ⟨by (with_reducible repeat (first | refine blk_drewN ?_ _ | refine blk_drew ?_ | refine blk_alloc ?_ _)); exact BK163.out⟩, ⟨by (with_reducible repeat (first | refine blk_drewN ?_ _ | refine blk_drew ?_ | refine blk_alloc ?_ _)); exact BK169.out⟩, ⟨by (with_reducible repeat (first | refine blk_drewN ?_ _ | refine blk_drew ?_ | refine blk_alloc ?_ _)); exact BK177.out⟩, ⟨by (with_reducible repeat (first | refine blk_drewN ?_ _ | refine blk_drew ?_ | refine blk_alloc ?_ _)); exact BK183.out⟩, ⟨by (with_reducible repeat (first | refine blk_drewN ?_ _ | refine blk_drew ?_ | refine blk_alloc ?_ _)); exact BK193.out⟩, ⟨by repeat (first | (with_reducible first | exact HB.out | apply below_alloc | apply pw_below_drewN | apply below_drew1 | refine below_set ?_ GE163.out | refine below_set ?_ GE169.out | refine below_set ?_ GE177.out | refine below_set ?_ GE183.out | refine below_set ?_ GE193.out) | exact HB.out)⟩⟩
        case rest =>
          clear HC21
          try clear c1
          try clear p2
          try clear c4
          try clear c5
          try clear c12
          try clear c13
          try clear c15
          try clear c48
          try clear c51
          obtain ⟨kq, x65_20, rfl, HA, HJ20, HO_170001, HO_178001, HO_184001, HO_194001, BK163, BK169, BK177, BK183, BK193, HB⟩ := hcut
          cases kq with
          | zero => exact absurd HA.out (by simp [switchboardlaw10_LinkExact.j1])
          | succ kj20 =>
            have H := HA.out
            clear HA
            simp only [switchboardlaw10_LinkExact.j1] at H
            by_cases c68 : x65_20 = true
            · subst c68
              have H1 : (some false) = some true := by rw [if_pos rfl] at H; exact H
              clear H
              have H := H1
              clear H1
              exact absurd H (by simp)
            · replace c68 := Bool.eq_false_iff.mpr c68
              subst c68
              have H1 : ((switchboardref10_Right.f kj20 t164 t165).bind fun t201 => (if t201 = true then (switchboardlaw10_LinkExact.j2 kj20 a1 t175 t176 t182 0 (a0_0 == 2147483647) a0_0 l0_1 t164 t165 t178 t179) else (switchboardlaw10_LinkExact.j2 kj20 a1 t175 t176 t182 0 true a0_0 l0_1 t164 t165 t178 t179))) = some true := by rw [if_neg (show ¬ (false = true) by decide)] at H; exact H
              clear H
              have H := H1
              clear H1
              have HC69 := Aside0.mk H
              clear H
              go_upto_region 10 with (fail)
              go_cut [73] (fun v73 wc => ∃ (kq : Nat) (x73_68 : Bool), v73 = .bool x73_68 ∧ Aside0 (switchboardlaw10_LinkExact.j2 kq a1 t175 t176 t182 0 x73_68 a0_0 l0_1 t164 t165 t178 t179 = some true) ∧ Aside0 (kq ≤ kj20) ∧ Aside0 (Kd.R k40 40 wc w.heap.size (fun k_ => some k_ ≠ ((.slice Ao36 t179.length co36) : Value).ownBlock ∧ some k_ ≠ ((.slice Ao47 t189.length co47) : Value).ownBlock) (.slice Ao12 t165.length co12) t165) ∧ Aside0 (Kd.V k45 45 wc w.heap.size (fun k_ => some k_ ≠ ((.slice Ao12 t165.length co12) : Value).ownBlock ∧ some k_ ≠ ((.slice Ao36 t179.length co36) : Value).ownBlock ∧ some k_ ≠ ((.slice Ao47 t189.length co47) : Value).ownBlock ∧ k_ ≠ gb163 ∧ k_ ≠ gb169 ∧ k_ ≠ gb177 ∧ k_ ≠ gb183 ∧ k_ ≠ gb193) (.slice Ao29 t172.length co29) t172) ∧ Aside0 (Kd.R k40 40 wc w.heap.size (fun k_ => some k_ ≠ ((.slice Ao12 t165.length co12) : Value).ownBlock ∧ some k_ ≠ ((.slice Ao47 t189.length co47) : Value).ownBlock) (.slice Ao36 t179.length co36) t179) ∧ Aside0 (Kd.R k40 40 wc w.heap.size (fun k_ => some k_ ≠ ((.slice Ao12 t165.length co12) : Value).ownBlock ∧ some k_ ≠ ((.slice Ao36 t179.length co36) : Value).ownBlock) (.slice Ao47 t189.length co47) t189) ∧ Aside0 (wc.heap[gb163]? = some (.cells #[.int .i64 a0_0, (.slice A0_1 l0_1.length c0_1)] 24 (0, 0))) ∧ Aside0 (wc.heap[gb169]? = some (.cells #[.int .i64 t164, (.slice Ao12 t165.length co12)] 27 (0, 0))) ∧ Aside0 (wc.heap[gb177]? = some (.cells #[.int .i64 t171, (.slice Ao29 t172.length co29)] 24 (0, 0))) ∧ Aside0 (wc.heap[gb183]? = some (.cells #[.int .i64 t178, (.slice Ao36 t179.length co36)] 27 (0, 0))) ∧ Aside0 (wc.heap[gb193]? = some (.cells #[.int .i64 t188, (.slice Ao47 t189.length co47)] 27 (0, 0))) ∧ Aside0 (Below w.heap.size w wc))
              case first =>
                have H := HC69.out
                clear HC69
                replace H := Option.bind_eq_some_iff.mp H
                obtain ⟨t201, A700, H⟩ := H
                replace H : (if t201 = true then (switchboardlaw10_LinkExact.j2 kj20 a1 t175 t176 t182 0 (a0_0 == 2147483647) a0_0 l0_1 t164 t165 t178 t179) else (switchboardlaw10_LinkExact.j2 kj20 a1 t175 t176 t182 0 true a0_0 l0_1 t164 t165 t178 t179)) = some true := H
                have A70 := Aside0.mk A700
                clear A700
                by_cases c71 : t201 = true
                · subst c71
                  have H1 : (switchboardlaw10_LinkExact.j2 kj20 a1 t175 t176 t182 0 (a0_0 == 2147483647) a0_0 l0_1 t164 t165 t178 t179) = some true := by rw [if_pos rfl] at H; exact H
                  clear H
                  have H := H1
                  clear H1
                  have H' := Aside0.mk H
                  clear H
                  have hnb72 := NB169_163.out
                  have hnc72 := NB163_169.out
                  have hnb73 := NB169_177.out
                  have hnc73 := NB177_169.out
                  have hnb74 := NB169_183.out
                  have hnc74 := NB183_169.out
                  have hnb75 := NB169_193.out
                  have hnc75 := NB193_169.out
                  have hcz76_0 : wc.cell? ⟨gb169, 0, none⟩ = some (.int .i64 t164) := (blk_cell BK169.out 0).trans rfl
                  have hcz76_1 : wc.cell? ⟨gb169, 1, none⟩ = some (.slice Ao12 t165.length co12) := (blk_cell BK169.out 1).trans rfl
                  have hfz76_0 := blk_frozen BK169.out 0
                  have hfz76_1 := blk_frozen BK169.out 1
                  go_wp2_with (first | ((with_reducible refine gate_callee (f := 15) rfl ?_); refine goesL_ (some 67) rfl rfl Try.func15 (by kernel_rfl) rfl #[.agg #[.int .i64 t164, .slice Ao12 t165.length co12]] rfl (by (try simp only [List.map_toArray, List.map_cons, List.map_nil]); first | done | rfl | (simp only [List.length_drop, List.length_take]; rfl)) ?_; (with_reducible refine (switchboardref10_Right.calls kj20 t164 _ _ t165 true _ ?side1 ?side2 A70.out).mono ?_); (case side1 => repeat (first | exact (Kd.R_reads' HO_170001.out).2.2 | (with_reducible refine Kd.C_alloc ?_ _) | (with_reducible refine Kd.C_drewN ?_ _) | (with_reducible refine Kd.C_drew ?_))); (case side2 => exact (Kd.R_reads' HO_170001.out).2.1); rintro e w77 ⟨rfl, hb⟩; refine ⟨_, rfl, ?_⟩; have n0_ := Aside0.mk (Kd.R_below (by (with_reducible repeat (first | apply Kd.R_alloc | apply Kd.R_drewN | apply Kd.R_drew)); exact HO_170001.out) hb); have n1_ := Aside0.mk (Kd.V_below (by (with_reducible repeat (first | apply Kd.V_alloc | apply Kd.V_drewN | apply Kd.V_drew)); exact HO_178001.out) hb); have n2_ := Aside0.mk (Kd.R_below (by (with_reducible repeat (first | apply Kd.R_alloc | apply Kd.R_drewN | apply Kd.R_drew)); exact HO_184001.out) hb); have n3_ := Aside0.mk (Kd.R_below (by (with_reducible repeat (first | apply Kd.R_alloc | apply Kd.R_drewN | apply Kd.R_drew)); exact HO_194001.out) hb); have n4_ := Aside0.mk (blk_below (g := gb163) (o := .cells #[.int .i64 a0_0, .slice A0_1 l0_1.length c0_1] 24 (0, 0)) (by (with_reducible repeat (first | refine blk_drewN ?_ _ | refine blk_drew ?_ | refine blk_alloc ?_ _)); exact BK163.out) hb); have n5_ := Aside0.mk (blk_below (g := gb169) (o := .cells #[.int .i64 t164, .slice Ao12 t165.length co12] 27 (0, 0)) (by (with_reducible repeat (first | refine blk_drewN ?_ _ | refine blk_drew ?_ | refine blk_alloc ?_ _)); exact BK169.out) hb); have n6_ := Aside0.mk (blk_below (g := gb177) (o := .cells #[.int .i64 t171, .slice Ao29 t172.length co29] 24 (0, 0)) (by (with_reducible repeat (first | refine blk_drewN ?_ _ | refine blk_drew ?_ | refine blk_alloc ?_ _)); exact BK177.out) hb); have n7_ := Aside0.mk (blk_below (g := gb183) (o := .cells #[.int .i64 t178, .slice Ao36 t179.length co36] 27 (0, 0)) (by (with_reducible repeat (first | refine blk_drewN ?_ _ | refine blk_drew ?_ | refine blk_alloc ?_ _)); exact BK183.out) hb); have n8_ := Aside0.mk (blk_below (g := gb193) (o := .cells #[.int .i64 t188, .slice Ao47 t189.length co47] 27 (0, 0)) (by (with_reducible repeat (first | refine blk_drewN ?_ _ | refine blk_drew ?_ | refine blk_alloc ?_ _)); exact BK193.out) hb); have n9_ := Aside0.mk (below_step (by repeat (first | (with_reducible first | exact HB.out | apply below_alloc | apply pw_below_drewN | apply below_drew1 | refine below_set ?_ GE163.out | refine below_set ?_ GE169.out | refine below_set ?_ GE177.out | refine below_set ?_ GE183.out | refine below_set ?_ GE193.out) | exact HB.out)) hb); clear HO_170001; clear HO_178001; clear HO_184001; clear HO_194001; clear BK163; clear BK169; clear BK177; clear BK183; clear BK193; clear HB; have HO_170001 := n0_; have HO_178001 := n1_; have HO_184001 := n2_; have HO_194001 := n3_; have BK163 := n4_; have BK169 := n5_; have BK177 := n6_; have BK183 := n7_; have BK193 := n8_; have HB := n9_; clear n0_ n1_ n2_ n3_ n4_ n5_ n6_ n7_ n8_ n9_; (try clear hb); (try clear hb2); (try clear hk); (try clear hi); have hnb78 := NB163_177.out; have hnc78 := NB177_163.out; have hnb79 := NB163_183.out; have hnc79 := NB183_163.out; have hnb80 := NB163_193.out; have hnc80 := NB193_163.out; have hcz81_0 : w77.cell? ⟨gb163, 0, none⟩ = some (.int .i64 a0_0) := (blk_cell BK163.out 0).trans rfl; have hcz81_1 : w77.cell? ⟨gb163, 1, none⟩ = some (.slice A0_1 l0_1.length c0_1) := (blk_cell BK163.out 1).trans rfl; have hfz81_0 := blk_frozen BK163.out 0; have hfz81_1 := blk_frozen BK163.out 1))
                  go_meet
                  case rel => exact ⟨_, ((a0_0 == 2147483647)), (by first | rfl | (simp; done) | (simp [*]; done)), H', ⟨by have := HJ4.out; have := HJ20.out; first | omega | exact Nat.le_refl _⟩, ⟨by (with_reducible repeat (first | apply Kd.R_alloc | apply Kd.R_drewN | apply Kd.R_drew)); exact HO_170001.out⟩, ⟨by (with_reducible repeat (first | apply Kd.V_alloc | apply Kd.V_drewN | apply Kd.V_drew)); exact HO_178001.out⟩, ⟨by (with_reducible repeat (first | apply Kd.R_alloc | apply Kd.R_drewN | apply Kd.R_drew)); exact HO_184001.out⟩, ⟨by (with_reducible repeat (first | apply Kd.R_alloc | apply Kd.R_drewN | apply Kd.R_drew)); exact HO_194001.out⟩, ⟨by (with_reducible repeat (first | refine blk_drewN ?_ _ | refine blk_drew ?_ | refine blk_alloc ?_ _)); exact BK163.out⟩, ⟨by (with_reducible repeat (first | refine blk_drewN ?_ _ | refine blk_drew ?_ | refine blk_alloc ?_ _)); exact BK169.out⟩, ⟨by (with_reducible repeat (first | refine blk_drewN ?_ _ | refine blk_drew ?_ | refine blk_alloc ?_ _)); exact BK177.out⟩, ⟨by (with_reducible repeat (first | refine blk_drewN ?_ _ | refine blk_drew ?_ | refine blk_alloc ?_ _)); exact BK183.out⟩, ⟨by (with_reducible repeat (first | refine blk_drewN ?_ _ | refine blk_drew ?_ | refine blk_alloc ?_ _)); exact BK193.out⟩, ⟨by repeat (first | (with_reducible first | exact HB.out | apply below_alloc | apply pw_below_drewN | apply below_drew1 | refine below_set ?_ GE163.out | refine below_set ?_ GE169.out | refine below_set ?_ GE177.out | refine below_set ?_ GE183.out | refine below_set ?_ GE193.out) | exact HB.out)⟩⟩
                · replace c71 := Bool.eq_false_iff.mpr c71
                  subst c71
                  have H1 : (switchboardlaw10_LinkExact.j2 kj20 a1 t175 t176 t182 0 true a0_0 l0_1 t164 t165 t178 t179) = some true := by rw [if_neg (show ¬ (false = true) by decide)] at H; exact H
                  clear H
                  have H := H1
                  clear H1
                  have H' := Aside0.mk H
                  clear H
                  have hnb82 := NB169_163.out
                  have hnc82 := NB163_169.out
                  have hnb83 := NB169_177.out
                  have hnc83 := NB177_169.out
                  have hnb84 := NB169_183.out
                  have hnc84 := NB183_169.out
                  have hnb85 := NB169_193.out
                  have hnc85 := NB193_169.out
                  have hcz86_0 : wc.cell? ⟨gb169, 0, none⟩ = some (.int .i64 t164) := (blk_cell BK169.out 0).trans rfl
                  have hcz86_1 : wc.cell? ⟨gb169, 1, none⟩ = some (.slice Ao12 t165.length co12) := (blk_cell BK169.out 1).trans rfl
                  have hfz86_0 := blk_frozen BK169.out 0
                  have hfz86_1 := blk_frozen BK169.out 1
                  go_wp2_with (first | ((with_reducible refine gate_callee (f := 15) rfl ?_); refine goesL_ (some 67) rfl rfl Try.func15 (by kernel_rfl) rfl #[.agg #[.int .i64 t164, .slice Ao12 t165.length co12]] rfl (by (try simp only [List.map_toArray, List.map_cons, List.map_nil]); first | done | rfl | (simp only [List.length_drop, List.length_take]; rfl)) ?_; (with_reducible refine (switchboardref10_Right.calls kj20 t164 _ _ t165 false _ ?side1 ?side2 A70.out).mono ?_); (case side1 => repeat (first | exact (Kd.R_reads' HO_170001.out).2.2 | (with_reducible refine Kd.C_alloc ?_ _) | (with_reducible refine Kd.C_drewN ?_ _) | (with_reducible refine Kd.C_drew ?_))); (case side2 => exact (Kd.R_reads' HO_170001.out).2.1); rintro e w87 ⟨rfl, hb⟩; refine ⟨_, rfl, ?_⟩; have n0_ := Aside0.mk (Kd.R_below (by (with_reducible repeat (first | apply Kd.R_alloc | apply Kd.R_drewN | apply Kd.R_drew)); exact HO_170001.out) hb); have n1_ := Aside0.mk (Kd.V_below (by (with_reducible repeat (first | apply Kd.V_alloc | apply Kd.V_drewN | apply Kd.V_drew)); exact HO_178001.out) hb); have n2_ := Aside0.mk (Kd.R_below (by (with_reducible repeat (first | apply Kd.R_alloc | apply Kd.R_drewN | apply Kd.R_drew)); exact HO_184001.out) hb); have n3_ := Aside0.mk (Kd.R_below (by (with_reducible repeat (first | apply Kd.R_alloc | apply Kd.R_drewN | apply Kd.R_drew)); exact HO_194001.out) hb); have n4_ := Aside0.mk (blk_below (g := gb163) (o := .cells #[.int .i64 a0_0, .slice A0_1 l0_1.length c0_1] 24 (0, 0)) (by (with_reducible repeat (first | refine blk_drewN ?_ _ | refine blk_drew ?_ | refine blk_alloc ?_ _)); exact BK163.out) hb); have n5_ := Aside0.mk (blk_below (g := gb169) (o := .cells #[.int .i64 t164, .slice Ao12 t165.length co12] 27 (0, 0)) (by (with_reducible repeat (first | refine blk_drewN ?_ _ | refine blk_drew ?_ | refine blk_alloc ?_ _)); exact BK169.out) hb); have n6_ := Aside0.mk (blk_below (g := gb177) (o := .cells #[.int .i64 t171, .slice Ao29 t172.length co29] 24 (0, 0)) (by (with_reducible repeat (first | refine blk_drewN ?_ _ | refine blk_drew ?_ | refine blk_alloc ?_ _)); exact BK177.out) hb); have n7_ := Aside0.mk (blk_below (g := gb183) (o := .cells #[.int .i64 t178, .slice Ao36 t179.length co36] 27 (0, 0)) (by (with_reducible repeat (first | refine blk_drewN ?_ _ | refine blk_drew ?_ | refine blk_alloc ?_ _)); exact BK183.out) hb); have n8_ := Aside0.mk (blk_below (g := gb193) (o := .cells #[.int .i64 t188, .slice Ao47 t189.length co47] 27 (0, 0)) (by (with_reducible repeat (first | refine blk_drewN ?_ _ | refine blk_drew ?_ | refine blk_alloc ?_ _)); exact BK193.out) hb); have n9_ := Aside0.mk (below_step (by repeat (first | (with_reducible first | exact HB.out | apply below_alloc | apply pw_below_drewN | apply below_drew1 | refine below_set ?_ GE163.out | refine below_set ?_ GE169.out | refine below_set ?_ GE177.out | refine below_set ?_ GE183.out | refine below_set ?_ GE193.out) | exact HB.out)) hb); clear HO_170001; clear HO_178001; clear HO_184001; clear HO_194001; clear BK163; clear BK169; clear BK177; clear BK183; clear BK193; clear HB; have HO_170001 := n0_; have HO_178001 := n1_; have HO_184001 := n2_; have HO_194001 := n3_; have BK163 := n4_; have BK169 := n5_; have BK177 := n6_; have BK183 := n7_; have BK193 := n8_; have HB := n9_; clear n0_ n1_ n2_ n3_ n4_ n5_ n6_ n7_ n8_ n9_; (try clear hb); (try clear hb2); (try clear hk); (try clear hi)))
                  go_meet
                  case rel => exact ⟨_, (true), (by first | rfl | (simp; done) | (simp [*]; done)), H', ⟨by have := HJ4.out; have := HJ20.out; first | omega | exact Nat.le_refl _⟩, ⟨by (with_reducible repeat (first | apply Kd.R_alloc | apply Kd.R_drewN | apply Kd.R_drew)); exact HO_170001.out⟩, ⟨by (with_reducible repeat (first | apply Kd.V_alloc | apply Kd.V_drewN | apply Kd.V_drew)); exact HO_178001.out⟩, ⟨by (with_reducible repeat (first | apply Kd.R_alloc | apply Kd.R_drewN | apply Kd.R_drew)); exact HO_184001.out⟩, ⟨by (with_reducible repeat (first | apply Kd.R_alloc | apply Kd.R_drewN | apply Kd.R_drew)); exact HO_194001.out⟩, ⟨by (with_reducible repeat (first | refine blk_drewN ?_ _ | refine blk_drew ?_ | refine blk_alloc ?_ _)); exact BK163.out⟩, ⟨by (with_reducible repeat (first | refine blk_drewN ?_ _ | refine blk_drew ?_ | refine blk_alloc ?_ _)); exact BK169.out⟩, ⟨by (with_reducible repeat (first | refine blk_drewN ?_ _ | refine blk_drew ?_ | refine blk_alloc ?_ _)); exact BK177.out⟩, ⟨by (with_reducible repeat (first | refine blk_drewN ?_ _ | refine blk_drew ?_ | refine blk_alloc ?_ _)); exact BK183.out⟩, ⟨by (with_reducible repeat (first | refine blk_drewN ?_ _ | refine blk_drew ?_ | refine blk_alloc ?_ _)); exact BK193.out⟩, ⟨by repeat (first | (with_reducible first | exact HB.out | apply below_alloc | apply pw_below_drewN | apply below_drew1 | refine below_set ?_ GE163.out | refine below_set ?_ GE169.out | refine below_set ?_ GE177.out | refine below_set ?_ GE183.out | refine below_set ?_ GE193.out) | exact HB.out)⟩⟩
              case rest =>
                clear HC69
                try clear c1
                try clear p2
                try clear c4
                try clear c5
                try clear c6
                try clear c7
                try clear c8
                try clear c12
                try clear c13
                try clear c15
                try clear c48
                try clear c51
                try clear c68
                try clear c71
                try clear c72
                try clear c73
                try clear c74
                try clear c75
                try clear c78
                try clear c79
                try clear c80
                try clear c82
                try clear c83
                try clear c84
                try clear c85
                try clear hcz76_0
                try clear hcz76_1
                try clear hcz81_0
                try clear hcz81_1
                try clear hcz86_0
                try clear hcz86_1
                try clear hfz76_0
                try clear hfz76_1
                try clear hfz81_0
                try clear hfz81_1
                try clear hfz86_0
                try clear hfz86_1
                try clear p2
                obtain ⟨kq, x73_68, rfl, HA, HJ68, HO_170001, HO_178001, HO_184001, HO_194001, BK163, BK169, BK177, BK183, BK193, HB⟩ := hcut
                cases kq with
                | zero => exact absurd HA.out (by simp [switchboardlaw10_LinkExact.j2])
                | succ kj68 =>
                  have H := HA.out
                  clear HA
                  simp only [switchboardlaw10_LinkExact.j2] at H
                  have HC88 := Aside0.mk H
                  clear H
                  go_upto_if 73 with (fail)
                  go_cut [16] (fun v16 wc => ∃ (kq : Nat) (x16_87 : Int), v16 = .int .i64 x16_87 ∧ Aside0 (switchboardlaw10_LinkExact.j3 kq a1 t175 t176 t182 x16_87 a0_0 l0_1 t164 t165 t178 t179 = some true) ∧ Aside0 (kq ≤ kj68) ∧ Aside0 (Kd.R k40 40 wc w.heap.size (fun k_ => some k_ ≠ ((.slice Ao36 t179.length co36) : Value).ownBlock ∧ some k_ ≠ ((.slice Ao47 t189.length co47) : Value).ownBlock) (.slice Ao12 t165.length co12) t165) ∧ Aside0 (Kd.V k45 45 wc w.heap.size (fun k_ => some k_ ≠ ((.slice Ao12 t165.length co12) : Value).ownBlock ∧ some k_ ≠ ((.slice Ao36 t179.length co36) : Value).ownBlock ∧ some k_ ≠ ((.slice Ao47 t189.length co47) : Value).ownBlock ∧ k_ ≠ gb163 ∧ k_ ≠ gb169 ∧ k_ ≠ gb177 ∧ k_ ≠ gb183 ∧ k_ ≠ gb193) (.slice Ao29 t172.length co29) t172) ∧ Aside0 (Kd.R k40 40 wc w.heap.size (fun k_ => some k_ ≠ ((.slice Ao12 t165.length co12) : Value).ownBlock ∧ some k_ ≠ ((.slice Ao47 t189.length co47) : Value).ownBlock) (.slice Ao36 t179.length co36) t179) ∧ Aside0 (Kd.R k40 40 wc w.heap.size (fun k_ => some k_ ≠ ((.slice Ao12 t165.length co12) : Value).ownBlock ∧ some k_ ≠ ((.slice Ao36 t179.length co36) : Value).ownBlock) (.slice Ao47 t189.length co47) t189) ∧ Aside0 (wc.heap[gb163]? = some (.cells #[.int .i64 a0_0, (.slice A0_1 l0_1.length c0_1)] 24 (0, 0))) ∧ Aside0 (wc.heap[gb169]? = some (.cells #[.int .i64 t164, (.slice Ao12 t165.length co12)] 27 (0, 0))) ∧ Aside0 (wc.heap[gb177]? = some (.cells #[.int .i64 t171, (.slice Ao29 t172.length co29)] 24 (0, 0))) ∧ Aside0 (wc.heap[gb183]? = some (.cells #[.int .i64 t178, (.slice Ao36 t179.length co36)] 27 (0, 0))) ∧ Aside0 (wc.heap[gb193]? = some (.cells #[.int .i64 t188, (.slice Ao47 t189.length co47)] 27 (0, 0))) ∧ Aside0 (Below w.heap.size w wc))
                  case first =>
                    have H := HC88.out
                    clear HC88
                    by_cases c89 : x73_68 = true
                    · subst c89
                      have H1 : (switchboardlaw10_LinkExact.j3 kj68 a1 t175 t176 t182 1 a0_0 l0_1 t164 t165 t178 t179) = some true := by rw [if_pos rfl] at H; exact H
                      clear H
                      have H := H1
                      clear H1
                      have H' := Aside0.mk H
                      clear H
                      go_wp2
                      go_meet
                      case rel => exact ⟨_, (1), (by first | rfl | (simp; done) | (simp [*]; done)), H', ⟨by have := HJ4.out; have := HJ20.out; have := HJ68.out; first | omega | exact Nat.le_refl _⟩, ⟨by (with_reducible repeat (first | apply Kd.R_alloc | apply Kd.R_drewN | apply Kd.R_drew)); exact HO_170001.out⟩, ⟨by (with_reducible repeat (first | apply Kd.V_alloc | apply Kd.V_drewN | apply Kd.V_drew)); exact HO_178001.out⟩, ⟨by (with_reducible repeat (first | apply Kd.R_alloc | apply Kd.R_drewN | apply Kd.R_drew)); exact HO_184001.out⟩, ⟨by (with_reducible repeat (first | apply Kd.R_alloc | apply Kd.R_drewN | apply Kd.R_drew)); exact HO_194001.out⟩, ⟨by (with_reducible repeat (first | refine blk_drewN ?_ _ | refine blk_drew ?_ | refine blk_alloc ?_ _)); exact BK163.out⟩, ⟨by (with_reducible repeat (first | refine blk_drewN ?_ _ | refine blk_drew ?_ | refine blk_alloc ?_ _)); exact BK169.out⟩, ⟨by (with_reducible repeat (first | refine blk_drewN ?_ _ | refine blk_drew ?_ | refine blk_alloc ?_ _)); exact BK177.out⟩, ⟨by (with_reducible repeat (first | refine blk_drewN ?_ _ | refine blk_drew ?_ | refine blk_alloc ?_ _)); exact BK183.out⟩, ⟨by (with_reducible repeat (first | refine blk_drewN ?_ _ | refine blk_drew ?_ | refine blk_alloc ?_ _)); exact BK193.out⟩, ⟨by repeat (first | (with_reducible first | exact HB.out | apply below_alloc | apply pw_below_drewN | apply below_drew1 | refine below_set ?_ GE163.out | refine below_set ?_ GE169.out | refine below_set ?_ GE177.out | refine below_set ?_ GE183.out | refine below_set ?_ GE193.out) | exact HB.out)⟩⟩
                    · replace c89 := Bool.eq_false_iff.mpr c89
                      subst c89
                      have H1 : (if (l0_1.length : Int) = 64 then (switchboardlaw10_LinkExact.j3 kj68 a1 t175 t176 t182 8 a0_0 l0_1 t164 t165 t178 t179) else (switchboardlaw10_LinkExact.j3 kj68 a1 t175 t176 t182 0 a0_0 l0_1 t164 t165 t178 t179)) = some true := by rw [if_neg (show ¬ (false = true) by decide)] at H; exact H
                      clear H
                      have H := H1
                      clear H1
                      by_cases c90 : (l0_1.length : Int) = 64
                      · rw [if_pos c90] at H
                        have c90b0 : ((l0_1.length : Int) == 64) = true := beq_iff_eq.mpr c90
                        have c90b1 : ((l0_1.length : Int) != 64) = false := bne_eq_false_iff_eq.mpr c90
                        clear c90
                        (first | rw [c90b0] | (simp only [i64_w, i32_w]; rw [c90b0]) | skip)
                        have H' := Aside0.mk H
                        clear H
                        have hnb91 := NB163_169.out
                        have hnc91 := NB169_163.out
                        have hnb92 := NB163_177.out
                        have hnc92 := NB177_163.out
                        have hnb93 := NB163_183.out
                        have hnc93 := NB183_163.out
                        have hnb94 := NB163_193.out
                        have hnc94 := NB193_163.out
                        have hcz95_0 : wc.cell? ⟨gb163, 0, none⟩ = some (.int .i64 a0_0) := (blk_cell BK163.out 0).trans rfl
                        have hcz95_1 : wc.cell? ⟨gb163, 1, none⟩ = some (.slice A0_1 l0_1.length c0_1) := (blk_cell BK163.out 1).trans rfl
                        have hfz95_0 := blk_frozen BK163.out 0
                        have hfz95_1 := blk_frozen BK163.out 1
                        go_wp2
                        go_meet
                        case rel => exact ⟨_, (8), (by first | rfl | (simp; done) | (simp [*]; done)), H', ⟨by have := HJ4.out; have := HJ20.out; have := HJ68.out; first | omega | exact Nat.le_refl _⟩, ⟨by (with_reducible repeat (first | apply Kd.R_alloc | apply Kd.R_drewN | apply Kd.R_drew)); exact HO_170001.out⟩, ⟨by (with_reducible repeat (first | apply Kd.V_alloc | apply Kd.V_drewN | apply Kd.V_drew)); exact HO_178001.out⟩, ⟨by (with_reducible repeat (first | apply Kd.R_alloc | apply Kd.R_drewN | apply Kd.R_drew)); exact HO_184001.out⟩, ⟨by (with_reducible repeat (first | apply Kd.R_alloc | apply Kd.R_drewN | apply Kd.R_drew)); exact HO_194001.out⟩, ⟨by (with_reducible repeat (first | refine blk_drewN ?_ _ | refine blk_drew ?_ | refine blk_alloc ?_ _)); exact BK163.out⟩, ⟨by (with_reducible repeat (first | refine blk_drewN ?_ _ | refine blk_drew ?_ | refine blk_alloc ?_ _)); exact BK169.out⟩, ⟨by (with_reducible repeat (first | refine blk_drewN ?_ _ | refine blk_drew ?_ | refine blk_alloc ?_ _)); exact BK177.out⟩, ⟨by (with_reducible repeat (first | refine blk_drewN ?_ _ | refine blk_drew ?_ | refine blk_alloc ?_ _)); exact BK183.out⟩, ⟨by (with_reducible repeat (first | refine blk_drewN ?_ _ | refine blk_drew ?_ | refine blk_alloc ?_ _)); exact BK193.out⟩, ⟨by repeat (first | (with_reducible first | exact HB.out | apply below_alloc | apply pw_below_drewN | apply below_drew1 | refine below_set ?_ GE163.out | refine below_set ?_ GE169.out | refine below_set ?_ GE177.out | refine below_set ?_ GE183.out | refine below_set ?_ GE193.out) | exact HB.out)⟩⟩
                      · rw [if_neg c90] at H
                        have c90b0 : ((l0_1.length : Int) == 64) = false := beq_eq_false_iff_ne.mpr c90
                        have c90b1 : ((l0_1.length : Int) != 64) = true := bne_iff_ne.mpr c90
                        (first | rw [c90b0] | (simp only [i64_w, i32_w]; rw [c90b0]) | skip)
                        have H' := Aside0.mk H
                        clear H
                        have hnb96 := NB163_169.out
                        have hnc96 := NB169_163.out
                        have hnb97 := NB163_177.out
                        have hnc97 := NB177_163.out
                        have hnb98 := NB163_183.out
                        have hnc98 := NB183_163.out
                        have hnb99 := NB163_193.out
                        have hnc99 := NB193_163.out
                        have hcz100_0 : wc.cell? ⟨gb163, 0, none⟩ = some (.int .i64 a0_0) := (blk_cell BK163.out 0).trans rfl
                        have hcz100_1 : wc.cell? ⟨gb163, 1, none⟩ = some (.slice A0_1 l0_1.length c0_1) := (blk_cell BK163.out 1).trans rfl
                        have hfz100_0 := blk_frozen BK163.out 0
                        have hfz100_1 := blk_frozen BK163.out 1
                        go_wp2
                        go_meet
                        case rel => exact ⟨_, (0), (by first | rfl | (simp; done) | (simp [*]; done)), H', ⟨by have := HJ4.out; have := HJ20.out; have := HJ68.out; first | omega | exact Nat.le_refl _⟩, ⟨by (with_reducible repeat (first | apply Kd.R_alloc | apply Kd.R_drewN | apply Kd.R_drew)); exact HO_170001.out⟩, ⟨by (with_reducible repeat (first | apply Kd.V_alloc | apply Kd.V_drewN | apply Kd.V_drew)); exact HO_178001.out⟩, ⟨by (with_reducible repeat (first | apply Kd.R_alloc | apply Kd.R_drewN | apply Kd.R_drew)); exact HO_184001.out⟩, ⟨by (with_reducible repeat (first | apply Kd.R_alloc | apply Kd.R_drewN | apply Kd.R_drew)); exact HO_194001.out⟩, ⟨by (with_reducible repeat (first | refine blk_drewN ?_ _ | refine blk_drew ?_ | refine blk_alloc ?_ _)); exact BK163.out⟩, ⟨by (with_reducible repeat (first | refine blk_drewN ?_ _ | refine blk_drew ?_ | refine blk_alloc ?_ _)); exact BK169.out⟩, ⟨by (with_reducible repeat (first | refine blk_drewN ?_ _ | refine blk_drew ?_ | refine blk_alloc ?_ _)); exact BK177.out⟩, ⟨by (with_reducible repeat (first | refine blk_drewN ?_ _ | refine blk_drew ?_ | refine blk_alloc ?_ _)); exact BK183.out⟩, ⟨by (with_reducible repeat (first | refine blk_drewN ?_ _ | refine blk_drew ?_ | refine blk_alloc ?_ _)); exact BK193.out⟩, ⟨by repeat (first | (with_reducible first | exact HB.out | apply below_alloc | apply pw_below_drewN | apply below_drew1 | refine below_set ?_ GE163.out | refine below_set ?_ GE169.out | refine below_set ?_ GE177.out | refine below_set ?_ GE183.out | refine below_set ?_ GE193.out) | exact HB.out)⟩⟩
                  case rest =>
                    clear HC88
                    try clear c1
                    try clear p2
                    try clear c4
                    try clear c5
                    try clear c6
                    try clear c7
                    try clear c8
                    try clear c9
                    try clear c12
                    try clear c13
                    try clear c15
                    try clear c48
                    try clear c51
                    try clear c68
                    try clear c71
                    try clear c72
                    try clear c73
                    try clear c74
                    try clear c75
                    try clear c78
                    try clear c79
                    try clear c80
                    try clear c82
                    try clear c83
                    try clear c84
                    try clear c85
                    try clear c89
                    try clear c90
                    try clear c90b0
                    try clear c90b1
                    try clear c91
                    try clear c92
                    try clear c93
                    try clear c94
                    try clear c96
                    try clear c97
                    try clear c98
                    try clear c99
                    try clear hcz100_0
                    try clear hcz100_1
                    try clear hcz76_0
                    try clear hcz76_1
                    try clear hcz81_0
                    try clear hcz81_1
                    try clear hcz86_0
                    try clear hcz86_1
                    try clear hcz95_0
                    try clear hcz95_1
                    try clear hfz100_0
                    try clear hfz100_1
                    try clear hfz76_0
                    try clear hfz76_1
                    try clear hfz81_0
                    try clear hfz81_1
                    try clear hfz86_0
                    try clear hfz86_1
                    try clear hfz95_0
                    try clear hfz95_1
                    try clear p2
                    obtain ⟨kq, x16_87, rfl, HA, HJ87, HO_170001, HO_178001, HO_184001, HO_194001, BK163, BK169, BK177, BK183, BK193, HB⟩ := hcut
                    cases kq with
                    | zero => exact absurd HA.out (by simp [switchboardlaw10_LinkExact.j3])
                    | succ kj87 =>
                      have H := HA.out
                      clear HA
                      simp only [switchboardlaw10_LinkExact.j3] at H
                      by_cases c101 : x16_87 = 0
                      · rw [if_pos c101] at H
                        have c101b0 : (x16_87 == 0) = true := beq_iff_eq.mpr c101
                        have c101b1 : (x16_87 != 0) = false := bne_eq_false_iff_eq.mpr c101
                        clear c101
                        by_cases c102 : t165.length < 5864062014805
                        · rw [if_pos c102] at H
                          have LMc102 := Aside0.mk c102
                          clear c102
                          obtain ⟨y202, hy202⟩ : ∃ y_ : List (S40), y_ = (t165 ++ [(⟨t164, a1⟩ : S40)]) := ⟨_, rfl⟩
                          replace H : (if t182 = true then ((switchboardref10_Same.f kj87 t178 t179 (wrap64 (t164 + 1)) y202).bind fun t205 => (if t205 = true then (if t175 = a0_0 then (if t176 = x16_87 then ((switchboardlaw10_awake.f kj87).bind fun t206 => (some t206)) else (some false)) else (some false)) else (some false))) else (some false)) = some true := by first | (rw [hy202]; with_reducible exact H) | (have H2_ := (Option.bind_some _ _).symm.trans H; rw [hy202]; with_reducible exact H2_) | (have H2_ := (Option.bind_some _ _).symm.trans H; with_reducible exact H2_) | with_reducible exact H | (rw [hy202]; exact H) | exact H
                          have Ny202 := Aside0.mk hy202
                          clear hy202
                          by_cases c103 : t182 = true
                          · subst c103
                            have H1 : ((switchboardref10_Same.f kj87 t178 t179 (wrap64 (t164 + 1)) y202).bind fun t205 => (if t205 = true then (if t175 = a0_0 then (if t176 = x16_87 then ((switchboardlaw10_awake.f kj87).bind fun t206 => (some t206)) else (some false)) else (some false)) else (some false))) = some true := by rw [if_pos rfl] at H; exact H
                            clear H
                            have H := H1
                            clear H1
                            replace H := Option.bind_eq_some_iff.mp H
                            obtain ⟨t205, A1040, H⟩ := H
                            replace H : (if t205 = true then (if t175 = a0_0 then (if t176 = x16_87 then ((switchboardlaw10_awake.f kj87).bind fun t206 => (some t206)) else (some false)) else (some false)) else (some false)) = some true := H
                            have A104 := Aside0.mk A1040
                            clear A1040
                            by_cases c105 : t205 = true
                            · subst c105
                              have H1 : (if t175 = a0_0 then (if t176 = x16_87 then ((switchboardlaw10_awake.f kj87).bind fun t206 => (some t206)) else (some false)) else (some false)) = some true := by rw [if_pos rfl] at H; exact H
                              clear H
                              have H := H1
                              clear H1
                              by_cases c106 : t175 = a0_0
                              · rw [if_pos c106] at H
                                have c106b0 : (t175 == a0_0) = true := beq_iff_eq.mpr c106
                                have c106b1 : (t175 != a0_0) = false := bne_eq_false_iff_eq.mpr c106
                                clear c106
                                by_cases c107 : t176 = x16_87
                                · rw [if_pos c107] at H
                                  have c107b0 : (t176 == x16_87) = true := beq_iff_eq.mpr c107
                                  have c107b1 : (t176 != x16_87) = false := bne_eq_false_iff_eq.mpr c107
                                  clear c107
                                  replace H := Option.bind_eq_some_iff.mp H
                                  obtain ⟨t206, A1080, H⟩ := H
                                  replace H : (some t206) = some true := H
                                  have A108 := Aside0.mk A1080
                                  clear A1080
                                  have hr_ := Aside0.mk (Option.some.inj H)
                                  have hnb109 := NB169_163.out
                                  have hnc109 := NB163_169.out
                                  have hnb110 := NB169_177.out
                                  have hnc110 := NB177_169.out
                                  have hnb111 := NB169_183.out
                                  have hnc111 := NB183_169.out
                                  have hnb112 := NB169_193.out
                                  have hnc112 := NB193_169.out
                                  have hcz113_0 : wc.cell? ⟨gb169, 0, none⟩ = some (.int .i64 t164) := (blk_cell BK169.out 0).trans rfl
                                  have hcz113_1 : wc.cell? ⟨gb169, 1, none⟩ = some (.slice Ao12 t165.length co12) := (blk_cell BK169.out 1).trans rfl
                                  have hfz113_0 := blk_frozen BK169.out 0
                                  have hfz113_1 := blk_frozen BK169.out 1
                                  go_wp2_with (first | ((with_reducible refine gate_builtin (b := .append) (xs := #[.tmp 99, .tmp 104]) rfl ?_); (try (refine gate_guard (by rfl) ?_; dsimp only)); at_builtin; refine Kd.R_append k40 (w0 := w) w.heap.size rfl (.tmp 99) (.tmp 104) 25 40 (.agg #[(.int .i64 0), (.string ⟨#[]⟩)]) 24 rfl Try.underlying25 info40 rfl (by decide) (by omega) (.slice Ao12 t165.length co12) t165 (⟨t164, a1⟩ : S40) [.int .i64 t164, .string a1] (fun k_ => some k_ ≠ (.slice Ao36 t179.length co36 : Value).ownBlock ∧ some k_ ≠ (.slice Ao47 t189.length co47 : Value).ownBlock) (fun _ => False) rfl rfl ?aP (fun _ hk => hk.elim) ?aF ?aO ?aB ?aS ?aL ?_; (case aP => exact k40_mkM _ _ _ (⟨t164, a1⟩ : S40)); (case aB => exact (by repeat (first | (with_reducible first | exact HB.out | apply below_alloc | apply pw_below_drewN | apply below_drew1 | refine below_set ?_ GE163.out | refine below_set ?_ GE169.out | refine below_set ?_ GE177.out | refine below_set ?_ GE183.out | refine below_set ?_ GE193.out) | exact HB.out))); (case aF => exact (fun k_ hk => ⟨Kd.fresh' (Kd.R_lt (by (with_reducible repeat (first | apply Kd.R_alloc | apply Kd.R_drewN | apply Kd.R_drew)); exact HO_184001.out)) k_ hk, Kd.fresh' (Kd.R_lt (by (with_reducible repeat (first | apply Kd.R_alloc | apply Kd.R_drewN | apply Kd.R_drew)); exact HO_194001.out)) k_ hk⟩)); (case aO => exact (by (with_reducible repeat (first | apply Kd.R_alloc | apply Kd.R_drewN | apply Kd.R_drew)); exact HO_170001.out)); (case aS => exact (below_size (by repeat (first | (with_reducible first | exact HB.out | apply below_alloc | apply pw_below_drewN | apply below_drew1 | refine below_set ?_ GE163.out | refine below_set ?_ GE169.out | refine below_set ?_ GE177.out | refine below_set ?_ GE183.out | refine below_set ?_ GE193.out) | exact HB.out)))); (case aL => have := LMc102.out; omega); intro v203 w114 ho hb hg hat; rw [← Ny202.out] at ho; have n0_ := Aside0.mk (Kd.V_afterv (ok := (fun k_ => some k_ ≠ (.slice Ao36 t179.length co36 : Value).ownBlock ∧ some k_ ≠ (.slice Ao47 t189.length co47 : Value).ownBlock ∧ k_ ≠ gb163 ∧ k_ ≠ gb169 ∧ k_ ≠ gb177 ∧ k_ ≠ gb183 ∧ k_ ≠ gb193)) (by (with_reducible repeat (first | apply Kd.V_alloc | apply Kd.V_drewN | apply Kd.V_drew)); exact Kd.V_mono HO_178001.out (fun _ hk => ⟨⟨hk.2.1, ⟨hk.2.2.1, ⟨hk.2.2.2.1, ⟨hk.2.2.2.2.1, ⟨hk.2.2.2.2.2.1, ⟨hk.2.2.2.2.2.2.1, hk.2.2.2.2.2.2.2⟩⟩⟩⟩⟩⟩, hk.1⟩)) hg hat); have n1_ := Aside0.mk (Kd.R_after (ok := (fun k_ => some k_ ≠ (.slice Ao47 t189.length co47 : Value).ownBlock)) (by (with_reducible repeat (first | apply Kd.R_alloc | apply Kd.R_drewN | apply Kd.R_drew)); exact Kd.R_mono HO_184001.out (fun _ hk => ⟨hk.2, hk.1⟩)) hg hat); have n2_ := Aside0.mk (Kd.R_after (ok := (fun k_ => some k_ ≠ (.slice Ao36 t179.length co36 : Value).ownBlock)) (by (with_reducible repeat (first | apply Kd.R_alloc | apply Kd.R_drewN | apply Kd.R_drew)); exact Kd.R_mono HO_194001.out (fun _ hk => ⟨hk.2, hk.1⟩)) hg hat); have n3_ := Aside0.mk (blk_grown (g := gb163) (o := .cells #[.int .i64 a0_0, .slice A0_1 l0_1.length c0_1] 24 (0, 0)) (by (with_reducible repeat (first | refine blk_drewN ?_ _ | refine blk_drew ?_ | refine blk_alloc ?_ _)); exact BK163.out) hg (Kd.R_ne HO_170001.out BK163.out (by decide))); have n4_ := Aside0.mk (blk_grown (g := gb169) (o := .cells #[.int .i64 t164, .slice Ao12 t165.length co12] 27 (0, 0)) (by (with_reducible repeat (first | refine blk_drewN ?_ _ | refine blk_drew ?_ | refine blk_alloc ?_ _)); exact BK169.out) hg (Kd.R_ne HO_170001.out BK169.out (by decide))); have n5_ := Aside0.mk (blk_grown (g := gb177) (o := .cells #[.int .i64 t171, .slice Ao29 t172.length co29] 24 (0, 0)) (by (with_reducible repeat (first | refine blk_drewN ?_ _ | refine blk_drew ?_ | refine blk_alloc ?_ _)); exact BK177.out) hg (Kd.R_ne HO_170001.out BK177.out (by decide))); have n6_ := Aside0.mk (blk_grown (g := gb183) (o := .cells #[.int .i64 t178, .slice Ao36 t179.length co36] 27 (0, 0)) (by (with_reducible repeat (first | refine blk_drewN ?_ _ | refine blk_drew ?_ | refine blk_alloc ?_ _)); exact BK183.out) hg (Kd.R_ne HO_170001.out BK183.out (by decide))); have n7_ := Aside0.mk (blk_grown (g := gb193) (o := .cells #[.int .i64 t188, .slice Ao47 t189.length co47] 27 (0, 0)) (by (with_reducible repeat (first | refine blk_drewN ?_ _ | refine blk_drew ?_ | refine blk_alloc ?_ _)); exact BK193.out) hg (Kd.R_ne HO_170001.out BK193.out (by decide))); have n8_ := Aside0.mk (hb); have n9_ := Aside0.mk (ho); clear HO_178001; clear HO_184001; clear HO_194001; clear BK163; clear BK169; clear BK177; clear BK183; clear BK193; clear HB; clear HO_170001; have HO_178001 := n0_; have HO_184001 := n1_; have HO_194001 := n2_; have BK163 := n3_; have BK169 := n4_; have BK177 := n5_; have BK183 := n6_; have BK193 := n7_; have HB := n8_; have HO204 := n9_; clear n0_ n1_ n2_ n3_ n4_ n5_ n6_ n7_ n8_ n9_; clear ho hb hg hat; obtain ⟨Ao115, co115, eo115⟩ := Kd.R_slice HO204.out; subst eo115; have hcz116_0 : w114.cell? ⟨gb169, 0, none⟩ = some (.int .i64 t164) := (blk_cell BK169.out 0).trans rfl; have hcz116_1 : w114.cell? ⟨gb169, 1, none⟩ = some (.slice Ao12 t165.length co12) := (blk_cell BK169.out 1).trans rfl; have hfz116_0 := blk_frozen BK169.out 0; have hfz116_1 := blk_frozen BK169.out 1; have hnb117 := NB183_163.out; have hnc117 := NB163_183.out; have hnb118 := NB183_177.out; have hnc118 := NB177_183.out; have hnb119 := NB183_193.out; have hnc119 := NB193_183.out; have hcz120_0 : w114.cell? ⟨gb183, 0, none⟩ = some (.int .i64 t178) := (blk_cell BK183.out 0).trans rfl; have hcz120_1 : w114.cell? ⟨gb183, 1, none⟩ = some (.slice Ao36 t179.length co36) := (blk_cell BK183.out 1).trans rfl; have hfz120_0 := blk_frozen BK183.out 0; have hfz120_1 := blk_frozen BK183.out 1) | (go_at_call 12; (with_reducible refine (switchboardref10_Same.calls kj87 t178 _ _ t179 (wrap64 (t164 + 1)) _ _ y202 true _ ?side1 ?side2 ?side3 ?side4 A104.out).mono ?_); (case side1 => refine (Kd.R_reads' (e := 40) (base := w.heap.size) (ok := fun k_ => (some k_ ≠ (.slice Ao47 t189.length co47 : Value).ownBlock ∧ some k_ ≠ (.slice Ao115 y202.length co115 : Value).ownBlock)) (n := t179.length) (c := co36) ?_).2.2; exact (by (with_reducible repeat (first | apply Kd.R_alloc | apply Kd.R_drewN | apply Kd.R_drew)); exact (Kd.R_mono (Kd.R_far (p := ⟨gb169, 0, none⟩) (Kd.R_far (p := ⟨gb169, 1, none⟩) (Kd.R_types HO_184001.out BK169.out (by decide)) (fun _ hk => hk.2) (.slice Ao115 y202.length co115)) (fun _ hk => hk.2) (.int .i64 (wrap64 (t164 + 1)))) (fun _ h_ => h_.1)))); (case side2 => exact (Kd.R_reads' HO_184001.out).2.1); (case side3 => refine (Kd.R_reads' (e := 40) (base := w.heap.size) (ok := fun k_ => (some k_ ≠ (.slice Ao36 t179.length co36 : Value).ownBlock ∧ some k_ ≠ (.slice Ao47 t189.length co47 : Value).ownBlock)) (n := y202.length) (c := co115) ?_).2.2; exact (by (with_reducible repeat (first | apply Kd.R_alloc | apply Kd.R_drewN | apply Kd.R_drew)); exact (Kd.R_mono (Kd.R_far (p := ⟨gb169, 0, none⟩) (Kd.R_far (p := ⟨gb169, 1, none⟩) (Kd.R_types HO204.out BK169.out (by decide)) (fun _ hk => hk.2) (.slice Ao115 y202.length co115)) (fun _ hk => hk.2) (.int .i64 (wrap64 (t164 + 1)))) (fun _ h_ => h_.1)))); (case side4 => exact (Kd.R_reads' HO204.out).2.1); rintro e w121 ⟨rfl, hb⟩; have n0_ := Aside0.mk (Kd.V_below (by (with_reducible repeat (first | apply Kd.V_alloc | apply Kd.V_drewN | apply Kd.V_drew)); exact (Kd.V_mono (Kd.V_far (p := ⟨gb169, 0, none⟩) (Kd.V_far (p := ⟨gb169, 1, none⟩) (Kd.V_mono HO_178001.out (fun k_ hk => (⟨hk, hk.1.2.2.2.1⟩ : _ ∧ k_ ≠ gb169))) (fun _ hk => hk.2) (.slice Ao115 y202.length co115)) (fun _ hk => hk.2) (.int .i64 (wrap64 (t164 + 1)))) (fun _ h_ => h_.1))) hb); have n1_ := Aside0.mk (Kd.R_below (by (with_reducible repeat (first | apply Kd.R_alloc | apply Kd.R_drewN | apply Kd.R_drew)); exact (Kd.R_mono (Kd.R_far (p := ⟨gb169, 0, none⟩) (Kd.R_far (p := ⟨gb169, 1, none⟩) (Kd.R_types HO_184001.out BK169.out (by decide)) (fun _ hk => hk.2) (.slice Ao115 y202.length co115)) (fun _ hk => hk.2) (.int .i64 (wrap64 (t164 + 1)))) (fun _ h_ => h_.1))) hb); have n2_ := Aside0.mk (Kd.R_below (by (with_reducible repeat (first | apply Kd.R_alloc | apply Kd.R_drewN | apply Kd.R_drew)); exact (Kd.R_mono (Kd.R_far (p := ⟨gb169, 0, none⟩) (Kd.R_far (p := ⟨gb169, 1, none⟩) (Kd.R_types HO_194001.out BK169.out (by decide)) (fun _ hk => hk.2) (.slice Ao115 y202.length co115)) (fun _ hk => hk.2) (.int .i64 (wrap64 (t164 + 1)))) (fun _ h_ => h_.1))) hb); have n3_ := Aside0.mk (Kd.R_below (by (with_reducible repeat (first | apply Kd.R_alloc | apply Kd.R_drewN | apply Kd.R_drew)); exact (Kd.R_mono (Kd.R_far (p := ⟨gb169, 0, none⟩) (Kd.R_far (p := ⟨gb169, 1, none⟩) (Kd.R_types HO204.out BK169.out (by decide)) (fun _ hk => hk.2) (.slice Ao115 y202.length co115)) (fun _ hk => hk.2) (.int .i64 (wrap64 (t164 + 1)))) (fun _ h_ => h_.1))) hb); have n4_ := Aside0.mk (blk_below (g := gb163) (o := .cells #[.int .i64 a0_0, .slice A0_1 l0_1.length c0_1] 24 (0, 0)) (by (with_reducible repeat (first | refine blk_drewN ?_ _ | refine blk_drew ?_ | refine blk_alloc ?_ _)); refine blk_far ?_ NB163_169.out _; (with_reducible repeat (first | refine blk_drewN ?_ _ | refine blk_drew ?_ | refine blk_alloc ?_ _)); refine blk_far ?_ NB163_169.out _; (with_reducible repeat (first | refine blk_drewN ?_ _ | refine blk_drew ?_ | refine blk_alloc ?_ _)); exact BK163.out) hb); have n5_ := Aside0.mk (blk_below (g := gb169) (o := .cells #[.int .i64 (wrap64 (t164 + 1)), .slice Ao115 y202.length co115] 27 (0, 0)) (by (with_reducible repeat (first | refine blk_drewN ?_ _ | refine blk_drew ?_ | refine blk_alloc ?_ _)); refine blk_put (cs := #[.int .i64 t164, .slice Ao115 y202.length co115]) ?_ 0 _ rfl; (with_reducible repeat (first | refine blk_drewN ?_ _ | refine blk_drew ?_ | refine blk_alloc ?_ _)); refine blk_put (cs := #[.int .i64 t164, .slice Ao12 t165.length co12]) ?_ 1 _ rfl; (with_reducible repeat (first | refine blk_drewN ?_ _ | refine blk_drew ?_ | refine blk_alloc ?_ _)); exact BK169.out) hb); have n6_ := Aside0.mk (blk_below (g := gb177) (o := .cells #[.int .i64 t171, .slice Ao29 t172.length co29] 24 (0, 0)) (by (with_reducible repeat (first | refine blk_drewN ?_ _ | refine blk_drew ?_ | refine blk_alloc ?_ _)); refine blk_far ?_ NB177_169.out _; (with_reducible repeat (first | refine blk_drewN ?_ _ | refine blk_drew ?_ | refine blk_alloc ?_ _)); refine blk_far ?_ NB177_169.out _; (with_reducible repeat (first | refine blk_drewN ?_ _ | refine blk_drew ?_ | refine blk_alloc ?_ _)); exact BK177.out) hb); have n7_ := Aside0.mk (blk_below (g := gb183) (o := .cells #[.int .i64 t178, .slice Ao36 t179.length co36] 27 (0, 0)) (by (with_reducible repeat (first | refine blk_drewN ?_ _ | refine blk_drew ?_ | refine blk_alloc ?_ _)); refine blk_far ?_ NB183_169.out _; (with_reducible repeat (first | refine blk_drewN ?_ _ | refine blk_drew ?_ | refine blk_alloc ?_ _)); refine blk_far ?_ NB183_169.out _; (with_reducible repeat (first | refine blk_drewN ?_ _ | refine blk_drew ?_ | refine blk_alloc ?_ _)); exact BK183.out) hb); have n8_ := Aside0.mk (blk_below (g := gb193) (o := .cells #[.int .i64 t188, .slice Ao47 t189.length co47] 27 (0, 0)) (by (with_reducible repeat (first | refine blk_drewN ?_ _ | refine blk_drew ?_ | refine blk_alloc ?_ _)); refine blk_far ?_ NB193_169.out _; (with_reducible repeat (first | refine blk_drewN ?_ _ | refine blk_drew ?_ | refine blk_alloc ?_ _)); refine blk_far ?_ NB193_169.out _; (with_reducible repeat (first | refine blk_drewN ?_ _ | refine blk_drew ?_ | refine blk_alloc ?_ _)); exact BK193.out) hb); have n9_ := Aside0.mk (below_step (by repeat (first | (with_reducible first | exact HB.out | apply below_alloc | apply pw_below_drewN | apply below_drew1 | refine below_set ?_ GE163.out | refine below_set ?_ GE169.out | refine below_set ?_ GE177.out | refine below_set ?_ GE183.out | refine below_set ?_ GE193.out) | exact HB.out)) hb); clear HO_178001; clear HO_184001; clear HO_194001; clear HO204; clear BK163; clear BK169; clear BK177; clear BK183; clear BK193; clear HB; have HO_178001 := n0_; have HO_184001 := n1_; have HO_194001 := n2_; have HO204 := n3_; have BK163 := n4_; have BK169 := n5_; have BK177 := n6_; have BK183 := n7_; have BK193 := n8_; have HB := n9_; clear n0_ n1_ n2_ n3_ n4_ n5_ n6_ n7_ n8_ n9_; (try clear hb); (try clear hb2); (try clear hk); (try clear hi); have hnb122 := NB163_177.out; have hnc122 := NB177_163.out; have hnb123 := NB163_193.out; have hnc123 := NB193_163.out; have hcz124_0 : w121.cell? ⟨gb163, 0, none⟩ = some (.int .i64 a0_0) := (blk_cell BK163.out 0).trans rfl; have hcz124_1 : w121.cell? ⟨gb163, 1, none⟩ = some (.slice A0_1 l0_1.length c0_1) := (blk_cell BK163.out 1).trans rfl; have hfz124_0 := blk_frozen BK163.out 0; have hfz124_1 := blk_frozen BK163.out 1) | (go_at_call 9; (with_reducible refine (switchboardlaw10_awake.calls kj87  t206 _ A108.out).mono ?_); rintro e w125 ⟨rfl, hb⟩; have n0_ := Aside0.mk (Kd.V_below (by (with_reducible repeat (first | apply Kd.V_alloc | apply Kd.V_drewN | apply Kd.V_drew)); exact HO_178001.out) hb); have n1_ := Aside0.mk (Kd.R_below (by (with_reducible repeat (first | apply Kd.R_alloc | apply Kd.R_drewN | apply Kd.R_drew)); exact HO_184001.out) hb); have n2_ := Aside0.mk (Kd.R_below (by (with_reducible repeat (first | apply Kd.R_alloc | apply Kd.R_drewN | apply Kd.R_drew)); exact HO_194001.out) hb); have n3_ := Aside0.mk (Kd.R_below (by (with_reducible repeat (first | apply Kd.R_alloc | apply Kd.R_drewN | apply Kd.R_drew)); exact HO204.out) hb); have n4_ := Aside0.mk (blk_below (g := gb163) (o := .cells #[.int .i64 a0_0, .slice A0_1 l0_1.length c0_1] 24 (0, 0)) (by (with_reducible repeat (first | refine blk_drewN ?_ _ | refine blk_drew ?_ | refine blk_alloc ?_ _)); exact BK163.out) hb); have n5_ := Aside0.mk (blk_below (g := gb169) (o := .cells #[.int .i64 (wrap64 (t164 + 1)), .slice Ao115 y202.length co115] 27 (0, 0)) (by (with_reducible repeat (first | refine blk_drewN ?_ _ | refine blk_drew ?_ | refine blk_alloc ?_ _)); exact BK169.out) hb); have n6_ := Aside0.mk (blk_below (g := gb177) (o := .cells #[.int .i64 t171, .slice Ao29 t172.length co29] 24 (0, 0)) (by (with_reducible repeat (first | refine blk_drewN ?_ _ | refine blk_drew ?_ | refine blk_alloc ?_ _)); exact BK177.out) hb); have n7_ := Aside0.mk (blk_below (g := gb183) (o := .cells #[.int .i64 t178, .slice Ao36 t179.length co36] 27 (0, 0)) (by (with_reducible repeat (first | refine blk_drewN ?_ _ | refine blk_drew ?_ | refine blk_alloc ?_ _)); exact BK183.out) hb); have n8_ := Aside0.mk (blk_below (g := gb193) (o := .cells #[.int .i64 t188, .slice Ao47 t189.length co47] 27 (0, 0)) (by (with_reducible repeat (first | refine blk_drewN ?_ _ | refine blk_drew ?_ | refine blk_alloc ?_ _)); exact BK193.out) hb); have n9_ := Aside0.mk (below_step (by repeat (first | (with_reducible first | exact HB.out | apply below_alloc | apply pw_below_drewN | apply below_drew1 | refine below_set ?_ GE163.out | refine below_set ?_ GE169.out | refine below_set ?_ GE177.out | refine below_set ?_ GE183.out | refine below_set ?_ GE193.out) | exact HB.out)) hb); clear HO_178001; clear HO_184001; clear HO_194001; clear HO204; clear BK163; clear BK169; clear BK177; clear BK183; clear BK193; clear HB; have HO_178001 := n0_; have HO_184001 := n1_; have HO_194001 := n2_; have HO204 := n3_; have BK163 := n4_; have BK169 := n5_; have BK177 := n6_; have BK183 := n7_; have BK193 := n8_; have HB := n9_; clear n0_ n1_ n2_ n3_ n4_ n5_ n6_ n7_ n8_ n9_; (try clear hb); (try clear hb2); (try clear hk); (try clear hi)))
                                  go_ret
                                  exact ⟨by first | rfl | exact congrArg (fun b_ => Ending.returned (Value.bool b_)) hr_.out | exact congrArg (fun b_ => Ending.returned (Value.bool b_)) hr_.out | (simp [errW_none, errW_some] <;> rfl) | (simp [*, errW_none, errW_some] <;> rfl), by repeat (first | (with_reducible first | exact HB.out | apply below_alloc | apply pw_below_drewN | apply below_drew1 | refine below_set ?_ GE163.out | refine below_set ?_ GE169.out | refine below_set ?_ GE177.out | refine below_set ?_ GE183.out | refine below_set ?_ GE193.out) | exact HB.out)⟩
                                · rw [if_neg c107] at H
                                  have c107b0 : (t176 == x16_87) = false := beq_eq_false_iff_ne.mpr c107
                                  have c107b1 : (t176 != x16_87) = true := bne_iff_ne.mpr c107
                                  exact absurd H (by simp)
                              · rw [if_neg c106] at H
                                have c106b0 : (t175 == a0_0) = false := beq_eq_false_iff_ne.mpr c106
                                have c106b1 : (t175 != a0_0) = true := bne_iff_ne.mpr c106
                                exact absurd H (by simp)
                            · replace c105 := Bool.eq_false_iff.mpr c105
                              subst c105
                              have H1 : (some false) = some true := by rw [if_neg (show ¬ (false = true) by decide)] at H; exact H
                              clear H
                              have H := H1
                              clear H1
                              exact absurd H (by simp)
                          · replace c103 := Bool.eq_false_iff.mpr c103
                            subst c103
                            have H1 : (some false) = some true := by rw [if_neg (show ¬ (false = true) by decide)] at H; exact H
                            clear H
                            have H := H1
                            clear H1
                            exact absurd H (by simp)
                        · rw [if_neg c102] at H
                          exact absurd H (by simp)
                      · rw [if_neg c101] at H
                        have c101b0 : (x16_87 == 0) = false := beq_eq_false_iff_ne.mpr c101
                        have c101b1 : (x16_87 != 0) = true := bne_iff_ne.mpr c101
                        by_cases c126 : t182 = true
                        · subst c126
                          have H1 : ((switchboardref10_Same.f kj87 t178 t179 t164 t165).bind fun t207 => (if t207 = true then (if t175 = 0 then (if t176 = x16_87 then ((switchboardlaw10_awake.f kj87).bind fun t208 => (some t208)) else (some false)) else (some false)) else (some false))) = some true := by rw [if_pos rfl] at H; exact H
                          clear H
                          have H := H1
                          clear H1
                          replace H := Option.bind_eq_some_iff.mp H
                          obtain ⟨t207, A1270, H⟩ := H
                          replace H : (if t207 = true then (if t175 = 0 then (if t176 = x16_87 then ((switchboardlaw10_awake.f kj87).bind fun t208 => (some t208)) else (some false)) else (some false)) else (some false)) = some true := H
                          have A127 := Aside0.mk A1270
                          clear A1270
                          by_cases c128 : t207 = true
                          · subst c128
                            have H1 : (if t175 = 0 then (if t176 = x16_87 then ((switchboardlaw10_awake.f kj87).bind fun t208 => (some t208)) else (some false)) else (some false)) = some true := by rw [if_pos rfl] at H; exact H
                            clear H
                            have H := H1
                            clear H1
                            by_cases c129 : t175 = 0
                            · rw [if_pos c129] at H
                              have c129b0 : (t175 == 0) = true := beq_iff_eq.mpr c129
                              have c129b1 : (t175 != 0) = false := bne_eq_false_iff_eq.mpr c129
                              clear c129
                              by_cases c130 : t176 = x16_87
                              · rw [if_pos c130] at H
                                have c130b0 : (t176 == x16_87) = true := beq_iff_eq.mpr c130
                                have c130b1 : (t176 != x16_87) = false := bne_eq_false_iff_eq.mpr c130
                                clear c130
                                replace H := Option.bind_eq_some_iff.mp H
                                obtain ⟨t208, A1310, H⟩ := H
                                replace H : (some t208) = some true := H
                                have A131 := Aside0.mk A1310
                                clear A1310
                                have hr_ := Aside0.mk (Option.some.inj H)
                                have hnb132 := NB183_163.out
                                have hnc132 := NB163_183.out
                                have hnb133 := NB183_169.out
                                have hnc133 := NB169_183.out
                                have hnb134 := NB183_177.out
                                have hnc134 := NB177_183.out
                                have hnb135 := NB183_193.out
                                have hnc135 := NB193_183.out
                                have hcz136_0 : wc.cell? ⟨gb183, 0, none⟩ = some (.int .i64 t178) := (blk_cell BK183.out 0).trans rfl
                                have hcz136_1 : wc.cell? ⟨gb183, 1, none⟩ = some (.slice Ao36 t179.length co36) := (blk_cell BK183.out 1).trans rfl
                                have hfz136_0 := blk_frozen BK183.out 0
                                have hfz136_1 := blk_frozen BK183.out 1
                                have hnb137 := NB169_163.out
                                have hnc137 := NB163_169.out
                                have hnb138 := NB169_177.out
                                have hnc138 := NB177_169.out
                                have hnb139 := NB169_193.out
                                have hnc139 := NB193_169.out
                                have hcz140_0 : wc.cell? ⟨gb169, 0, none⟩ = some (.int .i64 t164) := (blk_cell BK169.out 0).trans rfl
                                have hcz140_1 : wc.cell? ⟨gb169, 1, none⟩ = some (.slice Ao12 t165.length co12) := (blk_cell BK169.out 1).trans rfl
                                have hfz140_0 := blk_frozen BK169.out 0
                                have hfz140_1 := blk_frozen BK169.out 1
                                go_wp2_with (first | (go_at_call 12; (with_reducible refine (switchboardref10_Same.calls kj87 t178 _ _ t179 t164 _ _ t165 true _ ?side1 ?side2 ?side3 ?side4 A127.out).mono ?_); (case side1 => repeat (first | exact (Kd.R_reads' HO_184001.out).2.2 | (with_reducible refine Kd.C_alloc ?_ _) | (with_reducible refine Kd.C_drewN ?_ _) | (with_reducible refine Kd.C_drew ?_))); (case side2 => exact (Kd.R_reads' HO_184001.out).2.1); (case side3 => repeat (first | exact (Kd.R_reads' HO_170001.out).2.2 | (with_reducible refine Kd.C_alloc ?_ _) | (with_reducible refine Kd.C_drewN ?_ _) | (with_reducible refine Kd.C_drew ?_))); (case side4 => exact (Kd.R_reads' HO_170001.out).2.1); rintro e w141 ⟨rfl, hb⟩; have n0_ := Aside0.mk (Kd.R_below (by (with_reducible repeat (first | apply Kd.R_alloc | apply Kd.R_drewN | apply Kd.R_drew)); exact HO_170001.out) hb); have n1_ := Aside0.mk (Kd.V_below (by (with_reducible repeat (first | apply Kd.V_alloc | apply Kd.V_drewN | apply Kd.V_drew)); exact HO_178001.out) hb); have n2_ := Aside0.mk (Kd.R_below (by (with_reducible repeat (first | apply Kd.R_alloc | apply Kd.R_drewN | apply Kd.R_drew)); exact HO_184001.out) hb); have n3_ := Aside0.mk (Kd.R_below (by (with_reducible repeat (first | apply Kd.R_alloc | apply Kd.R_drewN | apply Kd.R_drew)); exact HO_194001.out) hb); have n4_ := Aside0.mk (blk_below (g := gb163) (o := .cells #[.int .i64 a0_0, .slice A0_1 l0_1.length c0_1] 24 (0, 0)) (by (with_reducible repeat (first | refine blk_drewN ?_ _ | refine blk_drew ?_ | refine blk_alloc ?_ _)); exact BK163.out) hb); have n5_ := Aside0.mk (blk_below (g := gb169) (o := .cells #[.int .i64 t164, .slice Ao12 t165.length co12] 27 (0, 0)) (by (with_reducible repeat (first | refine blk_drewN ?_ _ | refine blk_drew ?_ | refine blk_alloc ?_ _)); exact BK169.out) hb); have n6_ := Aside0.mk (blk_below (g := gb177) (o := .cells #[.int .i64 t171, .slice Ao29 t172.length co29] 24 (0, 0)) (by (with_reducible repeat (first | refine blk_drewN ?_ _ | refine blk_drew ?_ | refine blk_alloc ?_ _)); exact BK177.out) hb); have n7_ := Aside0.mk (blk_below (g := gb183) (o := .cells #[.int .i64 t178, .slice Ao36 t179.length co36] 27 (0, 0)) (by (with_reducible repeat (first | refine blk_drewN ?_ _ | refine blk_drew ?_ | refine blk_alloc ?_ _)); exact BK183.out) hb); have n8_ := Aside0.mk (blk_below (g := gb193) (o := .cells #[.int .i64 t188, .slice Ao47 t189.length co47] 27 (0, 0)) (by (with_reducible repeat (first | refine blk_drewN ?_ _ | refine blk_drew ?_ | refine blk_alloc ?_ _)); exact BK193.out) hb); have n9_ := Aside0.mk (below_step (by repeat (first | (with_reducible first | exact HB.out | apply below_alloc | apply pw_below_drewN | apply below_drew1 | refine below_set ?_ GE163.out | refine below_set ?_ GE169.out | refine below_set ?_ GE177.out | refine below_set ?_ GE183.out | refine below_set ?_ GE193.out) | exact HB.out)) hb); clear HO_170001; clear HO_178001; clear HO_184001; clear HO_194001; clear BK163; clear BK169; clear BK177; clear BK183; clear BK193; clear HB; have HO_170001 := n0_; have HO_178001 := n1_; have HO_184001 := n2_; have HO_194001 := n3_; have BK163 := n4_; have BK169 := n5_; have BK177 := n6_; have BK183 := n7_; have BK193 := n8_; have HB := n9_; clear n0_ n1_ n2_ n3_ n4_ n5_ n6_ n7_ n8_ n9_; (try clear hb); (try clear hb2); (try clear hk); (try clear hi)) | (go_at_call 9; (with_reducible refine (switchboardlaw10_awake.calls kj87  t208 _ A131.out).mono ?_); rintro e w142 ⟨rfl, hb⟩; have n0_ := Aside0.mk (Kd.R_below (by (with_reducible repeat (first | apply Kd.R_alloc | apply Kd.R_drewN | apply Kd.R_drew)); exact HO_170001.out) hb); have n1_ := Aside0.mk (Kd.V_below (by (with_reducible repeat (first | apply Kd.V_alloc | apply Kd.V_drewN | apply Kd.V_drew)); exact HO_178001.out) hb); have n2_ := Aside0.mk (Kd.R_below (by (with_reducible repeat (first | apply Kd.R_alloc | apply Kd.R_drewN | apply Kd.R_drew)); exact HO_184001.out) hb); have n3_ := Aside0.mk (Kd.R_below (by (with_reducible repeat (first | apply Kd.R_alloc | apply Kd.R_drewN | apply Kd.R_drew)); exact HO_194001.out) hb); have n4_ := Aside0.mk (blk_below (g := gb163) (o := .cells #[.int .i64 a0_0, .slice A0_1 l0_1.length c0_1] 24 (0, 0)) (by (with_reducible repeat (first | refine blk_drewN ?_ _ | refine blk_drew ?_ | refine blk_alloc ?_ _)); exact BK163.out) hb); have n5_ := Aside0.mk (blk_below (g := gb169) (o := .cells #[.int .i64 t164, .slice Ao12 t165.length co12] 27 (0, 0)) (by (with_reducible repeat (first | refine blk_drewN ?_ _ | refine blk_drew ?_ | refine blk_alloc ?_ _)); exact BK169.out) hb); have n6_ := Aside0.mk (blk_below (g := gb177) (o := .cells #[.int .i64 t171, .slice Ao29 t172.length co29] 24 (0, 0)) (by (with_reducible repeat (first | refine blk_drewN ?_ _ | refine blk_drew ?_ | refine blk_alloc ?_ _)); exact BK177.out) hb); have n7_ := Aside0.mk (blk_below (g := gb183) (o := .cells #[.int .i64 t178, .slice Ao36 t179.length co36] 27 (0, 0)) (by (with_reducible repeat (first | refine blk_drewN ?_ _ | refine blk_drew ?_ | refine blk_alloc ?_ _)); exact BK183.out) hb); have n8_ := Aside0.mk (blk_below (g := gb193) (o := .cells #[.int .i64 t188, .slice Ao47 t189.length co47] 27 (0, 0)) (by (with_reducible repeat (first | refine blk_drewN ?_ _ | refine blk_drew ?_ | refine blk_alloc ?_ _)); exact BK193.out) hb); have n9_ := Aside0.mk (below_step (by repeat (first | (with_reducible first | exact HB.out | apply below_alloc | apply pw_below_drewN | apply below_drew1 | refine below_set ?_ GE163.out | refine below_set ?_ GE169.out | refine below_set ?_ GE177.out | refine below_set ?_ GE183.out | refine below_set ?_ GE193.out) | exact HB.out)) hb); clear HO_170001; clear HO_178001; clear HO_184001; clear HO_194001; clear BK163; clear BK169; clear BK177; clear BK183; clear BK193; clear HB; have HO_170001 := n0_; have HO_178001 := n1_; have HO_184001 := n2_; have HO_194001 := n3_; have BK163 := n4_; have BK169 := n5_; have BK177 := n6_; have BK183 := n7_; have BK193 := n8_; have HB := n9_; clear n0_ n1_ n2_ n3_ n4_ n5_ n6_ n7_ n8_ n9_; (try clear hb); (try clear hb2); (try clear hk); (try clear hi)))
                                go_ret
                                exact ⟨by first | rfl | exact congrArg (fun b_ => Ending.returned (Value.bool b_)) hr_.out | exact congrArg (fun b_ => Ending.returned (Value.bool b_)) hr_.out | (simp [errW_none, errW_some] <;> rfl) | (simp [*, errW_none, errW_some] <;> rfl), by repeat (first | (with_reducible first | exact HB.out | apply below_alloc | apply pw_below_drewN | apply below_drew1 | refine below_set ?_ GE163.out | refine below_set ?_ GE169.out | refine below_set ?_ GE177.out | refine below_set ?_ GE183.out | refine below_set ?_ GE193.out) | exact HB.out)⟩
                              · rw [if_neg c130] at H
                                have c130b0 : (t176 == x16_87) = false := beq_eq_false_iff_ne.mpr c130
                                have c130b1 : (t176 != x16_87) = true := bne_iff_ne.mpr c130
                                exact absurd H (by simp)
                            · rw [if_neg c129] at H
                              have c129b0 : (t175 == 0) = false := beq_eq_false_iff_ne.mpr c129
                              have c129b1 : (t175 != 0) = true := bne_iff_ne.mpr c129
                              exact absurd H (by simp)
                          · replace c128 := Bool.eq_false_iff.mpr c128
                            subst c128
                            have H1 : (some false) = some true := by rw [if_neg (show ¬ (false = true) by decide)] at H; exact H
                            clear H
                            have H := H1
                            clear H1
                            exact absurd H (by simp)
                        · replace c126 := Bool.eq_false_iff.mpr c126
                          subst c126
                          have H1 : (some false) = some true := by rw [if_neg (show ¬ (false = true) by decide)] at H; exact H
                          clear H
                          have H := H1
                          clear H1
                          exact absurd H (by simp)

end Go.Proofs.Ytikncbklhnaajaa.Pr
