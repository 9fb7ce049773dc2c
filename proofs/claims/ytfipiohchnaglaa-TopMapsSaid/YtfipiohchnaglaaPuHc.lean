/- Own text, by hand: PuR, PuC, PuN -/
import Derived.Test.YtfipiohchnaglaaPu0
import Derived.Test.YtfipiohchnaglaaPu15
import Derived.Test.YtfipiohchnaglaaPuHa
import Derived.Test.YtfipiohchnaglaaPuHb
import Derived.Test.YtfipiohchnaglaaPu2
import Derived.Test.YtfipiohchnaglaaPu6
namespace Go.Proofs.Ytfipiohchnaglaa.Pu
open Go.RowKit Go.Proofs.YtfipiohchnaglaaW.PrintWords Go.Proofs.YtfipiohchnaglaaW.PrintLast Go.Proofs.YtfipiohchnaglaaW.PrintMore
attribute [local go_sem] max2_int min2_int max_two min_two max_three min_three max_four min_four
set_option linter.unusedVariables false
set_option linter.unusedSimpArgs false
/-- A run of a fleet, all of whose frames are delivered in order: layer by layer the tokens, the parts, who is asked, both kinds of frames, and what is answered. -/
structure RunD where
  T : Nat → List (List Int)
  P : Nat → List S76
  d : Nat → Nat → Int
  fa : Nat → Nat → ByteArray
  fb : Nat → Nat → ByteArray
  an : Nat → Nat → List Int
def RunD.n (R : RunD) (i : Nat) : Nat := (R.P i).length
/-- In layer i, a of the asks worked on. -/
def RunD.sA (R : RunD) (L : Nat → List S167) (i a : Nat) : FS := ⟨L, ((List.range (R.n i)).map (R.fa i)).drop a ++ (List.range a).map (R.fb i), R.T i, i, R.P i, List.replicate (R.n i) [], List.replicate (R.n i) false⟩
/-- In layer i, b of the answers taken. -/
def RunD.sB (R : RunD) (L : Nat → List S167) (i b : Nat) : FS := ⟨L, ((List.range (R.n i)).map (R.fb i)).drop b, R.T i, i, R.P i, (List.range (R.n i)).map (fun j => if j < b then R.an i j else []), (List.range (R.n i)).map (fun j => decide (j < b))⟩
/-- What the ledgers hold is older than what comes next. -/
def RunD.Old (R : RunD) (i a : Nat) (L : Nat → List S167) : Prop := ∀ t, (L t).length ≤ 64 * i + a ∧ ∀ x ∈ L t, x.f0.f1 < (i : Int) ∨ (x.f0.f1 = (i : Int) ∧ ∃ j : Nat, j < a ∧ x.f0.f2 = (rd_T76 (R.P i) (j : Int)).f0 ∧ x.f0.f3 = (rd_T76 (R.P i) (j : Int)).f1)
structure RunH (R : RunD) (k : Nat) (n e : Int) (hs : List (List Int)) (ls : List S31) : Prop where
  cont : ∀ l : List Bool, l.length ≤ 32 → slices_Contains_bool_bool.f k l false = some (decide (false ∈ l))
  np : ∀ i, i < ls.length → R.n i ≤ 32
  parts : ∀ i : Nat, i < ls.length → model_Parts.f k (rd_T31 ls (i : Int)).f0 (rd_T31 ls (i : Int)).f1 (rd_T31 ls (i : Int)).f2 (R.T i) = some (R.P i)
  ask : ∀ i : Nat, i < ls.length → ∀ L, AskH k e hs ⟨L, [], R.T i, i, R.P i, List.replicate (R.n i) [], List.replicate (R.n i) false⟩ (R.d i) (R.fa i)
  comb : ∀ i : Nat, i < ls.length → ∃ O, CombS (R.T i) (R.P i) ((List.range (R.n i)).map (R.an i)) O ∧ O (R.P i).length = R.T (i + 1)
/-- Where come may stand: at the end; all is answered; something is not. -/
def HeadS (R : RunD) (N i : Nat) (s : FS) : Prop := s.at_ = i ∧ ((i = N ∧ s.tok = R.T N ∧ s.bag = []) ∨ (i < N ∧ ∃ L, R.Old i (R.n i) L ∧ s = R.sB L i (R.n i)) ∨ (i < N ∧ false ∈ s.bs ∧ s.bs.length ≤ 32))
/-- Where it goes to. -/
def NextS (R : RunD) (N i : Nat) (s : FS) : Prop := s.at_ = i ∧ ((i = N ∧ s.tok = R.T N ∧ s.bag = []) ∨ (i < N ∧ 0 < R.n i ∧ ∃ L, R.Old i 0 L ∧ s = R.sA L i 0))
theorem RunD.sA_sB (R : RunD) (L : Nat → List S167) (i : Nat) : R.sA L i (R.n i) = R.sB L i 0 := by
  unfold RunD.sA RunD.sB
  have h1 : ((List.range (R.n i)).map (R.fa i)).drop (R.n i) = [] := List.drop_of_length_le (by simp)
  have h2 : List.replicate (R.n i) ([] : List Int) = (List.range (R.n i)).map (fun j => if j < 0 then R.an i j else []) := by
    apply List.ext_getElem <;> simp
  have h3 : List.replicate (R.n i) false = (List.range (R.n i)).map (fun j => decide (j < 0)) := by
    apply List.ext_getElem <;> simp
  rw [h1, h2, h3]
  rfl
theorem RunD.old_next (R : RunD) {i a : Nat} {L : Nat → List S167} (h : R.Old i a L) (ha : a ≤ 64) : R.Old (i + 1) 0 L := fun t => ⟨by have := (h t).1; omega, fun x hx => by
  rcases (h t).2 x hx with h1 | ⟨h1, _⟩ <;> exact .inl (by omega)⟩
theorem sB_all (R : RunD) (L : Nat → List S167) (i : Nat) : R.sB L i (R.n i) = ⟨L, [], R.T i, i, R.P i, (List.range (R.n i)).map (R.an i), List.replicate (R.n i) true⟩ := by
  unfold RunD.sB
  have h1 : ((List.range (R.n i)).map (R.fb i)).drop (R.n i) = [] := List.drop_of_length_le (by simp)
  have h2 : (List.range (R.n i)).map (fun j => if j < R.n i then R.an i j else []) = (List.range (R.n i)).map (R.an i) := by
    apply List.ext_getElem
    · simp
    · intro j h _
      have : j < R.n i := by simpa using h
      simp [this]
  have h3 : (List.range (R.n i)).map (fun j => decide (j < R.n i)) = List.replicate (R.n i) true := by
    apply List.ext_getElem
    · simp
    · intro j h _
      have : j < R.n i := by simpa using h
      simp [this]
  rw [h1, h2, h3]
theorem sA_none (R : RunD) (L : Nat → List S167) (i : Nat) : R.sA L i 0 = ⟨L, (List.range (R.n i)).map (R.fa i), R.T i, i, R.P i, List.replicate (R.n i) [], List.replicate (R.n i) false⟩ := by
  unfold RunD.sA
  rw [List.drop_zero]
  exact congrArg (fun b => (⟨L, b, R.T i, i, R.P i, List.replicate (R.n i) [], List.replicate (R.n i) false⟩ : FS)) (List.append_nil _)
/-- Nothing to be asked: all is answered. -/
theorem sA_empty (R : RunD) (L : Nat → List S167) (i : Nat) (h : R.n i = 0) : R.sA L i 0 = R.sB L i (R.n i) := by
  have := R.sA_sB L i
  rw [h] at this
  rw [this, h]
/-- The layer that a world's fleet is at. -/
def atOf (g : Nat) (w : World) : Nat := match w.cell? ⟨g, 11, none⟩ with
  | some (.int _ n) => n.toNat
  | _ => 0
theorem atOf_eq {g : Nat} {w : World} {i : Nat} (h : w.cell? ⟨g, 11, none⟩ = some (.int .i64 (i : Int))) : atOf g w = i := by
  unfold atOf
  rw [h]
  exact Int.toNat_natCast i
theorem sA_open (R : RunD) (L : Nat → List S167) (i : Nat) (h : 0 < R.n i) (h32 : R.n i ≤ 32) : false ∈ (R.sA L i 0).bs ∧ (R.sA L i 0).bs.length ≤ 32 := by
  show false ∈ List.replicate (R.n i) false ∧ (List.replicate (R.n i) false).length ≤ 32
  rw [List.length_replicate]
  exact ⟨List.mem_replicate.2 ⟨by omega, rfl⟩, h32⟩
set_option maxHeartbeats 8000000 in
set_option maxRecDepth 100000 in
theorem fleet_begin.rests (w0 w : World) (g : Nat) (n : Int) (A0 : Option Addr) (c0 : Nat) (ls : List S31) (e : Int) (A1 : Option Addr) (c1 : Nat) (hs : List (List Int)) (s : FS) (hat : s.at_ = ls.length) (hB : Fl w0 w g n (.slice A0 ls.length c0) e (.slice A1 hs.length c1) (s)) :
    Calls Try.prog 58 #[.pointer (some ⟨g, 0, none⟩)] w fun e_ w' => e_ = .returned (.tuple #[]) ∧ Fl w0 w' g n (.slice A0 ls.length c0) e (.slice A1 hs.length c1) (s) := by
  obtain ⟨lv, vb, vt, vp, va, vd, hB⟩ := hB
  have hu24 := Try.underlying24
  have hu117 := Try.underlying117
  have HT := Aside0.mk hat
  have HB0 := Aside0.mk hB
  have q0 : decide ((ls.length : Int) ≤ (s.at_ : Int)) = true := decide_eq_true (by omega)
  have q0n : decide (ls.length ≤ s.at_) = true := decide_eq_true (by omega)
  clear hat hB
  go_enter Try.func58, Try.ntmps58
  go_upto_region 0 with (fail)
  have HD := Aside0.mk (below_drew (Below.refl w.heap.size w))
  have HB1 := Aside0.mk (HB0.out.below HD.out)
  refine startM_ [] (n := 11) (S := fun W => W = w.drew) (by kernel_rfl) rfl rfl (fun hHeld => ?_)
  clear HD
  generalize w.drew = w1 at HB1 hHeld ⊢
  obtain ⟨hf0, hf1, hf2, hf3, hf9, hf10, hf11, hf12, hf13, hf14⟩ := HB1.out.c
  iterate 11 (first | (refine pureM_ (v := ?_) (a' := ?_) rfl rfl (any_of rfl (by kernel_rfl)) (fun _ _ _ h => h) (Or.inl ⟨by rfl, ?_⟩) ?_ ?_; rotate_left; (intro w'; go_simp; with_reducible rfl); rotate_left; (simp only [Act.put, List.setIfInBounds_toArray, List.set_cons_zero, List.set_cons_succ, i64_w, i32_w]; rfl)) | (refine takeM_ (v := ?_) (a' := ?_) rfl rfl (take_of rfl (by kernel_rfl)) (fun _ _ _ h => h) (Or.inl ⟨by rfl, ?_⟩) hHeld ?_ ?_; rotate_left; (intro w' e_; rw [show w' = w1 from e_]; go_simp; with_reducible rfl); rotate_left; (simp only [Act.put, List.setIfInBounds_toArray, List.set_cons_zero, List.set_cons_succ, i64_w, i32_w]; rfl)))
  refine done_ (done_of rfl (by kernel_rfl)) ?_
  clear hHeld HB0 hf0 hf1 hf2 hf3 hf9 hf10 hf11 hf12 hf13 hf14
  go_wp2
  refine bodyPost_ret (results_none rfl _ _ _) rfl ?_
  exact ⟨rfl, _, _, _, _, _, _, HB1.out⟩
set_option maxHeartbeats 8000000 in
set_option maxRecDepth 100000 in
theorem fleet_come.calls (w0 w : World) (g : Nat) (n : Int) (A0 : Option Addr) (c0 : Nat) (ls : List S31) (e : Int) (A1 : Option Addr) (c1 : Nat) (hs : List (List Int)) (k : Nat) (R : RunD) (H : RunH R k n e hs ls) (i0 : Nat) (s0 : FS) (hm : Kd.C k31 w0 A0 ls.length ls) (hmc : ls.length ≤ c0) (hh : Kd.C (Kd.slice 3 (Kd.int .i64)) w0 A1 hs.length hs) (hhc : hs.length ≤ c1) (hB : Fl w0 w g n (.slice A0 ls.length c0) e (.slice A1 hs.length c1) (s0)) (h : HeadS R ls.length i0 s0) :
    Calls Try.prog 59 #[.pointer (some ⟨g, 0, none⟩)] w fun e_ w' => e_ = .returned (.tuple #[]) ∧ ∃ i s', Fl w0 w' g n (.slice A0 ls.length c0) e (.slice A1 hs.length c1) (s') ∧ ((i = i0 ∧ s' = s0 ∧ (i = ls.length ∨ false ∈ s0.bs)) ∨ (i0 < i ∧ NextS R ls.length i s')) := by
  have hu24 := Try.underlying24
  have hu117 := Try.underlying117
  have HR0 := Aside0.mk hm
  have HMC := Aside0.mk hmc
  have HH := Aside0.mk hh
  have HHC := Aside0.mk hhc
  have HRN := Aside0.mk H
  have HB0 := Aside0.mk hB
  have HS0 := Aside0.mk h
  clear hm hmc hh hhc H hB h
  go_enter Try.func59, Try.ntmps59
  go_wp2
  go_loopw [] (fun w' => ∃ (i : Nat) (s : FS), Aside0 ((i = i0 ∧ s = s0) ∨ (i0 < i ∧ (false ∈ s.bs → 0 < R.n i ∧ ∃ L, R.Old i 0 L ∧ s = R.sA L i 0))) ∧ Aside0 (Fl w0 w' g n (.slice A0 ls.length c0) e (.slice A1 hs.length c1) (s)) ∧ Aside0 (HeadS R ls.length i s)) (fun w' => ls.length - atOf g w')
  case atStart => exact ⟨i0, s0, ⟨.inl ⟨rfl, rfl⟩⟩, HB0, HS0⟩
  case round =>
    obtain ⟨i, s, HI, HB, HS⟩ := hrel
    obtain ⟨lv, vb, vt, vp, va, vd, hB⟩ := HB.out
    obtain ⟨Ad, cd, hq⟩ := Kd.R_slice hB.bs
    subst hq
    have HB0_ := Aside0.mk hB
    clear hB HB HB0 HS0
    have HB0 := HB0_
    clear HB0_
    obtain ⟨hat, hcase⟩ := HS.out
    have HAT := Aside0.mk hat
    rcases hcase with hcase | hcase | hcase
    · obtain ⟨hiN, htok, hbag⟩ := hcase
      have HW := Aside0.mk (And.intro hiN (And.intro htok hbag))
      have q0 : decide (s.at_ < ls.length) = false := decide_eq_false (by omega)
      have q0i : decide ((s.at_ : Int) < (ls.length : Int)) = false := decide_eq_false (by omega)
      clear hat
      go_upto_region 0 with (fail)
      have HD := Aside0.mk (below_drew (Below.refl wr.heap.size wr))
      have HB1 := Aside0.mk (HB0.out.below HD.out)
      refine startM_ [16] (n := 19) (S := fun W => W = wr.drew) (by kernel_rfl) rfl rfl (fun hHeld => ?_)
      clear HD
      generalize wr.drew = w1 at HB1 hHeld ⊢
      obtain ⟨hf0, hf1, hf2, hf3, hf9, hf10, hf11, hf12, hf13, hf14⟩ := HB1.out.c
      iterate 19 (first | (refine pureM_ (v := ?_) (a' := ?_) rfl rfl (any_of rfl (by kernel_rfl)) (fun _ _ _ h => h) (Or.inl ⟨by rfl, ?_⟩) ?_ ?_; rotate_left; (intro w'; go_simp; with_reducible rfl); rotate_left; (simp only [Act.put, List.setIfInBounds_toArray, List.set_cons_zero, List.set_cons_succ, i64_w, i32_w]; rfl)) | (refine takeM_ (v := ?_) (a' := ?_) rfl rfl (take_of rfl (by kernel_rfl)) (fun _ _ _ h => h) (Or.inl ⟨by rfl, ?_⟩) hHeld ?_ ?_; rotate_left; (intro w' e_; rw [show w' = w1 from e_]; go_simp; with_reducible rfl); rotate_left; (simp only [Act.put, List.setIfInBounds_toArray, List.set_cons_zero, List.set_cons_succ, i64_w, i32_w]; rfl)) | (refine pureM_ (v := undef) (a' := ?_) rfl rfl (any_of rfl (by kernel_rfl)) (fun _ _ _ h => h) (Or.inr ⟨by rfl, rfl⟩) ?_ ?_; rotate_left; (simp only [Act.put, List.setIfInBounds_toArray, List.set_cons_zero, List.set_cons_succ, i64_w, i32_w]; rfl)))
      refine done_ (done_of rfl (by kernel_rfl)) ?_
      clear hHeld HB0 hf0 hf1 hf2 hf3 hf9 hf10 hf11 hf12 hf13 hf14
      go_wp2
      go_end0
      refine ⟨rfl, i, s, ⟨_, _, _, _, _, _, HB1.out⟩, ?_⟩
      rcases HI.out with ⟨h1, h2⟩ | ⟨h1, h2⟩
      · exact .inl ⟨h1, h2, .inl HW.out.1⟩
      · exact .inr ⟨h1, HAT.out, .inl HW.out⟩
    · obtain ⟨hiN, lg, hold, hs_⟩ := hcase
      rw [sB_all] at hs_
      have HW := Aside0.mk (And.intro hiN (And.intro hold hs_))
      have HCT : Aside0 (slices_Contains_bool_bool.f k s.bs false = some false) := ⟨by have h1 := HRN.out.cont s.bs (by rw [hs_]; show (List.replicate (R.n i) true).length ≤ 32; rw [List.length_replicate]; exact HRN.out.np i hiN); rw [h1, decide_eq_false]; rw [hs_]; intro hm_; exact absurd (List.mem_replicate.1 hm_).2 (by decide)⟩
      have HM : Aside0 (atOf g wr = s.at_) := ⟨atOf_eq HB0.out.c.2.2.2.2.2.2.1⟩
      clear hold hs_
      have q0 : decide (s.at_ < ls.length) = true := decide_eq_true (by omega)
      have q0i : decide ((s.at_ : Int) < (ls.length : Int)) = true := decide_eq_true (by omega)
      clear hat
      go_upto_region 0 with (fail)
      have HD := Aside0.mk (below_drew (Below.refl wr.heap.size wr))
      have HB1 := Aside0.mk (HB0.out.below HD.out)
      refine startM_ [16] (n := 19) (S := fun W => W = wr.drew) (by kernel_rfl) rfl rfl (fun hHeld => ?_)
      clear HD
      generalize wr.drew = w1 at HB1 hHeld ⊢
      obtain ⟨hf0, hf1, hf2, hf3, hf9, hf10, hf11, hf12, hf13, hf14⟩ := HB1.out.c
      iterate 16 (first | (refine pureM_ (v := ?_) (a' := ?_) rfl rfl (any_of rfl (by kernel_rfl)) (fun _ _ _ h => h) (Or.inl ⟨by rfl, ?_⟩) ?_ ?_; rotate_left; (intro w'; go_simp; with_reducible rfl); rotate_left; (simp only [Act.put, List.setIfInBounds_toArray, List.set_cons_zero, List.set_cons_succ, i64_w, i32_w]; rfl)) | (refine takeM_ (v := ?_) (a' := ?_) rfl rfl (take_of rfl (by kernel_rfl)) (fun _ _ _ h => h) (Or.inl ⟨by rfl, ?_⟩) hHeld ?_ ?_; rotate_left; (intro w' e_; rw [show w' = w1 from e_]; go_simp; with_reducible rfl); rotate_left; (simp only [Act.put, List.setIfInBounds_toArray, List.set_cons_zero, List.set_cons_succ, i64_w, i32_w]; rfl)) | (refine pureM_ (v := undef) (a' := ?_) rfl rfl (any_of rfl (by kernel_rfl)) (fun _ _ _ h => h) (Or.inr ⟨by rfl, rfl⟩) ?_ ?_; rotate_left; (simp only [Act.put, List.setIfInBounds_toArray, List.set_cons_zero, List.set_cons_succ, i64_w, i32_w]; rfl)))
      refine last_ (i := 16) (N := some 18) (mk_ 17 19) rfl rfl (one_of rfl (by kernel_rfl)) (by decide) (fun K hK => ?_)
      refine goes_ Try.func84 (by kernel_rfl) rfl #[.slice Ad s.bs.length cd, .bool false] (by rfl) rfl rfl (by (try simp only [List.map_toArray, List.map_cons, List.map_nil]); first | done | rfl) ?_
      refine (slices_Contains_bool_bool.calls k Ad cd s.bs false false w1 (Kd.R_reads' HB1.out.bs).2.2 (Kd.R_reads' HB1.out.bs).2.1 HCT.out).mono ?_
      rintro e_ w2 ⟨rfl, hd⟩
      have HB2 := Aside0.mk (HB1.out.below hd.below)
      clear hd hf0 hf1 hf2 hf3 hf9 hf10 hf11 hf12 hf13 hf14
      refine ⟨_, rfl, ?_⟩
      refine hK.out _ _ ?_
      clear hK K
      refine norm_ (a' := ?_) ?_ ?_
      rotate_left
      · show Act.put _ (some 18) _ = _
        simp only [Act.put, List.setIfInBounds_toArray, List.set_cons_zero, List.set_cons_succ, i64_w, i32_w]
        rfl
      iterate 2 (refine pureM_ (v := ?_) (a' := ?_) rfl rfl (any_of rfl (by kernel_rfl)) (fun _ _ _ h => h) (Or.inl ⟨by rfl, ?_⟩) ?_ ?_; rotate_left; (intro w'; go_simp; with_reducible rfl); rotate_left; (simp only [Act.put, List.setIfInBounds_toArray, List.set_cons_zero, List.set_cons_succ, i64_w, i32_w]; rfl))
      refine done_ (done_of rfl (by kernel_rfl)) ?_
      clear hHeld HB0 HB1
      obtain ⟨At, ct, hq⟩ := Kd.V_slice HB2.out.tok
      subst hq
      obtain ⟨Ap, cp, hq⟩ := Kd.V_slice HB2.out.PS
      subst hq
      obtain ⟨Aa, ca, hq⟩ := Kd.N_slice HB2.out.ans
      subst hq
      obtain ⟨O, hO, hOe⟩ := HRN.out.comb i HW.out.1
      have HCB : Aside0 (CombS s.tok s.PS s.ans O) := ⟨by rw [HW.out.2.2]; exact hO⟩
      have HOE : Aside0 (O s.PS.length = R.T (i + 1)) := ⟨by rw [HW.out.2.2]; exact hOe⟩
      clear hiN hO hOe
      go_upto_region 1 with (fail)
      have HD := Aside0.mk (below_drew (Below.refl w2.heap.size w2))
      have HB3 := Aside0.mk (HB2.out.below HD.out)
      refine startM_ [13, 16] (n := 17) (S := fun W => W = w2.drew) (by kernel_rfl) rfl rfl (fun hHeld => ?_)
      clear HD
      generalize w2.drew = w3 at HB3 hHeld ⊢
      obtain ⟨hf0, hf1, hf2, hf3, hf9, hf10, hf11, hf12, hf13, hf14⟩ := HB3.out.c
      iterate 13 (first | (refine pureM_ (v := ?_) (a' := ?_) rfl rfl (any_of rfl (by kernel_rfl)) (fun _ _ _ h => h) (Or.inl ⟨by rfl, ?_⟩) ?_ ?_; rotate_left; (intro w'; go_simp; with_reducible rfl); rotate_left; (simp only [Act.put, List.setIfInBounds_toArray, List.set_cons_zero, List.set_cons_succ, i64_w, i32_w]; rfl)) | (refine takeM_ (v := ?_) (a' := ?_) rfl rfl (take_of rfl (by kernel_rfl)) (fun _ _ _ h => h) (Or.inl ⟨by rfl, ?_⟩) hHeld ?_ ?_; rotate_left; (intro w' e_; rw [show w' = w3 from e_]; go_simp; with_reducible rfl); rotate_left; (simp only [Act.put, List.setIfInBounds_toArray, List.set_cons_zero, List.set_cons_succ, i64_w, i32_w]; rfl)))
      refine last_ (i := 13) (N := some 34) (mk_ 14 17) rfl rfl (one_of rfl (by kernel_rfl)) (by decide) (fun K hK => ?_)
      refine goes_ Try.func31 (by kernel_rfl) rfl #[.slice At s.tok.length ct, .slice Ap s.PS.length cp, .slice Aa s.ans.length ca] (by rfl) rfl rfl (by (try simp only [List.map_toArray, List.map_cons, List.map_nil]); first | done | rfl) ?_
      refine (model_Combine.told (okF g (.slice Aa s.ans.length ca) (.slice Ad s.bs.length cd)) At ct s.tok Ap cp s.PS Aa ca s.ans O w3 (Kd.V_map HB3.out.tok (fun _ hf => hf)) (Kd.V_reads' HB3.out.PS).2.2 (Kd.N_reads' HB3.out.ans).2.2 (Kd.N_reads' HB3.out.ans).2.1 HCB.out).mono ?_
      rintro e_ w4 ⟨vn, rfl, ho, hb⟩
      rw [HOE.out] at ho
      have HB4 := Aside0.mk (HB3.out.below hb)
      have HN : Aside0 (Kd.V (Kd.slice 3 (Kd.int .i64)) 54 w4 0 (okF g (.slice Aa s.ans.length ca) (.slice Ad s.bs.length cd)) vn (R.T (i + 1))) := ⟨Kd.N_V (Kd.N_mono ho (fun k_ hk => hk.elim (fun h => h) (fun h => HB3.out.new h)))⟩
      obtain ⟨An, cn, rfl⟩ := Kd.N_slice ho
      clear ho hb hf0 hf1 hf2 hf3 hf9 hf10 hf11 hf12 hf13 hf14
      refine ⟨_, rfl, ?_⟩
      refine hK.out _ _ ?_
      clear hK K
      refine norm_ (a' := ?_) ?_ ?_
      rotate_left
      · show Act.put _ (some 34) _ = _
        simp only [Act.put, List.setIfInBounds_toArray, List.set_cons_zero, List.set_cons_succ, i64_w, i32_w]
        rfl
      iterate 2 (refine pureM_ (v := ?_) (a' := ?_) rfl rfl (any_of rfl (by kernel_rfl)) (fun _ _ _ h => h) (Or.inl ⟨by rfl, ?_⟩) ?_ ?_; rotate_left; (intro w'; go_simp; with_reducible rfl); rotate_left; (simp only [Act.put, List.setIfInBounds_toArray, List.set_cons_zero, List.set_cons_succ, i64_w, i32_w]; rfl))
      refine last_ (i := 16) (N := none) (mk_ 17 17) rfl rfl (one_of rfl (by kernel_rfl)) (by decide) (fun K hK => ?_)
      obtain ⟨hf0, hf1, hf2, hf3, hf9, hf10, hf11, hf12, hf13, hf14⟩ := HB4.out.c
      have hz := HB4.out.fz 10
      refine skip_ (w1 := ?_) (by rfl) rfl ?_ ?_
      rotate_left
      · go_simp
        rfl
      clear hz hf0 hf1 hf2 hf3 hf9 hf10 hf11 hf12 hf13 hf14
      have HB5 := Aside0.mk (HB4.out.puttok HN.out)
      generalize w4.setCell ⟨g, 10, none⟩ _ = w5 at HB5 ⊢
      clear HB4 HN HB3 HB2 hHeld
      refine hK.out _ _ ?_
      clear hK K
      refine done_ (done_of rfl (by kernel_rfl)) ?_
      obtain ⟨hf0, hf1, hf2, hf3, hf9, hf10, hf11, hf12, hf13, hf14⟩ := HB5.out.c
      have hz := HB5.out.fz 11
      have hmax : (ls.length : Int) ≤ 9223372036854775807 := by have := HR0.out.2.1; omega
      have h0 : (0 : Int) ≤ (s.at_ : Int) := Int.natCast_nonneg _
      have h1 : (s.at_ : Int) < (ls.length : Int) := by have := HAT.out; have := HW.out.1; omega
      go_upto_region 3 with (fail)
      clear hmax h0 h1 hz hf0 hf1 hf2 hf3 hf9 hf10 hf11 hf12 hf13 hf14
      have HB6 := Aside0.mk (HB5.out.putat (s.at_ + 1))
      rw [show ((s.at_ + 1 : Nat) : Int) = (s.at_ : Int) + 1 from rfl] at HB6
      generalize w5.setCell ⟨g, 11, none⟩ _ = w6 at HB6 ⊢
      clear HB5
      have HA6 : Aside0 (s.at_ + 1 = i + 1) := ⟨by rw [HAT.out]⟩
      by_cases hnx : i + 1 < ls.length
      · have HX1 : Aside0 (s.at_ + 1 < ls.length) := ⟨by rw [HAT.out]; exact hnx⟩
        have HX2 : Aside0 (model_Parts.f k (rd_T31 ls ((s.at_ + 1 : Nat) : Int)).f0 (rd_T31 ls ((s.at_ + 1 : Nat) : Int)).f1 (rd_T31 ls ((s.at_ + 1 : Nat) : Int)).f2 (R.T (i + 1)) = some (R.P (i + 1))) := ⟨by rw [HA6.out]; exact HRN.out.parts (i + 1) hnx⟩
        have HX3 : Aside0 (AskH k e hs { s with tok := R.T (i + 1), at_ := s.at_ + 1, PS := R.P (i + 1), ans := List.replicate (R.P (i + 1)).length [], bs := List.replicate (R.P (i + 1)).length false } (R.d (i + 1)) (R.fa (i + 1))) := ⟨by rw [HW.out.2.2]; exact HRN.out.ask (i + 1) hnx lg⟩
        have HNX := Aside0.mk hnx
        clear hnx
        go_wp2_with (go_at_call 58; (with_reducible refine (fleet_begin.calls w0 w6 g n A0 c0 ls e A1 c1 hs ({ s with tok := R.T (i + 1), at_ := s.at_ + 1 }) lv vb _ _ _ _ k (R.d (i + 1)) (R.fa (i + 1)) (R.P (i + 1)) HR0.out HMC.out HH.out HHC.out HB6.out HX1.out HX2.out HX3.out).mono ?_); rintro e_ w7 ⟨rfl, hF⟩; have HF := Aside0.mk hF; clear hF)
        have HS7 : Aside0 (({ s with tok := R.T (i + 1), at_ := s.at_ + 1, PS := R.P (i + 1), ans := List.replicate (R.P (i + 1)).length [], bs := List.replicate (R.P (i + 1)).length false, bag := s.bag ++ (List.range (R.P (i + 1)).length).map (R.fa (i + 1)) } : FS) = R.sA lg (i + 1) 0) := ⟨by rw [sA_none, HW.out.2.2]; rfl⟩
        go_roundw
        case rel =>
          have hlt_ : i0 < i + 1 := by rcases HI.out with ⟨h1, _⟩ | ⟨h1, _⟩ <;> omega
          by_cases hz : R.n (i + 1) = 0
          · refine ⟨i + 1, _, ⟨.inr ⟨hlt_, ?_⟩⟩, HF, ⟨?_⟩⟩ <;> rw [HS7.out]
            · intro hf
              rw [sA_none, hz] at hf
              cases hf
            · exact ⟨rfl, .inr (.inl ⟨HNX.out, lg, by rw [hz]; exact R.old_next HW.out.2.1 (Nat.le_trans (HRN.out.np i HW.out.1) (by decide)), sA_empty R lg (i + 1) hz⟩)⟩
          · refine ⟨i + 1, _, ⟨.inr ⟨hlt_, ?_⟩⟩, HF, ⟨?_⟩⟩ <;> rw [HS7.out]
            · exact fun _ => ⟨by omega, lg, R.old_next HW.out.2.1 (Nat.le_trans (HRN.out.np i HW.out.1) (by decide)), rfl⟩
            · exact ⟨rfl, .inr (.inr ⟨HNX.out, sA_open R lg (i + 1) (by omega) (HRN.out.np (i + 1) HNX.out)⟩)⟩
        case measure =>
          obtain ⟨_, _, _, _, _, _, hF⟩ := HF.out
          have h1 := atOf_eq hF.c.2.2.2.2.2.2.1
          rw [h1, HM.out]
          show ls.length - (s.at_ + 1) < ls.length - s.at_
          have := HX1.out
          omega
      · have HX1 : Aside0 (s.at_ + 1 = ls.length) := ⟨by have h1 := HA6.out; have h2 := HW.out.1; omega⟩
        clear hnx
        have HF6 : Aside0 (Fl w0 w6 g n (.slice A0 ls.length c0) e (.slice A1 hs.length c1) ({ s with tok := R.T (i + 1), at_ := s.at_ + 1 })) := ⟨⟨_, _, _, _, _, _, HB6.out⟩⟩
        go_wp2_with (go_at_call 58; (with_reducible refine (fleet_begin.rests w0 w6 g n A0 c0 ls e A1 c1 hs ({ s with tok := R.T (i + 1), at_ := s.at_ + 1 }) HX1.out HF6.out).mono ?_); rintro e_ w7 ⟨rfl, hF⟩; have HF := Aside0.mk hF; clear hF)
        go_roundw
        case rel =>
          have hlt_ : i0 < i + 1 := by rcases HI.out with ⟨h1, _⟩ | ⟨h1, _⟩ <;> omega
          have hbs_ : false ∉ s.bs := by rw [HW.out.2.2]; intro hm_; exact absurd (List.mem_replicate.1 hm_).2 (by decide)
          refine ⟨i + 1, ({ s with tok := R.T (i + 1), at_ := s.at_ + 1 } : FS), ⟨.inr ⟨hlt_, fun hf => absurd hf hbs_⟩⟩, HF, ⟨HA6.out, .inl ⟨by have h1 := HX1.out; have h2 := HA6.out; omega, ?_, ?_⟩⟩⟩
          · show R.T (i + 1) = _
            rw [← HA6.out, HX1.out]
          · show s.bag = []
            rw [HW.out.2.2]
        case measure =>
          obtain ⟨_, _, _, _, _, _, hF⟩ := HF.out
          have h1 := atOf_eq hF.c.2.2.2.2.2.2.1
          rw [h1, HM.out]
          show ls.length - (s.at_ + 1) < ls.length - s.at_
          have := HX1.out
          omega
    · obtain ⟨hiN, hmem, h32⟩ := hcase
      have HW := Aside0.mk (And.intro hiN (And.intro hmem h32))
      have HCT : Aside0 (slices_Contains_bool_bool.f k s.bs false = some true) := ⟨by rw [HRN.out.cont s.bs h32, decide_eq_true hmem]⟩
      clear hmem h32
      have q0 : decide (s.at_ < ls.length) = true := decide_eq_true (by omega)
      have q0i : decide ((s.at_ : Int) < (ls.length : Int)) = true := decide_eq_true (by omega)
      clear hat
      go_upto_region 0 with (fail)
      have HD := Aside0.mk (below_drew (Below.refl wr.heap.size wr))
      have HB1 := Aside0.mk (HB0.out.below HD.out)
      refine startM_ [16] (n := 19) (S := fun W => W = wr.drew) (by kernel_rfl) rfl rfl (fun hHeld => ?_)
      clear HD
      generalize wr.drew = w1 at HB1 hHeld ⊢
      obtain ⟨hf0, hf1, hf2, hf3, hf9, hf10, hf11, hf12, hf13, hf14⟩ := HB1.out.c
      iterate 16 (first | (refine pureM_ (v := ?_) (a' := ?_) rfl rfl (any_of rfl (by kernel_rfl)) (fun _ _ _ h => h) (Or.inl ⟨by rfl, ?_⟩) ?_ ?_; rotate_left; (intro w'; go_simp; with_reducible rfl); rotate_left; (simp only [Act.put, List.setIfInBounds_toArray, List.set_cons_zero, List.set_cons_succ, i64_w, i32_w]; rfl)) | (refine takeM_ (v := ?_) (a' := ?_) rfl rfl (take_of rfl (by kernel_rfl)) (fun _ _ _ h => h) (Or.inl ⟨by rfl, ?_⟩) hHeld ?_ ?_; rotate_left; (intro w' e_; rw [show w' = w1 from e_]; go_simp; with_reducible rfl); rotate_left; (simp only [Act.put, List.setIfInBounds_toArray, List.set_cons_zero, List.set_cons_succ, i64_w, i32_w]; rfl)) | (refine pureM_ (v := undef) (a' := ?_) rfl rfl (any_of rfl (by kernel_rfl)) (fun _ _ _ h => h) (Or.inr ⟨by rfl, rfl⟩) ?_ ?_; rotate_left; (simp only [Act.put, List.setIfInBounds_toArray, List.set_cons_zero, List.set_cons_succ, i64_w, i32_w]; rfl)))
      refine last_ (i := 16) (N := some 18) (mk_ 17 19) rfl rfl (one_of rfl (by kernel_rfl)) (by decide) (fun K hK => ?_)
      refine goes_ Try.func84 (by kernel_rfl) rfl #[.slice Ad s.bs.length cd, .bool false] (by rfl) rfl rfl (by (try simp only [List.map_toArray, List.map_cons, List.map_nil]); first | done | rfl) ?_
      refine (slices_Contains_bool_bool.calls k Ad cd s.bs false true w1 (Kd.R_reads' HB1.out.bs).2.2 (Kd.R_reads' HB1.out.bs).2.1 HCT.out).mono ?_
      rintro e_ w2 ⟨rfl, hd⟩
      have HB2 := Aside0.mk (HB1.out.below hd.below)
      clear hd hf0 hf1 hf2 hf3 hf9 hf10 hf11 hf12 hf13 hf14
      refine ⟨_, rfl, ?_⟩
      refine hK.out _ _ ?_
      clear hK K
      refine norm_ (a' := ?_) ?_ ?_
      rotate_left
      · show Act.put _ (some 18) _ = _
        simp only [Act.put, List.setIfInBounds_toArray, List.set_cons_zero, List.set_cons_succ, i64_w, i32_w]
        rfl
      iterate 2 (refine pureM_ (v := ?_) (a' := ?_) rfl rfl (any_of rfl (by kernel_rfl)) (fun _ _ _ h => h) (Or.inl ⟨by rfl, ?_⟩) ?_ ?_; rotate_left; (intro w'; go_simp; with_reducible rfl); rotate_left; (simp only [Act.put, List.setIfInBounds_toArray, List.set_cons_zero, List.set_cons_succ, i64_w, i32_w]; rfl))
      refine done_ (done_of rfl (by kernel_rfl)) ?_
      clear hHeld HB0 HB1
      go_wp2
      go_end0
      refine ⟨rfl, i, s, ⟨_, _, _, _, _, _, HB2.out⟩, ?_⟩
      rcases HI.out with ⟨h1, h2⟩ | ⟨h1, h2⟩
      · exact .inl ⟨h1, h2, .inr (by rw [← h2]; exact HW.out.2.1)⟩
      · exact .inr ⟨h1, HAT.out, .inr ⟨HW.out.1, h2 HW.out.2.1⟩⟩
set_option maxHeartbeats 8000000 in
set_option maxRecDepth 100000 in
theorem fleet_Done.calls (w0 w : World) (g : Nat) (n : Int) (A0 : Option Addr) (c0 : Nat) (ls : List S31) (e : Int) (A1 : Option Addr) (c1 : Nat) (hs : List (List Int)) (s : FS) (hat : s.at_ = ls.length) (hcl : slices_Clone_int_int_53.f s.tok = some s.tok) (hB : Fl w0 w g n (.slice A0 ls.length c0) e (.slice A1 hs.length c1) (s)) :
    Calls Try.prog 37 #[.pointer (some ⟨g, 0, none⟩)] w fun e_ w' => ∃ v, e_ = .returned (.tuple #[v, .bool true]) ∧ Kd.V (Kd.slice 3 (Kd.int .i64)) 54 w' 0 (fun _ => True) v s.tok ∧ Below w0.heap.size w0 w' := by
  obtain ⟨lv, vb, vt, vp, va, vd, hB⟩ := hB
  have hu24 := Try.underlying24
  have hu117 := Try.underlying117
  obtain ⟨At, ct, hq⟩ := Kd.V_slice hB.tok
  subst hq
  have HCL := Aside0.mk hcl
  have HB0 := Aside0.mk hB
  have q0 : decide ((s.at_ : Int) < (ls.length : Int)) = false := decide_eq_false (by omega)
  have q0n : decide (s.at_ < ls.length) = false := decide_eq_false (by omega)
  clear hat hB hcl
  go_enter Try.func37, Try.ntmps37
  go_upto_region 1 with (fail)
  have HD := Aside0.mk (below_drew (Below.refl w.heap.size w))
  have HB1 := Aside0.mk (HB0.out.below HD.out)
  refine startM_ [] (n := 11) (S := fun W => W = w.drew) (by kernel_rfl) rfl rfl (fun hHeld => ?_)
  clear HD
  generalize w.drew = w1 at HB1 hHeld ⊢
  obtain ⟨hf0, hf1, hf2, hf3, hf9, hf10, hf11, hf12, hf13, hf14⟩ := HB1.out.c
  iterate 11 (first | (refine pureM_ (v := ?_) (a' := ?_) rfl rfl (any_of rfl (by kernel_rfl)) (fun _ _ _ h => h) (Or.inl ⟨by rfl, ?_⟩) ?_ ?_; rotate_left; (intro w'; go_simp; with_reducible rfl); rotate_left; (simp only [Act.put, List.setIfInBounds_toArray, List.set_cons_zero, List.set_cons_succ, i64_w, i32_w]; rfl)) | (refine takeM_ (v := ?_) (a' := ?_) rfl rfl (take_of rfl (by kernel_rfl)) (fun _ _ _ h => h) (Or.inl ⟨by rfl, ?_⟩) hHeld ?_ ?_; rotate_left; (intro w' e_; rw [show w' = w1 from e_]; go_simp; with_reducible rfl); rotate_left; (simp only [Act.put, List.setIfInBounds_toArray, List.set_cons_zero, List.set_cons_succ, i64_w, i32_w]; rfl)))
  refine done_ (done_of rfl (by kernel_rfl)) ?_
  clear hHeld HB0
  go_wp2_with (go_at_call 53; (with_reducible refine (slices_Clone_int_int_53.calls (okF g va vd) At ct s.tok s.tok w1 (Kd.V_map HB1.out.tok (fun _ hf => hf)) HCL.out).mono ?_); rintro e_ w2 ⟨v, rfl, ho, hb⟩; have HO := Aside0.mk ho; have HB2 := Aside0.mk hb; clear ho hb)
  go_ret2
  exact ⟨_, rfl, Kd.N_V (Kd.N_mono HO.out (fun _ _ => trivial)), below_step HB1.out.hb HB2.out⟩
set_option maxHeartbeats 8000000 in
set_option maxRecDepth 100000 in
theorem fleet_New_1.calls (A0 : Option Addr) (c0 : Nat) (A1 : Option Addr) (c1 : Nat) (x : S31) (A2 : Option Addr) (c2 : Nat) (m : Nat) (B : Nat) (W : World) (hx : x.f1.length ≤ m) (hb : W.cell? ⟨B, 1, none⟩ = some (.slice A2 m c2)) :
    Calls Try.prog 57 #[.agg #[.slice A0 x.f0.length c0, .slice A1 x.f1.length c1, .int .i64 x.f2], .pointer (some ⟨B, 0, none⟩)] W fun e_ w' => e_ = .returned (.bool false) ∧ Below W.heap.size W w' := by
  have hu31 := Try.underlying31
  have hu48 := Try.underlying48
  have g1 : ∀ o, (W.alloc o).cell? ⟨B, 1, none⟩ = some (.slice A2 m c2) := fun o => Lib.cell?_alloc_some o hb
  have q0 : decide ((m : Int) < (x.f1.length : Int)) = false := decide_eq_false (by omega)
  have q0n : decide (m < x.f1.length) = false := decide_eq_false (by omega)
  have q0g : decide ((x.f1.length : Int) > (m : Int)) = false := q0
  clear hx hb
  go_enter Try.func57, Try.ntmps57
  go_wp2
  go_ret
  exact ⟨rfl, below_alloc (Below.refl _ _) _⟩
theorem new_next {R : RunD} {N i : Nat} {s' : FS} (hpos : 0 < N) (h : (i = 0 ∧ s' = R.sA (fun _ => []) 0 0 ∧ (i = N ∨ false ∈ (R.sA (fun _ => []) 0 0).bs)) ∨ (0 < i ∧ NextS R N i s')) : NextS R N i s' := by
  rcases h with ⟨rfl, rfl, h⟩ | ⟨_, h⟩
  · refine ⟨rfl, .inr ⟨hpos, Nat.pos_of_ne_zero fun hz => ?_, fun _ => [], (fun _ => ⟨Nat.zero_le _, fun _ hx => (List.not_mem_nil hx).elim⟩), rfl⟩⟩
    rcases h with h | h
    · omega
    · rw [sA_none, hz] at h
      cases h
  · exact h
set_option maxHeartbeats 8000000 in
set_option maxRecDepth 100000 in
theorem fleet_New.calls (w0 : World) (n : Int) (A0 : Option Addr) (c0 : Nat) (ls : List S31) (e : Int) (A1 : Option Addr) (c1 : Nat) (hs : List (List Int)) (At : Option Addr) (ct : Nat) (tok : List (List Int)) (k : Nat) (R : RunD) (H : RunH R k n e hs ls) (hT : R.T 0 = tok) (hm : Kd.C k31 w0 A0 ls.length ls) (hmc : ls.length ≤ c0) (hh : Kd.C (Kd.slice 3 (Kd.int .i64)) w0 A1 hs.length hs) (hhc : hs.length ≤ c1) (ht : Kd.C (Kd.slice 3 (Kd.int .i64)) w0 At tok.length tok) (htc : tok.length ≤ ct) (hpos : 0 < ls.length)
    (h27 : model_Right.f n ls = some true) (h28 : model_Tokens.f n ls tok = some true) (h56 : place_Right.f k e hs = some true) (hfit : ∀ x ∈ ls, x.f1.length ≤ hs.length) (hcl : slices_Clone_int_int_53.f tok = some tok) :
    Calls Try.prog 35 #[.agg #[.int .i64 n, (.slice A0 ls.length c0)], .agg #[.int .i64 e, (.slice A1 hs.length c1)], .slice At tok.length ct] w0 fun e_ w' => ∃ g, e_ = .returned (.tuple #[.pointer (some ⟨g, 0, none⟩), .int .i64 0]) ∧ ∃ i s', Fl w0 w' g n (.slice A0 ls.length c0) e (.slice A1 hs.length c1) (s') ∧ NextS R ls.length i s' := by
  have hu24 := Try.underlying24
  have hu31 := Try.underlying31
  have hu48 := Try.underlying48
  have hu117 := Try.underlying117
  have HR0 := Aside0.mk hm
  have HMC := Aside0.mk hmc
  have HH := Aside0.mk hh
  have HHC := Aside0.mk hhc
  have HTK := Aside0.mk ht
  have HTC := Aside0.mk htc
  have HRN := Aside0.mk H
  have HT0 := Aside0.mk hT
  have HPO := Aside0.mk hpos
  have H27 := Aside0.mk h27
  have H28 := Aside0.mk h28
  have H56 := Aside0.mk h56
  have HFI := Aside0.mk hfit
  have HCL := Aside0.mk hcl
  clear hm hmc hh hhc ht htc H hT hpos h27 h28 h56 hfit hcl
  have HV0 : Aside0 (Kd.V (Kd.slice 3 (Kd.int .i64)) 54 w0 0 (fun k_ => k_ < w0.heap.size) (.slice At tok.length ct) tok) := ⟨Kd.V_mk HTC.out (Kd.C_F (Kd.heap_slice 3 (Kd.heap_int .i64)) HTK.out)⟩
  obtain ⟨w1, hw1⟩ : ∃ w1, w1 = (w0.alloc (.cells #[.int .i64 n, (.slice A0 ls.length c0)] 24)).alloc (.cells #[.int .i64 e, (.slice A1 hs.length c1)] 48) := ⟨_, rfl⟩
  have HB1 : Aside0 (Below w0.heap.size w0 w1) := ⟨by rw [hw1]; exact below_alloc (below_alloc (Below.refl _ _) _) _⟩
  have HX1 : Aside0 (w1.heap[w0.heap.size]? = some (.cells #[.int .i64 n, (.slice A0 ls.length c0)] 24 (0, 0))) := ⟨by rw [hw1]; exact blk_alloc (heap_alloc_new _ _) _⟩
  have HX2 : Aside0 (w1.heap[w0.heap.size + 1]? = some (.cells #[.int .i64 e, (.slice A1 hs.length c1)] 48 (0, 0))) := ⟨by rw [hw1]; have h_ := heap_alloc_new (w0.alloc (.cells #[.int .i64 n, (.slice A0 ls.length c0)] 24)) (.cells #[.int .i64 e, (.slice A1 hs.length c1)] 48 (0, 0)); rwa [show (w0.alloc (.cells #[.int .i64 n, (.slice A0 ls.length c0)] 24)).heap.size = w0.heap.size + 1 from by simp] at h_⟩
  go_enter Try.func35, Try.ntmps35
  go_upto_region 1 with (fail)
  rw [← hw1]
  clear hw1
  have m0 := (blk_cell HX1.out 0).trans rfl
  have m1 := (blk_cell HX1.out 1).trans rfl
  have p0 := (blk_cell HX2.out 0).trans rfl
  have p1 := (blk_cell HX2.out 1).trans rfl
  have HANY : Aside0 (ls.any (fun _ => false) = false) := ⟨by simp⟩
  go_upto_region 3 with (first | (go_at_call 27; (with_reducible refine (model_Right.calls n A0 c0 ls true w1 (Kd.C_below HR0.out HB1.out) HMC.out H27.out).mono ?_); rintro e_ w2 ⟨rfl, hb⟩; have NB := Aside0.mk (below_step HB1.out (hb)); have N1 := Aside0.mk (blk_below HX1.out (hb)); have N2 := Aside0.mk (blk_below HX2.out (hb)); clear HB1 HX1 HX2 m0 m1 p0 p1; have HB1 := NB; have HX1 := N1; have HX2 := N2; clear NB N1 N2; have m0 := (blk_cell HX1.out 0).trans rfl; have m1 := (blk_cell HX1.out 1).trans rfl; have p0 := (blk_cell HX2.out 0).trans rfl; have p1 := (blk_cell HX2.out 1).trans rfl; clear hb) | (go_at_call 28; (with_reducible refine (model_Tokens.calls n A0 c0 ls At ct tok true w2 (Kd.C_below HR0.out HB1.out) HMC.out (Kd.C_below HTK.out HB1.out) HTC.out H28.out).mono ?_); rintro e_ w3 ⟨rfl, hb⟩; have NB := Aside0.mk (below_step HB1.out (hb)); have N1 := Aside0.mk (blk_below HX1.out (hb)); have N2 := Aside0.mk (blk_below HX2.out (hb)); clear HB1 HX1 HX2 m0 m1 p0 p1; have HB1 := NB; have HX1 := N1; have HX2 := N2; clear NB N1 N2; have m0 := (blk_cell HX1.out 0).trans rfl; have m1 := (blk_cell HX1.out 1).trans rfl; have p0 := (blk_cell HX2.out 0).trans rfl; have p1 := (blk_cell HX2.out 1).trans rfl; clear hb) | (go_at_call 56; (with_reducible refine (place_Right.calls k e A1 c1 hs true w3 (Kd.C_below HH.out HB1.out) HHC.out H56.out).mono ?_); rintro e_ w4 ⟨rfl, hb⟩; have NB := Aside0.mk (below_step HB1.out (hb)); have N1 := Aside0.mk (blk_below HX1.out (hb)); have N2 := Aside0.mk (blk_below HX2.out (hb)); clear HB1 HX1 HX2 m0 m1 p0 p1; have HB1 := NB; have HX1 := N1; have HX2 := N2; clear NB N1 N2; have m0 := (blk_cell HX1.out 0).trans rfl; have m1 := (blk_cell HX1.out 1).trans rfl; have p0 := (blk_cell HX2.out 0).trans rfl; have p1 := (blk_cell HX2.out 1).trans rfl; clear hb) | (go_at_call 41; refine (has41_calls k31 rfl 57 Try.func57 rfl rfl #[.pointer (some ⟨w0.heap.size + 1, 0, none⟩)] (fun _ => false) A0 c0 ls w4 ?s1 ?s2).mono ?_; (case s1 => exact Kd.C_below HR0.out HB1.out); (case s2 => (intro x v0 v1 v2 W' hx hk hb; obtain ⟨B0, d0, B1, d1, hv, _, _, _, _⟩ := k31_open hk; obtain ⟨e0_, hv0_⟩ := List.cons.inj hv; obtain ⟨e1_, hv1_⟩ := List.cons.inj hv0_; obtain ⟨e2_, _⟩ := List.cons.inj hv1_; subst e0_; subst e1_; subst e2_; exact fleet_New_1.calls B0 d0 B1 d1 x A1 c1 hs.length (w0.heap.size + 1) W' (HFI.out x hx) ((blk_cell (blk_below HX2.out hb) 1).trans rfl))); rintro e_ w5 ⟨rfl, hb⟩; rw [HANY.out]; have NB := Aside0.mk (below_step HB1.out (hb)); have N1 := Aside0.mk (blk_below HX1.out (hb)); have N2 := Aside0.mk (blk_below HX2.out (hb)); clear HB1 HX1 HX2 m0 m1 p0 p1; have HB1 := NB; have HX1 := N1; have HX2 := N2; clear NB N1 N2; have m0 := (blk_cell HX1.out 0).trans rfl; have m1 := (blk_cell HX1.out 1).trans rfl; have p0 := (blk_cell HX2.out 0).trans rfl; have p1 := (blk_cell HX2.out 1).trans rfl; clear hb))
  clear m0 m1 p0 p1
  have HD := Aside0.mk (below_drew (Below.refl w5.heap.size w5))
  have HB6 := Aside0.mk (below_step HB1.out HD.out)
  have HX61 := Aside0.mk (blk_below HX1.out HD.out)
  have HX62 := Aside0.mk (blk_below HX2.out HD.out)
  refine startM_ [5] (n := 7) (S := fun W => W.cell? ⟨w0.heap.size, 0, none⟩ = some (.int .i64 n) ∧ W.cell? ⟨w0.heap.size, 1, none⟩ = some ((.slice A0 ls.length c0)) ∧ W.cell? ⟨w0.heap.size + 1, 0, none⟩ = some (.int .i64 e) ∧ W.cell? ⟨w0.heap.size + 1, 1, none⟩ = some ((.slice A1 hs.length c1))) (by kernel_rfl) rfl ⟨(blk_cell HX61.out 0).trans rfl, (blk_cell HX61.out 1).trans rfl, (blk_cell HX62.out 0).trans rfl, (blk_cell HX62.out 1).trans rfl⟩ (fun hHeld => ?_)
  clear HD
  generalize w5.drew = w6 at HB6 HX61 HX62 hHeld ⊢
  iterate 3 (first | (refine pureM_ (v := ?_) (a' := ?_) rfl rfl (any_of rfl (by kernel_rfl)) (fun _ _ _ h => h) (Or.inl ⟨by rfl, ?_⟩) ?_ ?_; rotate_left; (intro w'; go_simp; with_reducible rfl); rotate_left; (simp only [Act.put, List.setIfInBounds_toArray, List.set_cons_zero, List.set_cons_succ, i64_w, i32_w]; rfl)) | (refine takeM_ (v := ?_) (a' := ?_) rfl rfl (take_of rfl (by kernel_rfl)) (fun _ _ _ h => h) (Or.inl ⟨by rfl, ?_⟩) hHeld ?_ ?_; rotate_left; (rintro w' ⟨s0_, s1_, s2_, s3_⟩; go_simp; with_reducible rfl); rotate_left; (simp only [Act.put, List.setIfInBounds_toArray, List.set_cons_zero, List.set_cons_succ, i64_w, i32_w]; rfl)) | (refine pureM_ (v := undef) (a' := ?_) rfl rfl (any_of rfl (by kernel_rfl)) (fun _ _ _ h => h) (Or.inr ⟨by rfl, rfl⟩) ?_ ?_; rotate_left; (simp only [Act.put, List.setIfInBounds_toArray, List.set_cons_zero, List.set_cons_succ, i64_w, i32_w]; rfl)))
  clear hHeld
  refine one_ (i := 3) (N := some 32) (mk_ 4 7) rfl rfl (one_of rfl (by kernel_rfl)) (by decide) (fun K hK => ?_)
  refine goes_ Try.func53 (by kernel_rfl) rfl #[.slice At tok.length ct] (by rfl) rfl rfl (by (try simp only [List.map_toArray, List.map_cons, List.map_nil]); first | done | rfl) ?_
  refine (slices_Clone_int_int_53.calls (fun k_ => k_ < w0.heap.size) At ct tok tok w6 (Kd.V_map (Kd.V_below HV0.out HB6.out) (fun _ hf => hf)) HCL.out).mono ?_
  rintro e_ w7 ⟨vt, rfl, ho, hb⟩
  have HB7 := Aside0.mk (below_step HB6.out hb)
  have HVT := Aside0.mk (Kd.V_bound (Kd.N_V (base' := 0) ho))
  obtain ⟨Ac, cc, rfl⟩ := Kd.N_slice ho
  have NX1 := Aside0.mk (blk_below HX61.out hb)
  have NX2 := Aside0.mk (blk_below HX62.out hb)
  clear ho hb
  refine ⟨_, rfl, ?_⟩
  refine hK.out _ _ ⟨(blk_cell NX1.out 0).trans rfl, (blk_cell NX1.out 1).trans rfl, (blk_cell NX2.out 0).trans rfl, (blk_cell NX2.out 1).trans rfl⟩ (fun hHeld => ?_)
  clear hK K
  refine norm_ (a' := ?_) ?_ ?_
  rotate_left
  · show Act.put _ (some 32) _ = _
    simp only [Act.put, List.setIfInBounds_toArray, List.set_cons_zero, List.set_cons_succ, i64_w, i32_w]
    rfl
  iterate 1 (refine pureM_ (v := ?_) (a' := ?_) rfl rfl (any_of rfl (by kernel_rfl)) (fun _ _ _ h => h) (Or.inl ⟨by rfl, ?_⟩) ?_ ?_; rotate_left; (intro w'; go_simp; with_reducible rfl); rotate_left; (simp only [Act.put, List.setIfInBounds_toArray, List.set_cons_zero, List.set_cons_succ, i64_w, i32_w]; rfl))
  refine last_ (i := 5) (N := some 34) (mk_ 6 7) rfl rfl (one_of rfl (by kernel_rfl)) (by decide) (fun K hK => ?_)
  refine box_step ?hg (N := 34) ?hd (cs := #[.int .i64 n, (.slice A0 ls.length c0), .int .i64 e, (.slice A1 hs.length c1), .slice none 0 0, .slice none 0 0, .slice none 0 0, .slice none 0 0, .slice none 0 0, .slice none 0 0, .slice Ac tok.length cc, .int .i64 0, .slice none 0 0, .slice none 0 0, .slice none 0 0]) (t := 117) ?hr ?_; (case hd => rfl); (case hg => rfl); (case hr => first | (go_simp; done) | (go_simp; rfl))
  intro ga hga w8 hbox hb
  have HB8 : Aside0 (FB w0 w8 ga n (.slice A0 ls.length c0) e (.slice A1 hs.length c1) ((⟨fun _ => [], [], tok, 0, [], [], []⟩ : FS)) (fun _ => .slice none 0 0) (.slice none 0 0) (.slice Ac tok.length cc) (.slice none 0 0) (.slice none 0 0) (.slice none 0 0)) := ⟨by
    refine ⟨below_step HB7.out hb, by rw [hga]; exact HB7.out.size, hbox, fun _ _ => Kd.V_nil _ _ _ _ _, Kd.V_nil _ _ _ _ _, ?_, Kd.V_nil _ _ _ _ _, Kd.N_nil _ _ _ _ _, Kd.R_nil _ _ _ _ _⟩
    exact Kd.V_mono (Kd.V_below HVT.out hb) (fun k_ hk => ⟨by rw [hga]; exact Nat.ne_of_lt hk.2, by simp [Value.ownBlock], by simp [Value.ownBlock]⟩)⟩
  clear hbox hb hga HVT
  refine hK.out _ _ ?_
  clear hK K
  refine norm_ (a' := ?_) ?_ ?_
  rotate_left
  · show Act.put _ (some 34) _ = _
    simp only [Act.put, List.setIfInBounds_toArray, List.set_cons_zero, List.set_cons_succ, i64_w, i32_w]
    rfl
  iterate 1 (refine pureM_ (v := ?_) (a' := ?_) rfl rfl (any_of rfl (by kernel_rfl)) (fun _ _ _ h => h) (Or.inl ⟨by rfl, ?_⟩) ?_ ?_; rotate_left; (intro w'; go_simp; with_reducible rfl); rotate_left; (simp only [Act.put, List.setIfInBounds_toArray, List.set_cons_zero, List.set_cons_succ, i64_w, i32_w]; rfl))
  refine done_ (done_of rfl (by kernel_rfl)) ?_
  clear hHeld HB7 HB6 HX61 HX62 NX1 NX2 HX1 HX2 HB1 HANY
  have HP0 : Aside0 (model_Parts.f k (rd_T31 ls ((0 : Nat) : Int)).f0 (rd_T31 ls ((0 : Nat) : Int)).f1 (rd_T31 ls ((0 : Nat) : Int)).f2 tok = some (R.P 0)) := ⟨by rw [← HT0.out]; exact HRN.out.parts 0 HPO.out⟩
  have HA0 : Aside0 (AskH k e hs ({ (⟨fun _ => [], [], tok, 0, [], [], []⟩ : FS) with PS := R.P 0, ans := List.replicate (R.P 0).length [], bs := List.replicate (R.P 0).length false }) (R.d 0) (R.fa 0)) := ⟨by rw [← HT0.out]; exact HRN.out.ask 0 HPO.out (fun _ => [])⟩
  have HOLD : Aside0 (R.Old 0 0 (fun _ => [])) := ⟨fun t => ⟨Nat.zero_le _, fun x hx => by cases hx⟩⟩
  have HHD : Aside0 (HeadS R ls.length 0 (R.sA (fun _ => []) 0 0)) := ⟨by
    refine ⟨rfl, ?_⟩
    by_cases hz : R.n 0 = 0
    · exact .inr (.inl ⟨HPO.out, fun _ => [], by rw [hz]; exact HOLD.out, sA_empty R _ 0 hz⟩)
    · exact .inr (.inr ⟨HPO.out, sA_open R _ 0 (by omega) (HRN.out.np 0 HPO.out)⟩)⟩
  have HE : Aside0 (({ (⟨fun _ => [], [], tok, 0, [], [], []⟩ : FS) with PS := R.P 0, ans := List.replicate (R.P 0).length [], bs := List.replicate (R.P 0).length false, bag := [] ++ (List.range (R.P 0).length).map (R.fa 0) } : FS) = R.sA (fun _ => []) 0 0) := ⟨by rw [sA_none, HT0.out]; rfl⟩
  go_wp2_with (first | (go_at_call 58; (with_reducible refine (fleet_begin.calls w0 w8 ga n A0 c0 ls e A1 c1 hs (⟨fun _ => [], [], tok, 0, [], [], []⟩ : FS) _ _ _ _ _ _ k (R.d 0) (R.fa 0) (R.P 0) HR0.out HMC.out HH.out HHC.out HB8.out HPO.out HP0.out HA0.out).mono ?_); rintro e_ w9 ⟨rfl, hF⟩; have HF9 : Aside0 (Fl w0 w9 ga n (.slice A0 ls.length c0) e (.slice A1 hs.length c1) (R.sA (fun _ => []) 0 0)) := ⟨by rw [← HE.out]; exact hF⟩; clear hF) | (go_at_call 59; (with_reducible refine (fleet_come.calls w0 w9 ga n A0 c0 ls e A1 c1 hs k R HRN.out 0 _ HR0.out HMC.out HH.out HHC.out HF9.out HHD.out).mono ?_); rintro e_ w10 ⟨rfl, i, s', hF, hN_⟩; have hN := new_next HPO.out hN_; have HF10 := Aside0.mk hF; have HN10 := Aside0.mk hN; clear hF hN hN_))
  go_ret2
  exact ⟨ga, rfl, i, s', HF10.out, HN10.out⟩
end Go.Proofs.Ytfipiohchnaglaa.Pu
