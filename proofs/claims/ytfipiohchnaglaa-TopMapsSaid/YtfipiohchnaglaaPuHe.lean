/- Own text, by hand: PuH, PuE -/
import Derived.Test.YtfipiohchnaglaaPu0
import Derived.Test.YtfipiohchnaglaaPu15
import Derived.Test.YtfipiohchnaglaaPuHa
import Derived.Test.YtfipiohchnaglaaPuHc
import Derived.Test.YtfipiohchnaglaaPuHd
namespace Go.Proofs.Ytfipiohchnaglaa.Pu
open Go.RowKit Go.Proofs.YtfipiohchnaglaaW.PrintWords Go.Proofs.YtfipiohchnaglaaW.PrintLast Go.Proofs.YtfipiohchnaglaaW.PrintMore
attribute [local go_sem] max2_int min2_int max_two min_two max_three min_three max_four min_four
set_option linter.unusedVariables false
set_option linter.unusedSimpArgs false
/-- The part j of layer i. -/
def RunD.p (R : RunD) (i j : Nat) : S76 := rd_T76 (R.P i) (j : Int)
/-- Its token. -/
def RunD.row (R : RunD) (i j : Nat) : List Int := rd_L1 (R.T i) (R.p i j).f0
structure RunG (R : RunD) (k : Nat) (n e : Int) (hs : List (List Int)) (ls : List S31) : Prop where
  H : RunH R k n e hs ls
  N : ls.length ≤ 30
  nd : ∀ i j, i < ls.length → j < R.n i → ∃ t : Nat, R.d i j = (t : Int) ∧ 1 ≤ t ∧ t ≤ 4
  takeA : ∀ i j, i < ls.length → j < R.n i → ∃ u c, TakeH k (R.fa i j) 1 0 (R.d i j) 0 1 (i : Int) (R.p i j).f0 (R.p i j).f1 (R.p i j).f2 e (R.row i j) u c
  takeB : ∀ i j, i < ls.length → j < R.n i → ∃ u c, TakeH k (R.fb i j) 2 (R.d i j) 0 0 1 (i : Int) (R.p i j).f0 (R.p i j).f1 (R.p i j).f2 e (R.an i j) u c
  work : ∀ i j, i < ls.length → j < R.n i → ∀ (L : Nat → List S167) (t : Nat), R.Old i j L → WorkH k n ls e hs 0 (R.d i j) 0 1 (i : Int) (R.p i j).f0 (R.p i j).f1 (R.p i j).f2 (R.row i j) (L t) (R.an i j) (L t ++ [⟨⟨1, (i : Int), (R.p i j).f0, (R.p i j).f1⟩, R.an i j⟩])
  put : ∀ i j, i < ls.length → j < R.n i → wire_Put.f k 2 (R.d i j) 0 0 1 (i : Int) (R.p i j).f0 (R.p i j).f1 (R.p i j).f2 e (R.an i j) = some (R.fb i j, 0)
  idx : ∀ i j, i < ls.length → j < R.n i → idxFrom90 (fun x => partB x (R.p i j).f0 (R.p i j).f1 (R.p i j).f2) (R.P i) 0 = (j : Int)
  len : ∀ i j, i < ls.length → j < R.n i → n = ((R.an i j).length : Int)
/-- Where the deliveries stand: c were made. -/
def StageS (R : RunD) (N c : Nat) (s : FS) : Prop :=
  (s.at_ = N ∧ s.tok = R.T N ∧ s.bag = [] ∧ c ≤ 64 * N) ∨
  ∃ i, i < N ∧ ((∃ L a, a < R.n i ∧ R.Old i a L ∧ s = R.sA L i a ∧ c ≤ 64 * i + a) ∨ (∃ L b, b < R.n i ∧ R.Old i (R.n i) L ∧ s = R.sB L i b ∧ c ≤ 64 * i + R.n i + b))
theorem StageS.of_next {R : RunD} {N i c : Nat} {s : FS} (h : NextS R N i s) (hc : c ≤ 64 * i) : StageS R N c s := by
  obtain ⟨hat, h⟩ := h
  rcases h with ⟨hi, ht, hb⟩ | ⟨hi, hn, L, ho, hs⟩
  · subst hi
    exact .inl ⟨hat, ht, hb, hc⟩
  · exact .inr ⟨i, hi, .inl ⟨L, 0, hn, ho, hs, by omega⟩⟩
theorem RunD.Old.add {R : RunD} {i a : Nat} {L : Nat → List S167} (h : R.Old i a L) (t : Nat) (y : List Int) : R.Old i (a + 1) (fun j => if j = t then L t ++ [⟨⟨1, (i : Int), (R.p i a).f0, (R.p i a).f1⟩, y⟩] else L j) := by
  have key : ∀ j, ∀ x ∈ L j, x.f0.f1 < (i : Int) ∨ (x.f0.f1 = (i : Int) ∧ ∃ q : Nat, q < a + 1 ∧ x.f0.f2 = (rd_T76 (R.P i) (q : Int)).f0 ∧ x.f0.f3 = (rd_T76 (R.P i) (q : Int)).f1) := fun j x hx => by
    rcases (h j).2 x hx with h1 | ⟨h1, q, h2, h3⟩
    · exact .inl h1
    · exact .inr ⟨h1, q, by omega, h3⟩
  intro j
  refine ⟨?_, fun x hx => ?_⟩
  · by_cases hj : j = t
    · simp only [hj, if_true, List.length_append, List.length_singleton]
      have := (h t).1
      omega
    · simp only [if_neg hj]
      have := (h j).1
      omega
  by_cases hj : j = t
  · simp only [hj, if_true] at hx
    rcases List.mem_append.1 hx with hx | hx
    · exact key t x hx
    · obtain rfl := List.mem_singleton.1 hx
      exact .inr ⟨rfl, a, by omega, rfl, rfl⟩
  · simp only [if_neg hj] at hx
    exact key j x hx
theorem drop_head {n a : Nat} (f : Nat → ByteArray) (h : a < n) : ((List.range n).map f).drop a = f a :: ((List.range n).map f).drop (a + 1) := by
  have hl : a < ((List.range n).map f).length := by simpa using h
  rw [List.drop_eq_getElem_cons hl]
  simp
theorem set_if (n b : Nat) (f : Nat → List Int) (h : b < n) : ((List.range n).map (fun j => if j < b then f j else [])).set b (f b) = (List.range n).map (fun j => if j < b + 1 then f j else []) := by
  apply List.ext_getElem
  · simp
  · intro j h1 h2
    simp only [List.getElem_set, List.getElem_map, List.getElem_range]
    by_cases hj : b = j
    · subst hj
      simp
    · rw [if_neg hj]
      by_cases hjb : j < b
      · rw [if_pos hjb, if_pos (by omega)]
      · rw [if_neg hjb, if_neg (by omega)]
theorem set_dec (n b : Nat) (h : b < n) : ((List.range n).map (fun j => decide (j < b))).set b true = (List.range n).map (fun j => decide (j < b + 1)) := by
  apply List.ext_getElem
  · simp
  · intro j h1 h2
    simp only [List.getElem_set, List.getElem_map, List.getElem_range]
    by_cases hj : b = j
    · subst hj
      simp
    · rw [if_neg hj]
      by_cases hjb : j < b
      · rw [decide_eq_true hjb, decide_eq_true (by omega)]
      · rw [decide_eq_false hjb, decide_eq_false (by omega)]
theorem rd_dec (n b : Nat) (h : b < n) : rdOf false ((List.range n).map (fun j => decide (j < b))) (b : Int) = false := by
  unfold rdOf
  rw [Int.toNat_natCast, List.getD_eq_getElem?_getD, List.getElem?_eq_getElem (by simpa using h)]
  simp
theorem false_dec (n b : Nat) : false ∈ (List.range n).map (fun j => decide (j < b)) ↔ b < n := by
  rw [List.mem_map]
  constructor
  · rintro ⟨j, hj, h⟩
    have h1 := List.mem_range.1 hj
    have h2 := of_decide_eq_false h
    omega
  · intro h
    exact ⟨b, List.mem_range.2 h, decide_eq_false (by omega)⟩
section
variable (w0 w : World) (g : Nat) (n : Int) (A0 : Option Addr) (c0 : Nat) (ls : List S31) (e : Int) (A1 : Option Addr) (c1 : Nat) (hs : List (List Int)) (k : Nat) (R : RunD)
/-- A delivery more. -/
theorem run_step (G : RunG R k n e hs ls) (hm : Kd.C k31 w0 A0 ls.length ls) (hmc : ls.length ≤ c0) (hh : Kd.C (Kd.slice 3 (Kd.int .i64)) w0 A1 hs.length hs) (hhc : hs.length ≤ c1) (c : Nat) (s : FS) (hF : Fl w0 w g n (.slice A0 ls.length c0) e (.slice A1 hs.length c1) s)
    (i : Nat) (hi : i < ls.length) (h : (∃ L a, a < R.n i ∧ R.Old i a L ∧ s = R.sA L i a ∧ c ≤ 64 * i + a) ∨ (∃ L b, b < R.n i ∧ R.Old i (R.n i) L ∧ s = R.sB L i b ∧ c ≤ 64 * i + R.n i + b)) :
    Calls Try.prog 36 #[.pointer (some ⟨g, 0, none⟩), .int .i64 0] w fun e_ w' => e_ = .returned (.int .i64 0) ∧ ∃ s', Fl w0 w' g n (.slice A0 ls.length c0) e (.slice A1 hs.length c1) s' ∧ StageS R ls.length (c + 1) s' := by
  obtain ⟨lv, vb, vt, vp, va, vd, hB⟩ := hF
  have hn32 := G.H.np i hi
  rcases h with ⟨L, a, ha, ho, rfl, hc⟩ | ⟨L, b, hb, ho, rfl, hc⟩
  · obtain ⟨t, hdt, ht1, ht4⟩ := G.nd i a hi ha
    obtain ⟨u, cc, hT⟩ := G.takeA i a hi ha
    have hW := G.work i a hi ha L t ho
    have hP := G.put i a hi ha
    rw [hdt] at hT hW hP
    have hbag : (R.sA L i a).bag = R.fa i a :: (((List.range (R.n i)).map (R.fa i)).drop (a + 1) ++ (List.range a).map (R.fb i)) := by
      show ((List.range (R.n i)).map (R.fa i)).drop a ++ (List.range a).map (R.fb i) = _
      rw [drop_head (R.fa i) ha]
      rfl
    refine (fleet_Deliver.asks w0 w g n A0 c0 ls e A1 c1 hs (R.sA L i a) lv vb vt vp va vd k hm hmc hh hhc (R.fa i a) (R.fb i a) _ t (R.p i a).f0 (R.p i a).f1 (R.p i a).f2 (R.row i a) u cc (R.an i a) _ hB hbag (by simp; omega) ht1 ht4 hT hW hP).mono ?_
    rintro e_ w' ⟨rfl, hF⟩
    refine ⟨rfl, _, hF, .inr ⟨i, hi, ?_⟩⟩
    have hst : ({ R.sA L i a with bag := (((List.range (R.n i)).map (R.fa i)).drop (a + 1) ++ (List.range a).map (R.fb i)) ++ [R.fb i a], L := fun j => if j = t then L t ++ [⟨⟨1, (i : Int), (R.p i a).f0, (R.p i a).f1⟩, R.an i a⟩] else L j } : FS) = R.sA (fun j => if j = t then L t ++ [⟨⟨1, (i : Int), (R.p i a).f0, (R.p i a).f1⟩, R.an i a⟩] else L j) i (a + 1) := by
      unfold RunD.sA
      rw [List.append_assoc, List.range_succ, List.map_append]
      rfl
    have hold := ho.add t (R.an i a)
    by_cases hl : a + 1 < R.n i
    · exact .inl ⟨_, a + 1, hl, hold, hst, by omega⟩
    · have hl' : a + 1 = R.n i := by omega
      refine .inr ⟨_, 0, by omega, by rw [← hl']; exact hold, hst.trans (by rw [hl']; exact R.sA_sB _ i), by omega⟩
  · obtain ⟨u, cc, hT⟩ := G.takeB i b hi hb
    have hbag : (R.sB L i b).bag = R.fb i b :: ((List.range (R.n i)).map (R.fb i)).drop (b + 1) := drop_head (R.fb i) hb
    have hst : ({ R.sB L i b with bag := ((List.range (R.n i)).map (R.fb i)).drop (b + 1), ans := (R.sB L i b).ans.set b (R.an i b), bs := (R.sB L i b).bs.set b true } : FS) = R.sB L i (b + 1) := by
      unfold RunD.sB
      show FS.mk L _ (R.T i) i (R.P i) (List.set _ b (R.an i b)) (List.set _ b true) = _
      rw [set_if (R.n i) b (R.an i) hb, set_dec (R.n i) b hb]
    refine (fleet_Deliver.answers w0 w g n A0 c0 ls e A1 c1 hs (R.sB L i b) lv vb vt vp va vd k (R.fb i b) _ (R.d i b) 0 (R.p i b).f0 (R.p i b).f1 (R.p i b).f2 e (R.an i b) u cc b hB hbag (by simp; omega) hT hi (G.len i b hi hb) (G.idx i b hi hb) hb (by simp [RunD.sB, RunD.n]) (by simp [RunD.sB, RunD.n]) (rd_dec (R.n i) b hb) (fun w' => ∃ s', Fl w0 w' g n (.slice A0 ls.length c0) e (.slice A1 hs.length c1) s' ∧ StageS R ls.length (c + 1) s') ?_).mono (fun e_ w' h => h)
    intro w1 hF1
    rw [hst] at hF1
    have hhead : HeadS R ls.length i (R.sB L i (b + 1)) := by
      refine ⟨rfl, ?_⟩
      by_cases hl : b + 1 < R.n i
      · exact .inr (.inr ⟨hi, (false_dec (R.n i) (b + 1)).2 hl, by simp [RunD.sB]; omega⟩)
      · have hl' : b + 1 = R.n i := by omega
        rw [hl']
        exact .inr (.inl ⟨hi, L, ho, rfl⟩)
    refine (fleet_come.calls w0 w1 g n A0 c0 ls e A1 c1 hs k R G.H i _ hm hmc hh hhc hF1 hhead).mono ?_
    rintro e_ w' ⟨rfl, i', s', hF, hN⟩
    refine ⟨rfl, s', hF, ?_⟩
    rcases hN with ⟨rfl, rfl, h⟩ | ⟨hlt, hN⟩
    · rcases h with h | h
      · omega
      · exact .inr ⟨i', hi, .inr ⟨L, b + 1, (false_dec (R.n i') (b + 1)).1 h, ho, rfl, by omega⟩⟩
    · exact StageS.of_next hN (by omega)
end
/-- What a fleet asks of a model, a map and tokens. -/
structure EndsH (R : RunD) (k : Nat) (n e : Int) (hs : List (List Int)) (ls : List S31) (tok : List (List Int)) : Prop where
  G : RunG R k n e hs ls
  T0 : R.T 0 = tok
  pos : 0 < ls.length
  h27 : model_Right.f n ls = some true
  h28 : model_Tokens.f n ls tok = some true
  h56 : place_Right.f k e hs = some true
  fit : ∀ x ∈ ls, x.f1.length ≤ hs.length
  cl0 : slices_Clone_int_int_53.f tok = some tok
  clN : slices_Clone_int_int_53.f (R.T ls.length) = some (R.T ls.length)
theorem StageS.le {R : RunD} {N c : Nat} {s : FS} (h : StageS R N c s) (h32 : ∀ i, i < N → R.n i ≤ 32) : c ≤ 64 * N := by
  rcases h with ⟨_, _, _, h⟩ | ⟨i, hi, ⟨_, a, ha, _, _, h⟩ | ⟨_, b, hb, _, _, h⟩⟩
  · exact h
  · have := h32 i hi
    omega
  · have := h32 i hi
    omega
set_option maxHeartbeats 8000000 in
set_option maxRecDepth 100000 in
theorem switchboardtop_ends.calls (w : World) (n : Int) (A0 : Option Addr) (c0 : Nat) (ls : List S31) (e : Int) (A1 : Option Addr) (c1 : Nat) (hs : List (List Int)) (At : Option Addr) (ct : Nat) (tok : List (List Int)) (k : Nat) (R : RunD) (hE : EndsH R k n e hs ls tok) (hm : Kd.C k31 w A0 ls.length ls) (hmc : ls.length ≤ c0) (hh : Kd.C (Kd.slice 3 (Kd.int .i64)) w A1 hs.length hs) (hhc : hs.length ≤ c1) (ht : Kd.C (Kd.slice 3 (Kd.int .i64)) w At tok.length tok) (htc : tok.length ≤ ct) :
    Calls Try.prog 16 #[.agg #[.int .i64 n, (.slice A0 ls.length c0)], .agg #[.int .i64 e, (.slice A1 hs.length c1)], .slice At tok.length ct] w fun e_ w' => ∃ v, e_ = .returned (.tuple #[v, .bool true]) ∧ Kd.V (Kd.slice 3 (Kd.int .i64)) 54 w' 0 (fun _ => True) v (R.T ls.length) ∧ Below w.heap.size w w' := by
  have hu24 := Try.underlying24
  have hu48 := Try.underlying48
  have HE := Aside0.mk hE
  have HM := Aside0.mk hm
  have HMC := Aside0.mk hmc
  have HH := Aside0.mk hh
  have HHC := Aside0.mk hhc
  have HTK := Aside0.mk ht
  have HTC := Aside0.mk htc
  clear hE hm hmc hh hhc ht htc
  obtain ⟨w1, hw1⟩ : ∃ w1, w1 = (w.alloc (.cells #[.int .i64 n, (.slice A0 ls.length c0)] 24)).alloc (.cells #[.int .i64 e, (.slice A1 hs.length c1)] 48) := ⟨_, rfl⟩
  have HB1 : Aside0 (Below w.heap.size w w1) := ⟨by rw [hw1]; exact below_alloc (below_alloc (Below.refl _ _) _) _⟩
  have HX1 : Aside0 (w1.heap[w.heap.size]? = some (.cells #[.int .i64 n, (.slice A0 ls.length c0)] 24 (0, 0))) := ⟨by rw [hw1]; exact blk_alloc (heap_alloc_new _ _) _⟩
  have HX2 : Aside0 (w1.heap[w.heap.size + 1]? = some (.cells #[.int .i64 e, (.slice A1 hs.length c1)] 48 (0, 0))) := ⟨by rw [hw1]; have h_ := heap_alloc_new (w.alloc (.cells #[.int .i64 n, (.slice A0 ls.length c0)] 24)) (.cells #[.int .i64 e, (.slice A1 hs.length c1)] 48 (0, 0)); rwa [show (w.alloc (.cells #[.int .i64 n, (.slice A0 ls.length c0)] 24)).heap.size = w.heap.size + 1 from by simp] at h_⟩
  go_enter Try.func16, Try.ntmps16
  go_upto_region 1 with (fail)
  rw [← hw1]
  clear hw1
  have m0 := (blk_cell HX1.out 0).trans rfl
  have m1 := (blk_cell HX1.out 1).trans rfl
  have p0 := (blk_cell HX2.out 0).trans rfl
  have p1 := (blk_cell HX2.out 1).trans rfl
  have HM1 := Aside0.mk (Kd.C_below HM.out HB1.out)
  have HH1 := Aside0.mk (Kd.C_below HH.out HB1.out)
  go_wp2_with (go_at_call 35; (with_reducible refine (fleet_New.calls w1 n A0 c0 ls e A1 c1 hs At ct tok k R HE.out.G.H HE.out.T0 HM1.out HMC.out HH1.out HHC.out (Kd.C_below HTK.out HB1.out) HTC.out HE.out.pos HE.out.h27 HE.out.h28 HE.out.h56 HE.out.fit HE.out.cl0).mono ?_); rintro e_ w2 ⟨g, rfl, i0, s0, hF, hN⟩; have HF2 := Aside0.mk hF; have HS2 : Aside0 (StageS R ls.length 0 s0) := ⟨StageS.of_next hN (Nat.zero_le _)⟩; clear hF hN m0 m1 p0 p1)
  go_loopw [23] (fun v23 w' => ∃ (c : Nat) (s : FS), v23 = .int .i64 (c : Int) ∧ Aside0 (Fl w1 w' g n (.slice A0 ls.length c0) e (.slice A1 hs.length c1) s) ∧ Aside0 (StageS R ls.length c s)) (fun v23 _ => 2000 - (intOf v23).toNat)
  case atStart => exact ⟨0, s0, rfl, HF2, HS2⟩
  case round =>
    clear HF2 HS2 HX1 HX2
    obtain ⟨c, s, rfl, HF, HS⟩ := hrel
    have hc : c < 2000 := by have h1 := HS.out.le HE.out.G.H.np; have h2 := HE.out.G.N; omega
    have hci : decide ((c : Int) < 2000) = true := decide_eq_true (by omega)
    have hcn : decide (c < 2000) = true := decide_eq_true hc
    rcases HS.out with ⟨h1, h2, h3, h4⟩ | ⟨i, hi, hst⟩
    · obtain ⟨lv, vb, vt, vp, va, vd, hB⟩ := HF.out
      have HC1 := Aside0.mk (fleet_Deliver.empty w1 wr g n A0 c0 ls e A1 c1 hs s lv vb vt vp va vd h3 hB)
      have H1 := Aside0.mk h1
      have H2 := Aside0.mk h2
      have HCN : Aside0 (slices_Clone_int_int_53.f s.tok = some s.tok) := ⟨by rw [H2.out]; exact HE.out.clN⟩
      clear hB h1 h2 h3 h4
      go_wp2_with (first | (go_at_call 36; (with_reducible refine HC1.out.mono ?_); rintro e_ w3 ⟨rfl, hF⟩; have HF3 := Aside0.mk hF; clear hF) | (go_at_call 37; (with_reducible refine (fleet_Done.calls w1 w3 g n A0 c0 ls e A1 c1 hs s H1.out HCN.out HF3.out).mono ?_); rintro e_ w4 ⟨v, rfl, hv, hb⟩; have HV4 := Aside0.mk hv; have HB4 := Aside0.mk hb; clear hv hb))
      go_ret2
      exact ⟨_, rfl, by rw [← H2.out]; exact HV4.out, below_step HB1.out HB4.out⟩
    · have HC1 := Aside0.mk (run_step w1 wr g n A0 c0 ls e A1 c1 hs k R HE.out.G HM1.out HMC.out HH1.out HHC.out c s HF.out i hi hst)
      clear hst hi
      go_wp2_with (go_at_call 36; (with_reducible refine HC1.out.mono ?_); rintro e_ w3 ⟨rfl, s', hF, hS⟩; have HF3 := Aside0.mk hF; have HS3 := Aside0.mk hS; clear hF hS)
      go_roundw
      case rel => exact ⟨c + 1, s', by go_num, HF3, HS3⟩
      case measure => simp [intOf]; omega
end Go.Proofs.Ytfipiohchnaglaa.Pu
