/- Own text, by hand: what ModelExact's functions answer. -/
import Derived.Test.YtlicglgogklnkaaPr0
import Derived.Test.YtlicglgogklnkaaPr1
import Derived.Test.YtlicglgogklnkaaPr2
import Derived.Test.YtlicglgogklnkaaPr3
import Derived.Test.YtlicglgogklnkaaPr4
import Derived.Test.YtlicglgogklnkaaPr5
import Derived.Test.YtlicglgogklnkaaPr6
import Derived.Test.YtlicglgogklnkaaPr7
import Derived.Test.YtlicglgogklnkaaPr8
import Derived.Test.YtlicglgogklnkaaPr9
import Derived.Test.YtlicglgogklnkaaPr10
import Derived.Test.YtlicglgogklnkaaPr11
import Derived.Test.YtlicglgogklnkaaPr12
import Derived.Test.YtlicglgogklnkaaPr13
import Derived.Test.YtlicglgogklnkaaPr14
import Derived.Test.YtlicglgogklnkaaPr15
import Derived.Test.YtlicglgogklnkaaPrD
import Derived.Test.YtlicglgogklnkaaPrF
namespace Go.Proofs.Ytlicglgogklnkaa.Pr
open Go.RowKit Go.Proofs.YtlicglgogklnkaaW.PrintWords Go.Proofs.YtlicglgogklnkaaW.PrintLast Go.Proofs.YtlicglgogklnkaaW.PrintMore
attribute [local go_sem] max2_int min2_int max_two min_two max_three min_three max_four min_four
set_option linter.unusedVariables false
set_option linter.unusedSimpArgs false

theorem ev_same {α : Type} {g : Nat → Option α} {a b : α} (h : Ev g a) (h' : Ev g b) : a = b := by
  obtain ⟨K, h⟩ := h
  obtain ⟨K', h'⟩ := h'
  exact Option.some.inj ((h (max K K') (Nat.le_max_left _ _)).symm.trans (h' _ (Nat.le_max_right _ _)))
/-! ### Is a model right? Both say the same. -/
theorem goodX_of {n : Int} {y : S46} (h : expBad n y = false) : GoodX n y := by
  have e : erB y.f0 y.f1 n = true := by
    unfold expBad expOk at h
    rw [right_f] at h
    simpa using h
  unfold erB matR at e
  simp only [Bool.and_eq_true, decide_eq_true_eq, Bool.not_eq_true'] at e
  obtain ⟨_, _, h3, h4, h5, h6⟩ := e
  exact ⟨h3, h4, ⟨rfl, h5.2⟩, h6⟩
theorem goodY_of {n : Int} {x : S37} (h : layBad n x = false) : GoodY n x := by
  have e : layerOk x.f0 x.f1 x.f2 n = true := by unfold layBad at h; simpa using h
  unfold layerOk at e
  by_cases h1 : (x.f1.length : Int) ≥ 1
  · rw [if_pos h1] at e
    by_cases h2 : (x.f1.length : Int) ≤ 8
    · rw [if_pos h2] at e
      by_cases h3 : matOk x.f0 (x.f1.length : Int) n = true
      · rw [if_pos h3] at e
        by_cases h4 : x.f2 ≥ 1
        · rw [if_pos h4] at e
          by_cases h5 : x.f2 ≤ 32
          · rw [if_pos h5] at e
            unfold matOk at h3
            rw [Bool.and_eq_true, decide_eq_true_eq, Bool.not_eq_true'] at h3
            rw [Bool.not_eq_true', List.any_eq_false] at e
            exact ⟨h1, h2, h3, h4, h5, fun y hy => goodX_of (by simpa using e y hy)⟩
          · rw [if_neg h5] at e; cases e
        · rw [if_neg h4] at e; cases e
      · rw [if_neg h3] at e; cases e
    · rw [if_neg h2] at e; cases e
  · rw [if_neg h1] at e; cases e
theorem goodM_of {n : Int} {l : List S37} (e : modelOk n l = true) : GoodM n l := by
  unfold modelOk at e
  by_cases h1 : n ≥ 1
  · rw [if_pos h1] at e
    by_cases h2 : n ≤ 8
    · rw [if_pos h2] at e
      by_cases h3 : (l.length : Int) ≥ 1
      · rw [if_pos h3] at e
        by_cases h4 : (l.length : Int) ≤ 4
        · rw [if_pos h4] at e
          rw [Bool.not_eq_true', List.any_eq_false] at e
          exact ⟨h1, h2, h3, h4, fun y hy => goodY_of (by simpa using e y hy)⟩
        · rw [if_neg h4] at e; cases e
      · rw [if_neg h3] at e; cases e
    · rw [if_neg h2] at e; cases e
  · rw [if_neg h1] at e; cases e
theorem ref_right_yes {m : List (List Int)} {a b : Int} (hm : Few m) (h : RowsOk m a b) : Ev (fun k => switchboardref03_Right.f k m a b) true := by
  have := ref_right m a b (by have := hm.1; omega) (fun r hr => by have := hm.2 r hr; omega)
  rw [decide_eq_true h.1, h.2] at this
  exact this
theorem ref11_yes {y : S46} {n : Int} (hy : FewX y) (hn : 1 ≤ n ∧ n ≤ 8) (h : GoodX n y) : Ev (fun k => switchboardref11_Right.f k y.f0 y.f1 n) true := by
  obtain ⟨h1, h2, h3, h4⟩ := h
  unfold switchboardref11_Right.f
  simp only [if_neg (show ¬ n < 1 by omega), if_neg (show ¬ n > 8 by omega), if_neg (show ¬ (y.f0.length : Int) < 1 by omega), decide_eq_false (show ¬ (y.f0.length : Int) > 8 by omega)]
  refine ev_shift ?_
  simp only [switchboardref11_Right.j0, if_neg (show ¬ (false = true) by decide)]
  refine Ev.bind (ref_right_yes hy.1 h3) ?_
  simp only [if_true]
  exact Ev.bind (ref_right_yes hy.2 h4) (Ev.now _)
theorem mright_yes_l1 {n : Int} (hn : 1 ≤ n ∧ n ≤ 8) (l : List S37) (i : Nat) (hi : i < 5) (e : List S46) (he : e.length ≤ 9) (hf : ∀ y ∈ e, FewX y) (hg : ∀ y ∈ e, GoodX n y) (hr : Ev (fun k => switchboardref15_Right.l0 k l (l.length : Int) ((i + 1 : Nat) : Int) n l) true) : ∀ (d j : Nat), j + d = e.length →
    Ev (fun k => switchboardref15_Right.l1 k l (l.length : Int) (i : Int) e (e.length : Int) (j : Int) n l) true := by
  have hw1 : wrap64 ((i : Int) + 1) = ((i + 1 : Nat) : Int) := by rw [wrap_small (by omega) (by omega)]; omega
  intro d
  induction d with
  | zero =>
    intro j hj
    refine ev_shift ?_
    simp only [switchboardref15_Right.l1, if_neg (show ¬ (j : Int) < (e.length : Int) by omega), hw1]
    exact hr
  | succ d ih =>
    intro j hj
    have hw : wrap64 ((j : Int) + 1) = ((j + 1 : Nat) : Int) := by rw [wrap_small (by omega) (by omega)]; omega
    refine ev_shift ?_
    simp only [switchboardref15_Right.l1, if_pos (show (j : Int) < (e.length : Int) by omega), if_pos (show (0 : Int) ≤ (j : Int) by omega)]
    refine Ev.bind (ref11_yes (hf _ (rdE_mem (by omega))) hn (hg _ (rdE_mem (by omega)))) ?_
    simp only [if_true, hw]
    exact ih (j + 1) (by omega)
theorem mright_yes_l0 {n : Int} (hn : 1 ≤ n ∧ n ≤ 8) (l : List S37) (hl : l.length ≤ 5) (hf : ∀ x ∈ l, FewY x) (hg : ∀ x ∈ l, GoodY n x) : ∀ (d i : Nat), i + d = l.length → Ev (fun k => switchboardref15_Right.l0 k l (l.length : Int) (i : Int) n l) true := by
  intro d
  induction d with
  | zero =>
    intro i hi
    refine ev_shift ?_
    simp only [switchboardref15_Right.l0, if_neg (show ¬ (i : Int) < (l.length : Int) by omega)]
    exact Ev.now _
  | succ d ih =>
    intro i hi
    obtain ⟨f1, f2, f3⟩ := hf _ (rdY_mem (l := l) (t := i) (by omega))
    obtain ⟨g1, g2, g3, g4, g5, g6⟩ := hg _ (rdY_mem (l := l) (t := i) (by omega))
    refine ev_shift ?_
    simp only [switchboardref15_Right.l0, if_pos (show (i : Int) < (l.length : Int) by omega), if_pos (show (0 : Int) ≤ (i : Int) by omega), if_neg (show ¬ ((rd_T37 l (i : Int)).f1.length : Int) < 1 by omega), if_neg (show ¬ ((rd_T37 l (i : Int)).f1.length : Int) > 8 by omega)]
    refine Ev.bind (ref_right_yes f2 g3) ?_
    simp only [if_true, if_neg (show ¬ (rd_T37 l (i : Int)).f2 < 1 by omega), decide_eq_false (show ¬ (rd_T37 l (i : Int)).f2 > 32 by omega)]
    refine ev_shift ?_
    simp only [switchboardref15_Right.j2, if_neg (show ¬ (false = true) by decide)]
    exact mright_yes_l1 hn l i (by omega) _ f1 f3 g6 (ih (i + 1) (by omega)) (rd_T37 l (i : Int)).f1.length 0 (Nat.zero_add _)
theorem mright_is (n : Int) (l : List S37) (hf : FewM l) : Ev (fun k => switchboardref15_Right.f k n l) (modelOk n l) := by
  obtain ⟨b, hb, hq⟩ := mright_ev n l hf
  cases b with
  | true => rw [modelOk_good (hq rfl)]; exact hb
  | false =>
    cases e : modelOk n l with
    | false => exact hb
    | true =>
      obtain ⟨h1, h2, h3, h4, h5⟩ := goodM_of e
      unfold switchboardref15_Right.f
      simp only [if_neg (show ¬ n < 1 by omega), if_neg (show ¬ n > 8 by omega), if_neg (show ¬ (l.length : Int) < 1 by omega), decide_eq_false (show ¬ (l.length : Int) > 4 by omega)]
      refine ev_shift ?_
      simp only [switchboardref15_Right.j0, if_neg (show ¬ (false = true) by decide)]
      exact mright_yes_l0 ⟨h1, h2⟩ l (by omega) hf.2 h5 l.length 0 (by omega)
theorem mtokens_is (n : Int) (l : List S37) (v : List (List Int)) (hf : Few v) : Ev (fun k => switchboardref15_Tokens.f k n l v) (tokOk n v) := by
  unfold switchboardref15_Tokens.f tokOk
  by_cases h1 : (v.length : Int) > 0
  · rw [if_pos (show (v.length : Int) ≥ 1 by omega)]
    by_cases h2 : (v.length : Int) < 17
    · rw [if_pos (show (v.length : Int) ≤ 16 by omega)]
      simp only [if_pos h1, if_pos h2]
      refine Ev.bind (ref_right v (v.length : Int) n (by have := hf.1; omega) (fun r hr => by have := hf.2 r hr; omega)) ?_
      rw [decide_eq_true rfl, Bool.true_and]
      exact Ev.now _
    · rw [if_neg (show ¬ (v.length : Int) ≤ 16 by omega)]
      simp only [if_pos h1, if_neg h2]
      exact Ev.now _
  · rw [if_neg (show ¬ (v.length : Int) ≥ 1 by omega)]
    simp only [if_neg h1]
    exact Ev.now _
theorem goodT_of {n : Int} {T : List (List Int)} (e : tokOk n T = true) : GoodT n T := by
  unfold tokOk at e
  by_cases h1 : (T.length : Int) ≥ 1
  · rw [if_pos h1] at e
    by_cases h2 : (T.length : Int) ≤ 16
    · rw [if_pos h2, Bool.not_eq_true'] at e
      exact ⟨h1, h2, e⟩
    · rw [if_neg h2] at e; cases e
  · rw [if_neg h1] at e; cases e
theorem fwd_no {n : Int} {l : List S37} {T : List (List Int)} (h : ¬ (modelOk n l = true ∧ tokOk n T = true)) : Ev (fun k => model_Forward.f k n l T) ([], 1) := by
  have hj : Ev (fun k => model_Forward.j0 k T true n l) ([], 1) := by
    refine ev_shift ?_
    simp only [model_Forward.j0, if_true]
    exact Ev.now _
  unfold model_Forward.f model_Right.f model_Tokens.f
  cases e : modelOk n l with
  | false =>
    simp only [Option.bind_some, if_neg (show ¬ (false = true) by decide)]
    exact hj
  | true =>
    cases e2 : tokOk n T with
    | false => simp only [Option.bind_some, if_true, Bool.not_false]; exact hj
    | true => exact absurd ⟨e, e2⟩ h
/-! ### Who does what: both say the same -/
theorem ref_ch {ch : Chs} (hch : ChAll ch) {G : List (List Int)} {v : List Int} (h : Can G v) : Ev (fun k => switchboardref13_Choose.f k G v) (ch G v) := by
  obtain ⟨h1, h2, h3, h4⟩ := h
  obtain ⟨a, b, ha, hb, hr⟩ := choose_j0 (applyTo G v G.length) (by rw [applyTo_length]; omega) (by rw [applyTo_length]; exact h2)
  have e := ev_same (hch G v ⟨h1, h2, h3, h4⟩).1 (choose_yes G v (by omega) (by omega) h4 h2 hr)
  rw [e]
  exact ref_choose_yes G v (by omega) (by omega) h4 h2 (ref_choose_j0 _ (by rw [applyTo_length]; omega) (by rw [applyTo_length]; exact h2) ha hb)
def toR (p : S42) : S41 := ⟨p.f0, p.f1, p.f2, p.f3⟩
theorem rdC_at (ch : Chs) (G T : List (List Int)) {t : Nat} (h : t < T.length) : rd_T65 (chL ch G T) (t : Int) = chOne ch G (rd_L1 T (t : Int)) := by
  rw [rdC_get (by rw [chL_length]; exact h), rdL_get h]
  simp [chL]
theorem rdW_at (ch : Chs) (G T : List (List Int)) {t : Nat} (h : t < T.length) : rd_T68 (wantL ch G T) (t : Int) = wantOne ch G (rd_L1 T (t : Int)) := by
  rw [rdT_get (by rw [wantL_length]; exact h), rdL_get h]
  simp [wantL]
abbrev asg (ch : Chs) (x : S37) (T : List (List Int)) : List S68 := assignL (x.f1.length : Int) x.f2 (fun _ => 0) (wantL ch x.f0 T)
theorem pAt0 (ch : Chs) (x : S37) (T : List (List Int)) {t : Nat} (h : t < T.length) : (pAt (asg ch x T) (wantL ch x.f0 T) (chL ch x.f0 T) t 0).map toR = if partK (asg ch x T) t 0 ≥ 0 then [(⟨(t : Int), 0, (ch x.f0 (rd_L1 T (t : Int))).1, (ch x.f0 (rd_L1 T (t : Int))).2.2.1⟩ : S41)] else [] := by
  unfold pAt
  by_cases hp : partK (asg ch x T) t 0 ≥ 0
  · rw [if_pos hp, if_pos hp, partK_zero, rdC_at ch _ _ h, rdW_at ch _ _ h]
    rfl
  · rw [if_neg hp, if_neg hp]
    rfl
theorem pAt1 (ch : Chs) (x : S37) (T : List (List Int)) {t : Nat} (h : t < T.length) : (pAt (asg ch x T) (wantL ch x.f0 T) (chL ch x.f0 T) t 1).map toR = if partK (asg ch x T) t 1 ≥ 0 then [(⟨(t : Int), 1, (ch x.f0 (rd_L1 T (t : Int))).2.1, (ch x.f0 (rd_L1 T (t : Int))).2.2.2.1⟩ : S41)] else [] := by
  unfold pAt
  by_cases hp : partK (asg ch x T) t 1 ≥ 0
  · rw [if_pos hp, if_pos hp, partK_one, rdC_at ch _ _ h, rdW_at ch _ _ h]
    rfl
  · rw [if_neg hp, if_neg hp]
    rfl
abbrev pUp (ch : Chs) (x : S37) (T : List (List Int)) (t : Nat) : List S41 := (partsTo (asg ch x T) (wantL ch x.f0 T) (chL ch x.f0 T) t).map toR
theorem pUp_succ (ch : Chs) (x : S37) (T : List (List Int)) {t : Nat} (h : t < T.length) : pUp ch x T (t + 1) = pUp ch x T t ++ (if partK (asg ch x T) t 0 ≥ 0 then [(⟨(t : Int), 0, (ch x.f0 (rd_L1 T (t : Int))).1, (ch x.f0 (rd_L1 T (t : Int))).2.2.1⟩ : S41)] else []) ++ (if partK (asg ch x T) t 1 ≥ 0 then [(⟨(t : Int), 1, (ch x.f0 (rd_L1 T (t : Int))).2.1, (ch x.f0 (rd_L1 T (t : Int))).2.2.2.1⟩ : S41)] else []) := by
  show (partsTo _ _ _ t ++ (pAt _ _ _ t 0 ++ pAt _ _ _ t 1)).map toR = _
  rw [List.map_append, List.map_append, pAt0 ch x T h, pAt1 ch x T h, List.append_assoc]
theorem rdL_getD (T : List (List Int)) (t : Nat) : rd_L1 T (t : Int) = T.getD t [] := by unfold rd_L1; rw [Int.toNat_natCast]
theorem ptUp_is (ch : Chs) (x : S37) (T : List (List Int)) : ∀ t, t ≤ T.length → ptUp (fun t => ch x.f0 (rd_L1 T (t : Int))) (fun t => partK (asg ch x T) t 0) (fun t => partK (asg ch x T) t 1) t = pUp ch x T t
  | 0, _ => rfl
  | t + 1, ht => by
    rw [pUp_succ ch x T (by omega), ← ptUp_is ch x T t (by omega)]
    rfl
theorem ptWant_is (ch : Chs) (x : S37) (T : List (List Int)) : ptWant (fun t => ch x.f0 (rd_L1 T (t : Int))) T.length = wantL ch x.f0 T := by
  refine List.ext_getElem (by rw [ptWant_length, wantL_length]) (fun i h1 h2 => ?_)
  rw [wantL_length] at h2
  simp only [ptWant, wantL, List.getElem_map, List.getElem_range, rdL_get h2]
  rfl
/-- The document's parts are the model's. -/
theorem partsH_good {ch : Chs} (hch : ChAll ch) (x : S37) (T : List (List Int)) (hT : T.length ≤ 60) (hG : ∀ v ∈ T, Can x.f0 v) : ∃ c s0 s1, PartsH x T c s0 s1 ∧ ptUp c s0 s1 T.length = (partsV ch x.f0 (x.f1.length : Int) x.f2 T).map toR := by
  have hw : (wantL ch x.f0 T).length = T.length := wantL_length _ _ _
  refine ⟨fun t => ch x.f0 (rd_L1 T (t : Int)), fun t => partK (asg ch x T) t 0, fun t => partK (asg ch x T) t 1, ⟨hT, fun t ht => ?_, fun t ht => ?_, fun t ht => ?_⟩, ptUp_is ch x T T.length (Nat.le_refl _)⟩
  · rw [← rdL_getD]
    exact ref_ch hch (hG _ (rdL_mem ht))
  · rw [ptWant_is]
    show Ev _ (partK (asg ch x T) t 0)
    rw [assign_at (x.f1.length : Int) x.f2 (wantL ch x.f0 T) t (by omega) 0 (.inl rfl)]
    exact ref_slot (wantL ch x.f0 T) t (by omega) (by omega) (x.f1.length : Int) x.f2 0 (.inl rfl)
  · rw [ptWant_is]
    show Ev _ (partK (asg ch x T) t 1)
    rw [assign_at (x.f1.length : Int) x.f2 (wantL ch x.f0 T) t (by omega) 1 (.inr rfl)]
    exact ref_slot (wantL ch x.f0 T) t (by omega) (by omega) (x.f1.length : Int) x.f2 1 (.inr rfl)
/-! ### What a layer makes -/
theorem rdR_get (l : List S42) {j : Nat} (h : j < l.length) : rd_T41 (l.map toR) (j : Int) = toR l[j] := by
  unfold rd_T41
  rw [Int.toNat_natCast, List.getD_eq_getElem?_getD, List.getElem?_eq_getElem (by simpa using h)]
  simp
theorem combV_take (E : List S46) (T : List (List Int)) (P : List S42) {j : Nat} (h : j < P.length) : combV E T (P.take (j + 1)) T = (combV E T (P.take j) T).set P[j].f0.toNat (addV (rd_L1 (combV E T (P.take j) T) P[j].f0) (scaleV (ansP E T P[j]) P[j].f3)) := by
  rw [List.take_succ_eq_append_getElem h, combV_append]
  rfl
theorem layH_good {ch : Chs} (hch : ChAll ch) {n : Int} (hn : 1 ≤ n ∧ n ≤ 8) {x : S37} (hx : GoodY n x) {T : List (List Int)} (hT : GoodT n T) : LayH x T (layerV ch x T) := by
  have h2 := hT.2.1
  have hp := partsV_ok ch x.f0 (x.f1.length : Int) x.f2 T
  have hpl := partsV_length ch x.f0 (x.f1.length : Int) x.f2 T
  obtain ⟨P, hP⟩ : ∃ P, P = partsV ch x.f0 (x.f1.length : Int) x.f2 T := ⟨_, rfl⟩
  obtain ⟨c, s0, s1, hPH, hUp⟩ := partsH_good hch x T (by omega) (good_can hn hx hT)
  rw [← hP] at hp hpl hUp
  refine ⟨P.map toR, fun t j => rd_L1 (combV x.f1 T (P.take j) T) (t : Int), c, s0, s1, by omega, by rw [List.length_map]; omega, layerV_length ch x T, hPH, hUp.symm, fun t ht => ⟨?_, ?_⟩, fun t j ht hj => ?_⟩
  · show rd_L1 (combV x.f1 T (P.take 0) T) (t : Int) = _
    rw [List.take_zero]
    exact rdL_getD T t
  · show rd_L1 (combV x.f1 T (P.take (P.map toR).length) T) (t : Int) = _
    rw [List.length_map, List.take_length, rdL_getD]
    unfold layerV
    rw [hP]
  · rw [List.length_map] at hj
    rw [rdR_get P hj]
    obtain ⟨p0, p1, p2, p3⟩ := hp _ (List.getElem_mem hj)
    have hg : (combV x.f1 T (P.take j) T).any (rowWrong n) = false := combV_good T _ T (fun p hp' => ⟨(hp p (List.mem_of_mem_take hp')).1, (hp p (List.mem_of_mem_take hp')).2.1⟩) hT.2.2
    have hol := combV_length x.f1 T (P.take j) T
    obtain ⟨q, hq⟩ : ∃ q : Nat, P[j].f0 = (q : Int) := ⟨P[j].f0.toNat, by omega⟩
    obtain ⟨e, he⟩ : ∃ e : Nat, P[j].f2 = (e : Int) := ⟨P[j].f2.toNat, by omega⟩
    refine ⟨fun h => ?_, fun h => ?_⟩
    · have h' : P[j].f0 = (t : Int) := h
      have hqt : q = t := by omega
      refine ⟨p2, p3, ansP x.f1 T P[j], scaleV (ansP x.f1 T P[j]) P[j].f3, ?_, ?_, ?_⟩
      · have hgx := hx.2.2.2.2.2 _ (rdE_mem (l := x.f1) (t := e) (by omega))
        have hv := rows_length hT.2.2 _ (rdL_mem (m := T) (i := t) ht)
        have := ref11_run (a := (rd_T46 x.f1 (e : Int)).f0) (b := (rd_T46 x.f1 (e : Int)).f1) (v := rd_L1 T (t : Int)) (by rw [hv]; exact goodX_er hn hgx)
        unfold ansP
        show Ev (fun k => switchboardref11_Run.f k (rd_T46 x.f1 P[j].f2).f0 (rd_T46 x.f1 P[j].f2).f1 (T.getD t [])) _
        rw [h', he, ← rdL_getD]
        exact this
      · have hal := ansP_length hx.2.2.2.2.2 T p2 p3
        exact ref_scale_l0 (ansP x.f1 T P[j]) P[j].f3 (by omega) (ansP x.f1 T P[j]).length 0 (Nat.zero_add _)
      · have hal := ansP_length hx.2.2.2.2.2 T p2 p3
        have hvl := rows_length hg _ (rdL_mem (m := combV x.f1 T (P.take j) T) (i := t) (by omega))
        have := ref_add_l0 (rd_L1 (combV x.f1 T (P.take j) T) (t : Int)) (scaleV (ansP x.f1 T P[j]) P[j].f3) (by rw [scaleV_length]; omega) (by omega) (rd_L1 (combV x.f1 T (P.take j) T) (t : Int)).length 0 (Nat.zero_add _)
        show Ev _ (rd_L1 (combV x.f1 T (P.take (j + 1)) T) (t : Int))
        rw [combV_take x.f1 T P hj, h', Int.toNat_natCast]
        have e3 : ∀ (o : List (List Int)) (y : List Int), t < o.length → rd_L1 (o.set t y) (t : Int) = y := fun o y ho => by rw [rdL_getD, List.getD_eq_getElem?_getD, List.getElem?_set_self ho]; rfl
        rw [e3 _ _ (by omega)]
        exact this
    · have h' : P[j].f0 ≠ (t : Int) := h
      show rd_L1 (combV x.f1 T (P.take (j + 1)) T) (t : Int) = rd_L1 (combV x.f1 T (P.take j) T) (t : Int)
      rw [combV_take x.f1 T P hj, hq, Int.toNat_natCast, rdL_getD, rdL_getD, List.getD_eq_getElem?_getD, List.getD_eq_getElem?_getD, List.getElem?_set_ne (by omega), rdL_getD, List.getD_eq_getElem?_getD]
theorem fwdH_good {ch : Chs} (hch : ChAll ch) {n : Int} (hn : 1 ≤ n ∧ n ≤ 8) : ∀ (l : List S37) (T : List (List Int)), (∀ x ∈ l, GoodY n x) → GoodT n T → FwdH l T (fwdV ch l T)
  | [], _, _, _ => rfl
  | x :: r, T, hl, hT => ⟨layerV ch x T, layH_good hch hn (hl x (List.mem_cons_self ..)) hT, fwdH_good hch hn r _ (fun y hy => hl y (List.mem_cons_of_mem _ hy)) (layerV_good ch x hT)⟩


end Go.Proofs.Ytlicglgogklnkaa.Pr
