/- Own text, by hand: keys, and what a ledger holds of them. -/
import Derived.Test.YtabklpdjjoaocaaQz0
import Derived.Test.YtabklpdjjoaocaaQz1
import Derived.Test.YtabklpdjjoaocaaQz2
import Derived.Test.YtabklpdjjoaocaaQz3
import Derived.Test.YtabklpdjjoaocaaQz4
import Derived.Test.YtabklpdjjoaocaaQz5
import Derived.Test.YtabklpdjjoaocaaQz6
import Derived.Test.YtabklpdjjoaocaaQz7
import Derived.Test.YtabklpdjjoaocaaQz8
import Derived.Test.YtabklpdjjoaocaaQz9
import Derived.Test.YtabklpdjjoaocaaQz14
namespace Go.Proofs.Ytabklpdjjoaocaa.Qz
open Go.RowKit Go.Proofs.YtabklpdjjoaocaaW.PrintWords Go.Proofs.YtabklpdjjoaocaaW.PrintLast Go.Proofs.YtabklpdjjoaocaaW.PrintMore
attribute [local go_sem] max2_int min2_int max_two min_two max_three min_three max_four min_four   -- for this text's walks alone
set_option linter.unusedVariables false
set_option linter.unusedSimpArgs false

/-! #### struct type 57 -/
structure S57 where
  f0 : Int
  f1 : Int
def z57 : S57 := ⟨(0 : Int), (0 : Int)⟩
def k57 : Kd S57 := Kd.iso (Kd.pair (Kd.int .u8) (Kd.int .u8)) (fun x : S57 => (x.f0, x.f1))
theorem k57_heap : Kd.Heap k57 := Kd.heap_iso _ (Kd.heap_pair (Kd.heap_int .u8) (Kd.heap_int .u8))
theorem k57_open {w : World} {x : S57} {cs : List Value} (h : k57.K w x cs) : cs = [.int .u8 x.f0, .int .u8 x.f1] := by
  obtain ⟨_, _, rfl, rfl, rfl⟩ := h
  exact rfl
theorem k57_openM {w : World} {base : Nat} {ok : Nat → Prop} {x : S57} {cs : List Value} (h : k57.M w base ok x cs) : cs = [.int .u8 x.f0, .int .u8 x.f1] := by
  obtain ⟨_, _, rfl, rfl, rfl⟩ := h
  exact rfl
theorem k57_mk (w : World) (x : S57)  : k57.K w x [.int .u8 x.f0, .int .u8 x.f1] := ⟨[.int .u8 x.f0], [.int .u8 x.f1], rfl, rfl, rfl⟩
theorem k57_mkM (w : World) (base : Nat) (ok : Nat → Prop) (x : S57)  : k57.M w base ok x [.int .u8 x.f0, .int .u8 x.f1] := ⟨[.int .u8 x.f0], [.int .u8 x.f1], rfl, rfl, rfl⟩
theorem k57_mkF (W : World) (ok : Nat → Prop) (x : S57) : Kd.FK k57 W ok x [.int .u8 x.f0, .int .u8 x.f1] := fun W2 _ => k57_mk W2 x
def rd_T57 (xs : List S57) (i : Int) : S57 := xs.getD i.toNat z57
theorem at_T57 {w : World} {A : Option Addr} {n : Nat} {xs : List S57} (h : Kd.C k57 w A n xs) (i : Int) (h0 : 0 ≤ i) (h1 : i < n) : ∃ ad , A = some ad ∧ w.cell? (ad.add (i.toNat * 2)) = some (.int .u8 (rd_T57 xs i).f0) ∧ w.cell? ⟨(ad.add (i.toNat * 2)).block, (ad.add (i.toNat * 2)).off + 1, none⟩ = some (.int .u8 (rd_T57 xs i).f1) := by
  obtain ⟨ad, c, e, _, hK, hc0⟩ := Kd.C_get h z57 i h0 h1
  have hc : ∀ j u, c[j]? = some u → w.cell? (ad.add (i.toNat * 2 + j)) = some u := hc0
  obtain rfl := k57_open hK
  exact ⟨ad, e, hc 0 _ rfl, by rw [← add_field _ _ 1 (by omega)]; exact hc 1 _ rfl⟩

theorem idx_none {α : Type} (p : α → Bool) : ∀ (l : List α) (i : Nat), idxFrom34 p l i = -1 → ∀ x ∈ l, p x = false := by
  intro l
  induction l with
  | nil => intro _ _ x hx; cases hx
  | cons y r ih =>
    intro i h x hx
    by_cases hy : p y = true
    · simp only [idxFrom34, if_pos hy] at h
      omega
    · have hs : idxFrom34 p (y :: r) i = idxFrom34 p r (i + 1) := by simp only [idxFrom34]; rw [if_neg hy]
      rw [hs] at h
      rcases List.mem_cons.1 hx with rfl | hx
      · exact Bool.eq_false_iff.mpr hy
      · exact ih (i + 1) h x hx
theorem idx_some {α : Type} (p : α → Bool) (l : List α) {x : α} (hx : x ∈ l) (hp : p x = true) : ∃ k, k < l.length ∧ idxFrom34 p l 0 = (k : Int) := by
  rcases idxSpec18 p l 0 with h | ⟨k, hk, h⟩
  · rw [idx_none p l 0 h x hx] at hp
    cases hp
  · exact ⟨k, hk, by rw [h, Nat.zero_add]⟩
theorem cloneI_fk {l : List Int} (h : l.length < 17592186044416) : slices_Clone_int_int.f l = some l := by
  unfold slices_Clone_int_int.f
  simp only [Option.bind_some, List.length_nil, Nat.zero_add, List.nil_append, if_pos h]
theorem rdEn_get {l : List S39} {i : Nat} (h : i < l.length) : rd_T39 l i = l[i] := by
  unfold rd_T39
  rw [Int.toNat_natCast, List.getD_eq_getElem?_getD, List.getElem?_eq_getElem h]
  rfl
theorem find_hit {l : List S39} (hs : ∀ x ∈ l, x.f1.length ≤ 30) {x : S39} (hx : x ∈ l) : ∃ v, ledger_Find.f l x.f0.f0 x.f0.f1 x.f0.f2 x.f0.f3 = some (v, true) := by
  obtain ⟨k, hk, e⟩ := idx_some (fun y => keyB y x.f0.f0 x.f0.f1 x.f0.f2 x.f0.f3) l hx (by simp [keyB])
  unfold ledger_Find.f
  rw [e, if_neg (by omega), rdEn_get hk, cloneI_fk (by have := hs l[k] (List.getElem_mem hk); omega)]
  exact ⟨_, rfl⟩
theorem enter_hit {l : List S39} (hs : ∀ x ∈ l, x.f1.length ≤ 30) {x : S39} (hx : x ∈ l) (v : List Int) : ledger_Enter.f l x.f0.f0 x.f0.f1 x.f0.f2 x.f0.f3 v = some (l, false) := by
  obtain ⟨w, h⟩ := find_hit hs hx
  unfold ledger_Enter.f
  simp only [h, Option.bind_some, if_true]
theorem cloneE_f {l : List S39} (h : l.length < 2513169434916) : ledger_Entry_40.f l = some l := by
  unfold ledger_Entry_40.f
  simp only [Option.bind_some, List.length_nil, Nat.zero_add, List.nil_append, if_pos h]
/-- Is there an entry of a key? -/
def There (l : List S39) (a b c d : Int) : Prop := ∃ x ∈ l, keyB x a b c d = true
theorem keyB_iff {x : S39} {a b c d : Int} : keyB x a b c d = true ↔ x.f0.f0 = a ∧ x.f0.f1 = b ∧ x.f0.f2 = c ∧ x.f0.f3 = d := by
  unfold keyB
  simp only [Bool.and_eq_true, beq_iff_eq]
theorem find_yes {l : List S39} {a b c d : Int} (h : There l a b c d) (hs : ∀ x ∈ l, x.f1.length ≤ 30) : ∃ x ∈ l, keyB x a b c d = true ∧ ledger_Find.f l a b c d = some (x.f1, true) := by
  obtain ⟨x, hx, hp⟩ := h
  obtain ⟨k, hk, e⟩ := idx_some (fun y => keyB y a b c d) l hx hp
  have hpk : keyB l[k] a b c d = true := by
    have gen : ∀ (l : List S39) (i k : Nat) (h : k < l.length), idxFrom34 (fun y => keyB y a b c d) l i = ((i + k : Nat) : Int) → keyB l[k] a b c d = true := by
      intro l
      induction l with
      | nil => intro i k h; cases h
      | cons y r ih =>
        intro i k h e
        by_cases hy : keyB y a b c d = true
        · simp only [idxFrom34, if_pos hy] at e
          have : k = 0 := by omega
          subst this
          exact hy
        · simp only [idxFrom34, if_neg hy] at e
          cases k with
          | zero =>
            exfalso
            rcases idxSpec18 (fun y => keyB y a b c d) r (i + 1) with h2 | ⟨q, _, h2⟩ <;> omega
          | succ k =>
            have h3 : k < r.length := by simpa using h
            simp only [List.getElem_cons_succ]
            exact ih (i + 1) k h3 (by rw [e]; congr 1; omega)
    exact gen l 0 k hk (by rw [e, Nat.zero_add])
  refine ⟨l[k], List.getElem_mem hk, hpk, ?_⟩
  unfold ledger_Find.f
  rw [e, if_neg (by omega), rdEn_get hk, cloneI_fk (by have := hs l[k] (List.getElem_mem hk); omega)]
  rfl
theorem find_not {l : List S39} {a b c d : Int} (h : ¬ There l a b c d) : ledger_Find.f l a b c d = some ([], false) := by
  have e : idxFrom34 (fun y => keyB y a b c d) l 0 = -1 := by
    rcases idxSpec18 (fun y => keyB y a b c d) l 0 with e | ⟨k, hk, e⟩
    · exact e
    · exfalso
      refine h ?_
      have gen : ∀ (l : List S39) (i k : Nat), idxFrom34 (fun y => keyB y a b c d) l i = (k : Int) → There l a b c d := by
        intro l
        induction l with
        | nil => intro i k e; simp only [idxFrom34] at e; omega
        | cons y r ih =>
          intro i k e
          by_cases hy : keyB y a b c d = true
          · exact ⟨y, List.mem_cons_self .., hy⟩
          · simp only [idxFrom34, if_neg hy] at e
            obtain ⟨x, hx, hp⟩ := ih (i + 1) k e
            exact ⟨x, List.mem_cons_of_mem _ hx, hp⟩
      exact gen l 0 _ e
  unfold ledger_Find.f
  rw [e, if_pos (by omega)]
theorem enter_yes {l : List S39} {a b c d : Int} (h : There l a b c d) (hs : ∀ x ∈ l, x.f1.length ≤ 30) (v : List Int) : ledger_Enter.f l a b c d v = some (l, false) := by
  obtain ⟨x, _, _, e⟩ := find_yes h hs
  unfold ledger_Enter.f
  simp only [e, Option.bind_some, if_true]
theorem enter_not {l : List S39} {a b c d : Int} (h : ¬ There l a b c d) (hl : l.length ≤ 1000) {v : List Int} (hv : v.length ≤ 1000) : ledger_Enter.f l a b c d v = some (l ++ [(⟨(⟨a, b, c, d⟩ : S37), v⟩ : S39)], true) := by
  unfold ledger_Enter.f
  simp only [find_not h, Option.bind_some, if_neg (show ¬ (false = true) by decide), cloneE_f (show l.length < 2513169434916 by omega), cloneI_fk (show v.length < 17592186044416 by omega), if_pos (show l.length < 2513169434916 by omega)]

theorem layer_true {l0 : List (List Int)} {l1 : List S63} {c n : Int} (h : layerOk l0 l1 c n = true) : l1.any (expBad n) = false := by
  unfold layerOk at h
  split at h
  · split at h
    · split at h
      · split at h
        · split at h
          · simpa using h
          · cases h
        · cases h
      · cases h
    · cases h
  · cases h
theorem model_true {n : Int} {l : List S61} (h : modelOk n l = true) : l.any (layBad n) = false := by
  unfold modelOk at h
  split at h
  · split at h
    · split at h
      · split at h
        · simpa using h
        · cases h
      · cases h
    · cases h
  · cases h
theorem tok_true {n : Int} {v : List Int} (h : tokOk n [v] = true) : (v.length : Int) = n := by
  unfold tokOk at h
  split at h
  · split at h
    · have h1 : rowWrong n v = false := by simpa using h
      unfold rowWrong at h1
      rw [Bool.or_eq_false_iff] at h1
      simpa using h1.1
    · cases h
  · cases h
theorem exp_right {n : Int} {y : S63} (h : expBad n y = false) : erB y.f0 y.f1 n = true := by
  unfold expBad expOk at h
  rw [right_f] at h
  simpa using h
theorem answer_full {pb : Bool} {n : Int} {l : List S61} {me a0 a1 a2 a3 a4 a5 a6 a7 a8 a9 : Int} {v : List Int} (h : fitsB pb n l me a0 a1 a2 a3 a4 a5 a6 a7 a8 a9 v = true) : (answer l a5 a8 v).length = v.length := by
  obtain ⟨hm, _, _, _, _, h5, h8, ht, h5', h8'⟩ := fitsB_true h
  have hv := tok_true ht
  obtain ⟨i, rfl⟩ : ∃ i : Nat, a5 = (i : Int) := ⟨a5.toNat, by omega⟩
  obtain ⟨j, rfl⟩ : ∃ j : Nat, a8 = (j : Int) := ⟨a8.toNat, by omega⟩
  have hl := (List.any_eq_false.1 (model_true hm)) _ (rdY_mem (l := l) (t := i) (by omega))
  have hl' : layerOk (rd_T61 l (i : Int)).f0 (rd_T61 l (i : Int)).f1 (rd_T61 l (i : Int)).f2 n = true := by
    unfold layBad at hl
    simpa using hl
  have he := (List.any_eq_false.1 (layer_true hl')) _ (rdE_mem (l := (rd_T61 l (i : Int)).f1) (t := j) (by omega))
  have her := exp_right (n := n) (Bool.eq_false_iff.mpr he)
  obtain ⟨_, _, _, _, _, h6, _⟩ := erB_true her
  unfold answer
  rw [hv, if_pos her, runE_length]
  omega
theorem fitsB_tok {pb : Bool} {n : Int} {l : List S61} {me a0 a1 a2 a3 a4 a5 t r t' r' a8 a9 : Int} {v : List Int} (ht : inR t = true) (hr : inR r = true) (ht' : inR t' = true) (hr' : inR r' = true) :
    fitsB pb n l me a0 a1 a2 a3 a4 a5 t r a8 a9 v = fitsB pb n l me a0 a1 a2 a3 a4 a5 t' r' a8 a9 v := by
  unfold fitsB wireB
  simp only [List.all_cons, List.all_nil, ht, hr, ht', hr']
def bcells (xs : List Bool) : Array Value := (xs.map (fun x => Value.bool x)).toArray
theorem bcells_get {xs : List Bool} {j : Nat} (h : j < xs.length) : (bcells xs)[j]? = some (.bool (xs.getD j false)) := by
  unfold bcells
  simp [h, List.getD_eq_getElem?_getD]
theorem bcells_set (xs : List Bool) (j : Nat) (x : Bool) : (bcells xs).setIfInBounds j (.bool x) = bcells (xs.set j x) := by
  unfold bcells
  rw [List.map_set]
  simp
/-- What holds behind some rounds. -/
structure KInv (m : Nat) (a4 a5 : Int) (es : List S39) (arr : List Bool) (many : Nat) : Prop where
  len : arr.length = 32
  num : es.length = many
  few : many ≤ 32
  rows : ∀ x ∈ es, x.f1.length = m
  bit : ∀ t r : Nat, t < 16 → r < 2 → (arr.getD (2 * t + r) false = true ↔ There es a4 a5 (t : Int) (r : Int))
theorem KInv.start (m : Nat) (a4 a5 : Int) : KInv m a4 a5 [] (List.replicate 32 false) 0 := by
  refine ⟨List.length_replicate, rfl, by omega, (fun x hx => by cases hx), fun t r ht hr => ?_⟩
  have e : (List.replicate 32 false).getD (2 * t + r) false = false := by
    rw [List.getD_eq_getElem?_getD, List.getElem?_replicate]
    split <;> rfl
  rw [e]
  constructor
  · intro h; cases h
  · rintro ⟨x, hx, _⟩; cases hx
section
variable {pb : Bool} {e : Int} {H : List (List Int)} {n : Int} {l : List S61} {me a0 a1 a2 a3 a4 a5 a8 a9 : Int} {v : List Int}
theorem KInv.step {es : List S39} {arr : List Bool} {many i : Nat} (hi : many ≤ i ∧ i < 20) (hm : v.length ≤ 30) (h : KInv v.length a4 a5 es arr many) {t r : Nat} (ht : t < 16) (hr : r < 2)
    (hq : fitsB pb n l me a0 a1 a2 a3 a4 a5 (t : Int) (r : Int) a8 a9 v = true) (hf : Ev (fun k => node_fits.f k n l e H me a0 a1 a2 a3 a4 a5 (t : Int) (r : Int) a8 a9 v) true) (hh : Ev (fun k => place_Holds.f k e H a8 me) true) (h9 : a9 = e) :
    ∃ (es' : List S39) (x : List Int) (many' : Nat), Ev (fun k => node_Work.f k n l e H me es a0 a1 a2 a3 a4 a5 (t : Int) (r : Int) a8 a9 v) (es', 2, me, a1, a3, a4, a5, (t : Int), (r : Int), a8, e, x, true) ∧
      KInv v.length a4 a5 es' (arr.set (2 * t + r) true) many' ∧ x.length = v.length ∧ many' ≤ i + 1 ∧
      ((arr.getD (2 * t + r) false = true ∧ many' = many) ∨ (arr.getD (2 * t + r) false = false ∧ many' = many + 1)) := by
  have hrow : ∀ x ∈ es, x.f1.length ≤ 30 := fun x hx => by have := h.rows x hx; omega
  have hlen := h.len
  have hnum := h.num
  have hbit : ∀ (es' : List S39), (∀ t' r' : Nat, t' < 16 → r' < 2 → (There es' a4 a5 (t' : Int) (r' : Int) ↔ (There es a4 a5 (t' : Int) (r' : Int) ∨ (t' = t ∧ r' = r)))) → ∀ t' r' : Nat, t' < 16 → r' < 2 → ((arr.set (2 * t + r) true).getD (2 * t' + r') false = true ↔ There es' a4 a5 (t' : Int) (r' : Int)) := by
    intro es' hes t' r' ht' hr'
    rw [hes t' r' ht' hr', ← h.bit t' r' ht' hr', List.getD_eq_getElem?_getD, List.getD_eq_getElem?_getD]
    by_cases hc : 2 * t' + r' = 2 * t + r
    · rw [hc, List.getElem?_set_self (by omega)]
      have : t' = t ∧ r' = r := by omega
      simp [this]
    · rw [List.getElem?_set_ne (by omega)]
      have : ¬ (t' = t ∧ r' = r) := by omega
      simp [this]
  by_cases hT : There es a4 a5 (t : Int) (r : Int)
  · obtain ⟨x, hx, hk, hfd⟩ := find_yes hT hrow
    refine ⟨es, x.f1, many, work_found hf hh h9 hfd, ⟨by rw [List.length_set]; exact hlen, hnum, h.few, h.rows, hbit es (fun t' r' _ _ => ?_)⟩, h.rows x hx, by omega, .inl ⟨(h.bit t r ht hr).2 hT, rfl⟩⟩
    constructor
    · exact .inl
    · rintro (h1 | ⟨rfl, rfl⟩)
      · exact h1
      · exact hT
  · have hal := answer_full hq
    obtain ⟨-, -, -, -, -, g5, g8, -, g5', g8'⟩ := fitsB_true hq
    have hen := enter_not hT (by omega) (v := answer l a5 a8 v) (by omega)
    refine ⟨_, _, many + 1, work_new hf hh h9 g5' g5 g8' g8 (find_not hT) hen, ⟨by rw [List.length_set]; exact hlen, by simp [hnum], by omega, fun x hx => ?_, hbit _ (fun t' r' _ _ => ?_)⟩, hal, by omega, .inr ⟨Bool.eq_false_iff.mpr (fun hc => hT ((h.bit t r ht hr).1 hc)), rfl⟩⟩
    · rcases List.mem_append.1 hx with hx | hx
      · exact h.rows x hx
      · rw [List.mem_singleton] at hx
        subst hx
        exact hal
    · constructor
      · rintro ⟨y, hy, hyk⟩
        rcases List.mem_append.1 hy with hy | hy
        · exact .inl ⟨y, hy, hyk⟩
        · rw [List.mem_singleton] at hy
          subst hy
          rw [keyB_iff] at hyk
          refine .inr ?_
          have h1 : (t : Int) = (t' : Int) := hyk.2.2.1
          have h2 : (r : Int) = (r' : Int) := hyk.2.2.2
          omega
      · rintro (⟨y, hy, hyk⟩ | ⟨rfl, rfl⟩)
        · exact ⟨y, List.mem_append_left _ hy, hyk⟩
        · exact ⟨_, List.mem_append_right _ (List.mem_singleton.2 rfl), by rw [keyB_iff]; exact ⟨rfl, rfl, rfl, rfl⟩⟩
end


end Go.Proofs.Ytabklpdjjoaocaa.Qz
