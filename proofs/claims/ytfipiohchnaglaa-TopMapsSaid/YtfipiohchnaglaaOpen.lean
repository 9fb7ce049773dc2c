/- Helpers: what an argument that is read as data says of its cells, kind by kind (numbers, strings, slices, structs). No condition. -/
import Derived.Test.YtfipiohchnaglaaWMore
import Derived.OpenShut
import Derived.ChangeArms
import Derived.Deep.Slices
namespace Go.Proofs.Ytfipiohchnaglaa.Open
open Go.ChangeShapes Go.WideShapes Go.RowKit
open Go.Proofs.YtfipiohchnaglaaW.PrintWords
set_option linter.unusedVariables false

/-- Whatever is read at type t is of the kind d, and good. -/
def Opens {α : Type} (P : Program) (t : TypeId) (d : Kd α) (G : α → Prop) : Prop :=
  ∀ {H : Type} (enc : TypeId × Value → H) (w : World) (base : Nat) (spare : Nat → Bool) (held : Bool) (fuel : Nat) (cs : List Value) (x : DataW H × List MemPlace),
    DataW.trod enc P w base spare held fuel t cs = some x → ∃ y, d.K w y cs ∧ G y

theorem opens_int {P : Program} {t : TypeId} {k : IntKind} (ht : P.underlying t = some (.int k)) : Opens P t (Kd.int k) (fun n => (Lit.int k n).wf = true) := by
  intro H enc w base spare held fuel cs x h
  obtain ⟨n, rfl, _, hw⟩ := DataW.trod_int ht h
  exact ⟨n, rfl, hw⟩

theorem opens_bool {P : Program} {t : TypeId} (ht : P.underlying t = some .bool) : Opens P t Kd.bool (fun _ => True) := by
  intro H enc w base spare held fuel cs x h
  obtain ⟨b, rfl, _⟩ := DataW.trod_bool ht h
  exact ⟨b, rfl, trivial⟩

theorem opens_string {P : Program} {t : TypeId} (ht : P.underlying t = some .string) : Opens P t Kd.string (fun s => s.size ≤ maxLen) := by
  intro H enc w base spare held fuel cs x h
  obtain ⟨s, rfl, _, hs⟩ := DataW.trod_string ht h
  exact ⟨s, rfl, hs⟩

theorem pick_all {α : Type} {n : Nat} {q : Nat → α → Prop} : (∀ i, i < n → ∃ y, q i y) → ∃ l : List α, l.length = n ∧ ∀ i y, l[i]? = some y → q i y := by
  induction n with
  | zero => intro _; exact ⟨[], rfl, fun i y h => by simp at h⟩
  | succ n ih =>
    intro h
    obtain ⟨l, hl, hq⟩ := ih (fun i hi => h i (Nat.lt_succ_of_lt hi))
    obtain ⟨y, hy⟩ := h n (Nat.lt_succ_self n)
    refine ⟨l ++ [y], by simp [hl], fun i z hz => ?_⟩
    rcases Nat.lt_or_ge i l.length with hi | hi
    · rw [List.getElem?_append_left hi] at hz
      exact hq i z hz
    · have hi' : i = l.length := by
        have := (List.getElem?_eq_some_iff.1 hz).1
        simp at this
        omega
      subst hi'
      simp at hz
      subst hz
      rw [hl]
      exact hy

theorem opens_slice {α : Type} {P : Program} {t e : TypeId} {d : Kd α} {G : α → Prop} (ht : P.underlying t = some (.slice e)) (hsz : P.cellsOf e = d.sz) (h : Opens P e d G) :
    Opens P t (Kd.slice e d) (fun l => l.length ≤ maxLen ∧ ∀ x ∈ l, G x) := by
  intro H enc w base spare held fuel cs x hx
  rcases Go.Deep.open_slice ht hx with ⟨rfl, _⟩ | ⟨a, len, cap, m, n, D, Pl, rfl, hb, hl, hm, hmm, _, hel⟩
  · exact ⟨[], ⟨none, 0, rfl, Nat.le_refl _, Kd.C_nil d w⟩, by simp, by simp⟩
  · have hle : len ≤ m := by rw [hmm]; split <;> omega
    obtain ⟨l, hlen, hq⟩ := pick_all (n := len) (q := fun i y => ∃ cs', w.cells? base (a.add (i * P.cellsOf e)) (P.cellsOf e) = some cs' ∧ d.K w y cs' ∧ G y) (fun i hi => by
      obtain ⟨cs', h1, h2⟩ := hel i (by omega)
      obtain ⟨y, h3, h4⟩ := h enc w base spare held n cs' _ h2
      exact ⟨y, cs', h1, h3, h4⟩)
    refine ⟨l, ⟨some a, cap, by rw [hlen], by omega, rfl, ?_, fun _ => ⟨a, rfl, fun j p hp => ?_⟩⟩, by omega, fun y hy => ?_⟩
    · simp only [maxLen] at hm
      omega
    · obtain ⟨cs', h1, h2, _⟩ := hq j p hp
      refine ⟨cs', d.K_len h2, h2, fun i u hu => ?_⟩
      have hc := (World.cells?_some h1)
      have hi : i < P.cellsOf e := by
        have := (List.getElem?_eq_some_iff.1 hu).1
        rw [d.K_len h2] at this
        omega
      have := hc.2.2 i hi
      rw [Go.Deep.add_add, hsz, hu] at this
      exact this
    · obtain ⟨i, hi⟩ := List.getElem?_of_mem hy
      obtain ⟨_, _, _, h4⟩ := hq i y hi
      exact h4

theorem opens_good {α : Type} {P : Program} {t : TypeId} {d : Kd α} {G G' : α → Prop} (h : Opens P t d G) (hg : ∀ x, G x → G' x) : Opens P t d G' := by
  intro H enc w base spare held fuel cs x hx
  obtain ⟨y, h1, h2⟩ := h enc w base spare held fuel cs x hx
  exact ⟨y, h1, hg y h2⟩

/-- A slice that came in, as an argument. -/
theorem slice_came {α : Type} {H : Type} {enc : TypeId × Value → H} {P : Program} {W : World} {base : Nat} {spare : Nat → Bool} {held : Bool} {t e : TypeId} {d : Kd α} {G : α → Prop} {a : Option Addr} {len cap : Nat} {x : DataW H} {ps : List MemPlace}
    (ht : P.underlying t = some (.slice e)) (hsz : P.cellsOf e = d.sz) (ho : Opens P e d G) (h : DataW.Trod enc P W base spare held t (.slice a len cap) x ps) :
    ∃ l : List α, l.length = len ∧ len ≤ cap ∧ len ≤ maxLen ∧ d.C W a l.length l ∧ ∀ y ∈ l, G y := by
  obtain ⟨fuel, hf⟩ := h
  obtain ⟨l, ⟨A, c, he, hl, hc⟩, h1, h2⟩ := opens_slice ht hsz ho enc W base spare held fuel _ _ hf
  simp only [Value.cells, List.cons.injEq, and_true] at he
  injection he with e1 e2 e3
  subst e1 e2 e3
  exact ⟨l, rfl, hl, h1, hc, h2⟩

end Go.Proofs.Ytfipiohchnaglaa.Open
