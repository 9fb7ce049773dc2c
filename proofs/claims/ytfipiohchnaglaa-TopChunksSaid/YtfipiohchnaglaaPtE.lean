/- Own text, by hand: experts in pieces. -/
import Derived.Test.YtfipiohchnaglaaPt0
import Derived.Test.YtfipiohchnaglaaPt1
import Derived.Test.YtfipiohchnaglaaPt2
import Derived.Test.YtfipiohchnaglaaPt3
import Derived.Test.YtfipiohchnaglaaPt4
import Derived.Test.YtfipiohchnaglaaPt5
import Derived.Test.YtfipiohchnaglaaPt6
import Derived.Test.YtfipiohchnaglaaPt7
import Derived.Test.YtfipiohchnaglaaPt8
import Derived.Test.YtfipiohchnaglaaPt9
import Derived.Test.YtfipiohchnaglaaPt10
import Derived.Test.YtfipiohchnaglaaPt11
import Derived.Test.YtfipiohchnaglaaPtP
import Derived.Test.YtfipiohchnaglaaPtD
namespace Go.Proofs.Ytfipiohchnaglaa.Pt
open Go.RowKit Go.Proofs.YtfipiohchnaglaaW.PrintWords Go.Proofs.YtfipiohchnaglaaW.PrintLast Go.Proofs.YtfipiohchnaglaaW.PrintMore
attribute [local go_sem] max2_int min2_int max_two min_two max_three min_three max_four min_four
set_option linter.unusedVariables false
set_option linter.unusedSimpArgs false

/-- What is asked of an expert that goes out in pieces. -/
structure GoodE (n : Int) (y : S33) : Prop where
  f0 : y.f0.length ≤ 30 ∧ ∀ r ∈ y.f0, r.length ≤ 30
  f1 : y.f1.length ≤ 30 ∧ ∀ r ∈ y.f1, r.length ≤ 30
  right : expert_Right.f y.f0 y.f1 n = some true
  cut : ∀ z : Int, 1 ≤ z ∧ z ≤ 64 → ∃ k l, chunk_Cut.f k (expS y.f0 y.f1 n) z = some (l, true) ∧ expS y.f0 y.f1 n = ⟨(joinL l).toArray⟩ ∧ (joinL l).length ≤ 1000000 ∧ l.length ≤ 1000000 ∧ l ≠ []
  imp : ∃ k e S s5 cs, ImpH (expS y.f0 y.f1 n) y.f0 y.f1 n k e S s5 cs
theorem rows_in {m : List (List Int)} {b : Int} (h : m.any (rowWrong b) = false) : ∀ x ∈ m, ∀ y ∈ x, -2147483648 ≤ y ∧ y < 2147483648 := fun x hx y hy => by
  have := row_range h hx y hy
  omega
theorem goodE {n : Int} {y : S33} (hn : 1 ≤ n ∧ n ≤ 8) (h : GoodX n y) : GoodE n y := by
  obtain ⟨dn, rfl⟩ : ∃ dn : Nat, n = (dn : Int) := ⟨n.toNat, by omega⟩
  have hr : expert_Right.f y.f0 y.f1 (dn : Int) = some true := by rw [right_f, goodX_er hn h]
  obtain ⟨h1, h2, ⟨h3, h4⟩, h5, h6⟩ := h
  have l0 := rows_length h4
  have l1 := rows_length h6
  have l0' : ∀ x ∈ y.f0, x.length = dn := fun x hx => by have := l0 x hx; omega
  have l1' : ∀ x ∈ y.f1, x.length = y.f0.length := fun x hx => by have := l1 x hx; omega
  obtain ⟨k, hi⟩ := imp_h (f0 := y.f0) (f1 := y.f1) (dn := dn) (by omega) (by omega) l0' (by omega) l1' (rows_in h4) (rows_in h6) hr
  refine ⟨⟨by omega, fun r hr => by have := l0' r hr; omega⟩, ⟨by omega, fun r hr => by have := l1' r hr; omega⟩, hr, fun z hz => ?_, ⟨k, _, _, _, _, hi⟩⟩
  have hsz : (expS y.f0 y.f1 (dn : Int)).size ≤ 10000 := by
    have h0 : y.f0.length ≤ 30 ∧ ∀ r ∈ y.f0, r.length ≤ 30 := ⟨by omega, fun r hr => by have := l0' r hr; omega⟩
    have h1 : y.f1.length ≤ 30 ∧ ∀ r ∈ y.f1, r.length ≤ 30 := ⟨by omega, fun r hr => by have := l1' r hr; omega⟩
    have e0 := mat4_le h0.2
    have e1 := mat4_le h1.2
    have eS : (expS y.f0 y.f1 (dn : Int)).size = (expL y.f0 y.f1 (dn : Int)).length + 4 := by
      unfold expS
      rw [ByteArray.size_append, fourS_size]
      congr 1
    rw [eS]
    unfold expL
    rw [List.length_append, List.length_append, List.length_append, four4_length, four4_length]
    omega
  obtain ⟨l, hl, he, hj, hll, hne⟩ := cut_ev (expS y.f0 y.f1 (dn : Int)) z hz (by have := hi.lo; omega) hsz
  obtain ⟨kc, hkc⟩ := hl.rounds
  exact ⟨kc, l, hkc, he, by omega, by omega, hne⟩


end Go.Proofs.Ytfipiohchnaglaa.Pt
