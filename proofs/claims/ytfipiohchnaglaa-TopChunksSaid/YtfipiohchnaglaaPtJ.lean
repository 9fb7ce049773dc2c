/- Own text, by hand: chunk.Join. -/
import Derived.Test.YtfipiohchnaglaaPt0
import Derived.Test.YtfipiohchnaglaaPt1
import Derived.Test.YtfipiohchnaglaaPtS
namespace Go.Proofs.Ytfipiohchnaglaa.Pt
open Go.RowKit Go.Proofs.YtfipiohchnaglaaW.PrintWords Go.Proofs.YtfipiohchnaglaaW.PrintLast Go.Proofs.YtfipiohchnaglaaW.PrintMore
attribute [local go_sem] max2_int min2_int max_two min_two max_three min_three max_four min_four
set_option linter.unusedVariables false
set_option linter.unusedSimpArgs false

/-- All pieces, one behind the other. -/
def joinL (xs : List ByteArray) : List UInt8 := Lib.join (xs.map (·.data.toList)) []
theorem R_addr {α : Type} {d : Kd α} {e base : Nat} {ok : Nat → Prop} {w : World} {v : Value} {xs : List α} (h : Kd.R d e w base ok v xs) (hx : xs ≠ []) : ∃ g c, v = .slice (some ⟨g, 0, none⟩) xs.length c ∧ g < w.heap.size := by
  obtain ⟨inner, ho⟩ := Kd.R_own h
  rcases ho.2 with ⟨hv, hn⟩ | ⟨g, cap, cur, hv, hb, hg, rest⟩
  · exact absurd (List.eq_nil_of_length_eq_zero hn) hx
  · exact ⟨g, cap, hv, blk_lt hg⟩
set_option maxHeartbeats 8000000 in
set_option maxRecDepth 100000 in
theorem chunk_Join.calls (g c : Nat) (xs : List ByteArray) (S : ByteArray) (w : World) (hC : Kd.C Kd.string w (some ⟨g, 0, none⟩) xs.length xs) (hc : xs.length ≤ c) (hg : g < w.heap.size) (hn : xs.length ≤ 1000000) (hS : S = ⟨(joinL xs).toArray⟩) (hl : (joinL xs).length ≤ 1000000) :
    Calls Try.prog 12 #[.slice (some ⟨g, 0, none⟩) xs.length c] w fun e w' => e = .returned (.string S) ∧ Below w.heap.size w w' := by
  have HJ : Aside0 (Calls Try.prog 26 #[.slice (some ⟨g, 0, none⟩) xs.length c, .string ⟨#[]⟩] w fun e w' => e = .returned (.string S) ∧ Below w.heap.size w w') := ⟨by
    rw [hS]
    refine strings_Join g 0 c xs ⟨#[]⟩ w (fun j x hx => ?_) hg (by omega) hc (by show (joinL xs).length ≤ _; omega)
    have hj : j < xs.length := (List.getElem?_eq_some_iff.1 hx).1
    obtain ⟨ad, cs, he, hcl, hK, hcc⟩ := Kd.C_get hC ⟨#[]⟩ (j : Int) (by omega) (by omega)
    cases he
    rw [Int.toNat_natCast, List.getD_eq_getElem?_getD, hx] at hK
    rw [Int.toNat_natCast] at hcc
    have hk : cs = [.string x] := hK
    subst hk
    have h0 := hcc 0 _ rfl
    rw [Nat.zero_add]
    have e1 : j * Kd.string.sz + 0 = j := by show j * 1 + 0 = j; omega
    rw [e1, add_plain] at h0
    exact h0⟩
  clear hS hC hc hg hn hl
  go_enter Try.func12, Try.ntmps12
  go_wp2_with (go_at_call 26; refine HJ.out.mono ?_; rintro e_ w1 ⟨rfl, hb⟩; have HB := Aside0.mk hb; clear hb)
  go_ret
  exact ⟨rfl, HB.out⟩


end Go.Proofs.Ytfipiohchnaglaa.Pt
