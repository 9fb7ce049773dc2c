/- Own text, by hand: crc.Sum. -/
import Derived.Test.YtfipiohchnaglaaPt0
import Derived.Test.YtfipiohchnaglaaPt1
import Derived.Lib.ConvBytes
namespace Go.Proofs.Ytfipiohchnaglaa.Pt
open Go.RowKit Go.Proofs.YtfipiohchnaglaaW.PrintWords Go.Proofs.YtfipiohchnaglaaW.PrintLast Go.Proofs.YtfipiohchnaglaaW.PrintMore
attribute [local go_sem] max2_int min2_int max_two min_two max_three min_three max_four min_four
set_option linter.unusedVariables false
set_option linter.unusedSimpArgs false

/-- One bit, n bits, one byte, n bytes of the sum; the sum. -/
def crcBit (d : Int) : Int := bits BinOp.xor IntKind.u32 (d / 2) (3988292384 * bits BinOp.and IntKind.u32 d 1 % 4294967296)
def crcIt : Nat → Int → Int
  | 0, d => d
  | n + 1, d => crcBit (crcIt n d)
def crcByte (c b : Int) : Int := crcIt 8 (bits BinOp.xor IntKind.u32 c (b % 4294967296))
def crcTo (s : ByteArray) : Nat → Int
  | 0 => 4294967295
  | n + 1 => crcByte (crcTo s n) ((s.data.toList.getD n 0).toNat : Int)
def crcF (s : ByteArray) : Int := wrap64 (bits BinOp.xor IntKind.u32 (crcTo s s.size) 4294967295)
theorem bytesWorld_below (w : World) (s : ByteArray) : Below w.heap.size w (Lib.bytesWorld w 5 s) := by
  refine ⟨?_, ?_, ?_, ?_, fun k hk => Lib.bytesWorld_at_old w 5 s k hk⟩
  · simp [Lib.bytesWorld, World.freeze, World.alloc, World.drew, -World.alloc_eq, -World.drew_eq]
  · simp [Lib.bytesWorld, World.freeze, World.alloc, World.drew, -World.alloc_eq, -World.drew_eq]
  · simp [Lib.bytesWorld, World.freeze, World.alloc, World.drew, -World.alloc_eq, -World.drew_eq]
  · rw [Lib.bytesWorld_size]
    omega
set_option maxHeartbeats 8000000 in
set_option maxRecDepth 100000 in
theorem crc_Sum.calls (s : ByteArray) (w : World) (hs : s.size ≤ 1000000) :
    Calls Try.prog 23 #[.string s] w fun e w' => e = .returned (.int .i64 (crcF s)) ∧ Below w.heap.size w w' := by
  have hu58 := Try.underlying58
  have HS := Aside0.mk hs
  go_enter Try.func23, Try.ntmps23
  go_upto_region 3 with (fail)
  rw [Lib.run_convert_string_bytes w 9 58 5 s Try.underlying9 Try.underlying58 Try.underlying5]
  simp only [Result.andThen]
  rw [Oper.upon_value]
  have HB0 := Aside0.mk (bytesWorld_below w s)
  have HC0 : Aside0 (∀ j, j < s.size → (Lib.bytesWorld w 5 s).cell? ⟨w.heap.size, j, none⟩ = some (.int .u8 (s.data.toList.getD j 0).toNat)) := ⟨fun j hj => Lib.bytesWorld_cell w 5 s j hj⟩
  obtain ⟨cp, hcp⟩ : ∃ cp, cp = grownCap w s.size 0 5 := ⟨_, rfl⟩
  rw [← hcp]
  clear hcp
  generalize Lib.bytesWorld w 5 s = w1 at HB0 HC0 ⊢
  have hl6 : (s.size : Int) < 10000000 := by have := HS.out; omega
  obtain ⟨n, hn⟩ : ∃ n, n = s.size := ⟨_, rfl⟩
  rw [← hn] at HC0 hl6 ⊢
  have HN := Aside0.mk hn
  clear hn hs HS
  go_wp2
  go_loopw [3, 10] (fun v3 v10 W => ∃ (i : Nat) (c : Int), v10 = .int .i64 (i : Int) ∧ v3 = .int .u32 c ∧ Aside0 (c = crcTo s i) ∧ Aside0 (i ≤ n) ∧ Aside0 (Below w1.heap.size w1 W)) (fun _ v10 _ => n - (intOf v10).toNat)
  case atStart => exact ⟨0, _, rfl, rfl, ⟨rfl⟩, ⟨by omega⟩, ⟨Below.refl _ _⟩⟩
  case round =>
    obtain ⟨i, c, rfl, rfl, HC, HI, HW⟩ := hrel
    by_cases hlt : i < n
    rotate_left
    · have k1 : decide ((i : Int) < (n : Int)) = false := decide_eq_false (by omega)
      have k1n : decide (i < n) = false := decide_eq_false hlt
      have hi : i = s.size := by have h1 := HI.out; have h2 := HN.out; omega
      have HCE : Aside0 (wrap64 (bits BinOp.xor IntKind.u32 c 4294967295) = crcF s) := ⟨by unfold crcF; rw [HC.out, hi]⟩
      clear hi hlt
      go_wp2
      go_ret
      refine ⟨?_, below_step HB0.out HW.out⟩
      rw [HCE.out]
      first | done | rfl
    have k1 : decide ((i : Int) < (n : Int)) = true := decide_eq_true (by omega)
    have k1n : decide (i < n) = true := decide_eq_true hlt
    have hx := HW.out.cell (World.block_lt_of_cell? w1 _ (HC0.out i hlt)) |>.trans (HC0.out i hlt)
    obtain ⟨b, hb⟩ : ∃ b : Int, b = ((s.data.toList.getD i 0).toNat : Int) := ⟨_, rfl⟩
    rw [← hb] at hx
    have HBE := Aside0.mk hb
    have HLT := Aside0.mk hlt
    clear hb
    obtain ⟨w2, hw2⟩ : ∃ w2, w2 = wr := ⟨_, rfl⟩
    rw [← hw2] at HW hx ⊢
    clear hw2
    go_upto_region 7 with (fail)
    clear hx
    obtain ⟨x0, hx0⟩ : ∃ x0, x0 = bits BinOp.xor IntKind.u32 c (b % 4294967296) := ⟨_, rfl⟩
    rw [← hx0]
    have HX0 := Aside0.mk hx0
    clear hx0
    go_wp2
    go_loopw [3, 18] (fun v3 v18 W => ∃ (j : Nat) (d : Int), v18 = .int .i64 (j : Int) ∧ v3 = .int .u32 d ∧ Aside0 (d = crcIt j x0) ∧ Aside0 (j ≤ 8) ∧ Aside0 (Below w2.heap.size w2 W)) (fun _ v18 _ => 8 - (intOf v18).toNat)
    case atStart => exact ⟨0, _, rfl, rfl, ⟨rfl⟩, ⟨by omega⟩, ⟨Below.refl _ _⟩⟩
    case round =>
      obtain ⟨j, d, rfl, rfl, HD, HJ, HW2⟩ := hrel
      by_cases hj : j < 8
      rotate_left
      · have k3 : decide ((j : Int) < 8) = false := decide_eq_false (by omega)
        have k3n : decide (j < 8) = false := decide_eq_false hj
        have hj8 : j = 8 := by have := HJ.out; omega
        have HDE : Aside0 (d = crcTo s (i + 1)) := ⟨by rw [HD.out, hj8, HX0.out, HC.out, HBE.out]; rfl⟩
        clear hj hj8
        have HWN := Aside0.mk (below_step HW.out HW2.out)
        go_wp2
        refine ⟨⟨i + 1, d, by simp, rfl, HDE, ⟨HLT.out⟩, HWN⟩, ?_⟩
        have := HLT.out
        simp [intOf]
        omega
      have k3 : decide ((j : Int) < 8) = true := decide_eq_true (by omega)
      have k3n : decide (j < 8) = true := decide_eq_true hj
      have HDE : Aside0 (bits BinOp.xor IntKind.u32 (d / 2) (3988292384 * bits BinOp.and IntKind.u32 d 1 % 4294967296) = crcIt (j + 1) x0) := ⟨by rw [HD.out]; rfl⟩
      go_wp2
      refine ⟨⟨j + 1, _, by simp, rfl, HDE, ⟨by omega⟩, HW2⟩, ?_⟩
      simp [intOf]
      omega


end Go.Proofs.Ytfipiohchnaglaa.Pt
