/- Own text, by hand: PuF, PuS, PuI, PuA, PuB, PuG, PuW -/
import Derived.Test.YtfipiohchnaglaaPu0
import Derived.Test.YtfipiohchnaglaaPu14
import Derived.Test.YtfipiohchnaglaaPu5
namespace Go.Proofs.Ytfipiohchnaglaa.Pu
open Go.RowKit Go.Proofs.YtfipiohchnaglaaW.PrintWords Go.Proofs.YtfipiohchnaglaaW.PrintLast Go.Proofs.YtfipiohchnaglaaW.PrintMore
attribute [local go_sem] max2_int min2_int max_two min_two max_three min_three max_four min_four
set_option linter.unusedVariables false
set_option linter.unusedSimpArgs false
theorem cells11 {W : World} {g : Nat} {t : TypeId} {u0 u1 u2 u3 u4 u5 u6 u7 u8 u9 u10 : Value} (h : W.heap[g]? = some (.cells #[u0, u1, u2, u3, u4, u5, u6, u7, u8, u9, u10] t (0, 0))) : W.cell? ⟨g, 0, none⟩ = some u0 ∧ W.cell? ⟨g, 1, none⟩ = some u1 ∧ W.cell? ⟨g, 2, none⟩ = some u2 ∧ W.cell? ⟨g, 3, none⟩ = some u3 ∧ W.cell? ⟨g, 4, none⟩ = some u4 ∧ W.cell? ⟨g, 5, none⟩ = some u5 ∧ W.cell? ⟨g, 6, none⟩ = some u6 ∧ W.cell? ⟨g, 7, none⟩ = some u7 ∧ W.cell? ⟨g, 8, none⟩ = some u8 ∧ W.cell? ⟨g, 9, none⟩ = some u9 ∧ W.cell? ⟨g, 10, none⟩ = some u10 :=
  ⟨(blk_cell h 0).trans rfl, (blk_cell h 1).trans rfl, (blk_cell h 2).trans rfl, (blk_cell h 3).trans rfl, (blk_cell h 4).trans rfl, (blk_cell h 5).trans rfl, (blk_cell h 6).trans rfl, (blk_cell h 7).trans rfl, (blk_cell h 8).trans rfl, (blk_cell h 9).trans rfl, (blk_cell h 10).trans rfl⟩
theorem froz11 {W : World} {g : Nat} {t : TypeId} {cs : Array Value} (h : W.heap[g]? = some (.cells cs t (0, 0))) : W.frozen? ⟨g, 0, none⟩ = false ∧ W.frozen? ⟨g, 1, none⟩ = false ∧ W.frozen? ⟨g, 2, none⟩ = false ∧ W.frozen? ⟨g, 3, none⟩ = false ∧ W.frozen? ⟨g, 4, none⟩ = false ∧ W.frozen? ⟨g, 5, none⟩ = false ∧ W.frozen? ⟨g, 6, none⟩ = false ∧ W.frozen? ⟨g, 7, none⟩ = false ∧ W.frozen? ⟨g, 8, none⟩ = false ∧ W.frozen? ⟨g, 9, none⟩ = false ∧ W.frozen? ⟨g, 10, none⟩ = false :=
  ⟨blk_frozen h 0, blk_frozen h 1, blk_frozen h 2, blk_frozen h 3, blk_frozen h 4, blk_frozen h 5, blk_frozen h 6, blk_frozen h 7, blk_frozen h 8, blk_frozen h 9, blk_frozen h 10⟩

/-- Regions that draw, their operations taken in their own order: what has come up is a stretch from 0 on. -/
def mk_ (m n : Nat) : Array Bool := (List.replicate m true ++ List.replicate (n - m) false).toArray
def nth_ {α : Type} : List α → Nat → Option α
  | [], _ => none
  | a :: _, 0 => some a
  | _ :: l, n + 1 => nth_ l n
theorem nth_get {α : Type} : ∀ (l : List α) (n : Nat), nth_ l n = l[n]?
  | [], _ => by simp [nth_]
  | a :: l, 0 => by simp [nth_]
  | a :: l, n + 1 => by simp [nth_, nth_get l n]
theorem nth_arr {α : Type} {a : Array α} {n : Nat} {x : α} (h : nth_ a.toList n = some x) : a[n]? = some x := by
  rw [nth_get, Array.getElem?_toList] at h
  exact h
section
variable {P : Program} {md : Region.Mode} {ops : Array Oper} {Q : Exit → Act → World → Prop} {S : World → Prop} {ds : List Nat}
theorem startM_ (ds : List Nat) {id n : Nat} {a : Act} {w : World} (hm : P.follows .mixedOrders = true) (hn : ops.size = n) (hS : S w.drew) (h : S w.drew → wpAnyLast P .any ops Q S ds n (mk_ 0 n) a w.drew) : (Code.region id ops true).wp P Q a w :=
  start_ (mk_ 0 n) hm hn (by simp [mk_]) hS h
theorem pureM_ {m n : Nat} {N : Option Tmp} {oi : Oper} {v : Value} {fuel : Nat} {a : Act} {w : World} (hi : nth_ ops.toList m = some oi) (hN : oi.dst = N) (hc : anyB md ops (mk_ m n) (mk_ (m + 1) n) m = true) (hQ : ∀ c a w, Q (.panic c) (a.put oi.dst v) w → Q (.panic c) a w) (hy : Yields P ops oi v a) {a' : Act} (ha : a.put N v = a') (h : wpAnyLast P md ops Q S ds fuel (mk_ (m + 1) n) a' w) : wpAnyLast P md ops Q S ds (fuel + 1) (mk_ m n) a w := pure_ (mk_ (m + 1) n) (nth_arr hi) hN hc hQ hy ha h
theorem takeM_ {m n : Nat} {N : Option Tmp} {oi : Oper} {v : Value} {fuel : Nat} {a : Act} {w : World} (hi : nth_ ops.toList m = some oi) (hN : oi.dst = N) (hc : takeB md ops ds (mk_ m n) (mk_ (m + 1) n) m = true) (hQ : ∀ c a w, Q (.panic c) (a.put oi.dst v) w → Q (.panic c) a w) (hy : YieldsIf P ops S oi v a) (hS : S w) {a' : Act} (ha : a.put N v = a') (h : wpAnyLast P md ops Q S ds fuel (mk_ (m + 1) n) a' w) : wpAnyLast P md ops Q S ds (fuel + 1) (mk_ m n) a w := take_ (mk_ (m + 1) n) (nth_arr hi) hN hc hQ hy hS ha h
end

/-- What is read of a fleet. -/
structure FS where
  L : Nat → List S167
  bag : List ByteArray
  tok : List (List Int)
  at_ : Nat
  PS : List S76
  ans : List (List Int)
  bs : List Bool
def okF (g : Nat) (va vd : Value) : Nat → Prop := fun k => k ≠ g ∧ some k ≠ va.ownBlock ∧ some k ≠ vd.ownBlock
def cellsF (n : Int) (vm : Value) (e : Int) (vh : Value) (lv : Nat → Value) (vb vt : Value) (i : Int) (vp va vd : Value) : Array Value := #[.int .i64 n, vm, .int .i64 e, vh, lv 0, lv 1, lv 2, lv 3, lv 4, vb, vt, .int .i64 i, vp, va, vd]
/-- The fleet's block g (it was made behind w0), and what its cells lead to. -/
structure FB (w0 W : World) (g : Nat) (n : Int) (vm : Value) (e : Int) (vh : Value) (s : FS) (lv : Nat → Value) (vb vt vp va vd : Value) : Prop where
  hb : Below w0.heap.size w0 W
  hg : w0.heap.size ≤ g
  blk : W.heap[g]? = some (.cells (cellsF n vm e vh lv vb vt (s.at_ : Int) vp va vd) 117 (0, 0))
  L : ∀ t, t < 5 → Kd.V k167 167 W 0 (okF g va vd) (lv t) (s.L t)
  bag : Kd.V Kd.string 9 W 0 (okF g va vd) vb s.bag
  tok : Kd.V (Kd.slice 3 (Kd.int .i64)) 54 W 0 (okF g va vd) vt s.tok
  PS : Kd.V k76 76 W 0 (okF g va vd) vp s.PS
  ans : Kd.N (Kd.slice 3 (Kd.int .i64)) 54 W w0.heap.size (fun k => k ≠ g ∧ some k ≠ vd.ownBlock) va s.ans
  bs : Kd.R Kd.bool 4 W w0.heap.size (fun k => k ≠ g) vd s.bs
section
variable {α : Type} {d : Kd α} {w0 W W1 : World} {g : Nat} {n e : Int} {vm vh : Value} {s : FS} {lv : Nat → Value} {vb vt vp va vd : Value}
theorem okF_far {ev : Nat} {v : Value} {xs : List α} (h : Kd.V d ev W 0 (okF g va vd) v xs) (j : Nat) (u : Value) : Kd.V d ev (W.setCell ⟨g, j, none⟩ u) 0 (okF g va vd) v xs := Kd.V_far h (fun _ hk => hk.1) u
theorem FB.gt (h : FB w0 W g n vm e vh s lv vb vt vp va vd) : g < W.heap.size := blk_lt h.blk
theorem FB.below (h : FB w0 W g n vm e vh s lv vb vt vp va vd) (hb : Below W.heap.size W W1) : FB w0 W1 g n vm e vh s lv vb vt vp va vd :=
  ⟨below_step h.hb hb, h.hg, blk_below h.blk hb, fun t ht => Kd.V_below (h.L t ht) hb, Kd.V_below h.bag hb, Kd.V_below h.tok hb, Kd.V_below h.PS hb, Kd.N_below h.ans hb, Kd.R_below h.bs hb⟩
/-- The numbers of the block's cells. -/
theorem FB.c (h : FB w0 W g n vm e vh s lv vb vt vp va vd) : W.cell? ⟨g, 0, none⟩ = some (.int .i64 n) ∧ W.cell? ⟨g, 1, none⟩ = some vm ∧ W.cell? ⟨g, 2, none⟩ = some (.int .i64 e) ∧ W.cell? ⟨g, 3, none⟩ = some vh ∧ W.cell? ⟨g, 9, none⟩ = some vb ∧ W.cell? ⟨g, 10, none⟩ = some vt ∧ W.cell? ⟨g, 11, none⟩ = some (.int .i64 (s.at_ : Int)) ∧ W.cell? ⟨g, 12, none⟩ = some vp ∧ W.cell? ⟨g, 13, none⟩ = some va ∧ W.cell? ⟨g, 14, none⟩ = some vd :=
  ⟨(blk_cell h.blk 0).trans rfl, (blk_cell h.blk 1).trans rfl, (blk_cell h.blk 2).trans rfl, (blk_cell h.blk 3).trans rfl, (blk_cell h.blk 9).trans rfl, (blk_cell h.blk 10).trans rfl, (blk_cell h.blk 11).trans rfl, (blk_cell h.blk 12).trans rfl, (blk_cell h.blk 13).trans rfl, (blk_cell h.blk 14).trans rfl⟩
theorem FB.cL (h : FB w0 W g n vm e vh s lv vb vt vp va vd) (t : Nat) (ht : t < 5) : W.cell? ⟨g, 4 + t, none⟩ = some (lv t) := by
  refine (blk_cell h.blk (4 + t)).trans ?_
  rcases (by omega : t = 0 ∨ t = 1 ∨ t = 2 ∨ t = 3 ∨ t = 4) with rfl | rfl | rfl | rfl | rfl <;> rfl
theorem FB.fz (h : FB w0 W g n vm e vh s lv vb vt vp va vd) (j : Nat) : W.frozen? ⟨g, j, none⟩ = false := blk_frozen h.blk j
theorem FB.bl (h : FB w0 W g n vm e vh s lv vb vt vp va vd) (j : Nat) (u : Value) : Below w0.heap.size w0 (W.setCell ⟨g, j, none⟩ u) := Below.setCell h.hb h.hg u
theorem FB.aF (h : FB w0 W g n vm e vh s lv vb vt vp va vd) (j : Nat) (u : Value) : Kd.N (Kd.slice 3 (Kd.int .i64)) 54 (W.setCell ⟨g, j, none⟩ u) w0.heap.size (fun k => k ≠ g ∧ some k ≠ vd.ownBlock) va s.ans := Kd.N_far h.ans (fun _ hk => hk.1) u
theorem FB.bF (h : FB w0 W g n vm e vh s lv vb vt vp va vd) (j : Nat) (u : Value) : Kd.R Kd.bool 4 (W.setCell ⟨g, j, none⟩ u) w0.heap.size (fun k => k ≠ g) vd s.bs := Kd.R_far h.bs (fun _ hk => hk) u
theorem FB.putbag (h : FB w0 W g n vm e vh s lv vb vt vp va vd) {v : Value} {b : List ByteArray} (hv : Kd.V Kd.string 9 W 0 (okF g va vd) v b) : FB w0 (W.setCell ⟨g, 9, none⟩ v) g n vm e vh { s with bag := b } lv v vt vp va vd :=
  ⟨h.bl _ _, h.hg, blk_put h.blk 9 v rfl, fun t ht => okF_far (h.L t ht) _ _, okF_far hv _ _, okF_far h.tok _ _, okF_far h.PS _ _, h.aF _ _, h.bF _ _⟩
theorem FB.puttok (h : FB w0 W g n vm e vh s lv vb vt vp va vd) {v : Value} {b : List (List Int)} (hv : Kd.V (Kd.slice 3 (Kd.int .i64)) 54 W 0 (okF g va vd) v b) : FB w0 (W.setCell ⟨g, 10, none⟩ v) g n vm e vh { s with tok := b } lv vb v vp va vd :=
  ⟨h.bl _ _, h.hg, blk_put h.blk 10 v rfl, fun t ht => okF_far (h.L t ht) _ _, okF_far h.bag _ _, okF_far hv _ _, okF_far h.PS _ _, h.aF _ _, h.bF _ _⟩
theorem FB.putat (h : FB w0 W g n vm e vh s lv vb vt vp va vd) (i : Nat) : FB w0 (W.setCell ⟨g, 11, none⟩ (.int .i64 (i : Int))) g n vm e vh { s with at_ := i } lv vb vt vp va vd :=
  ⟨h.bl _ _, h.hg, blk_put h.blk 11 _ rfl, fun t ht => okF_far (h.L t ht) _ _, okF_far h.bag _ _, okF_far h.tok _ _, okF_far h.PS _ _, h.aF _ _, h.bF _ _⟩
theorem FB.putps (h : FB w0 W g n vm e vh s lv vb vt vp va vd) {v : Value} {b : List S76} (hv : Kd.V k76 76 W 0 (okF g va vd) v b) : FB w0 (W.setCell ⟨g, 12, none⟩ v) g n vm e vh { s with PS := b } lv vb vt v va vd :=
  ⟨h.bl _ _, h.hg, blk_put h.blk 12 v rfl, fun t ht => okF_far (h.L t ht) _ _, okF_far h.bag _ _, okF_far h.tok _ _, okF_far hv _ _, h.aF _ _, h.bF _ _⟩
theorem FB.putL (h : FB w0 W g n vm e vh s lv vb vt vp va vd) (t : Nat) (ht : t < 5) {v : Value} {l : List S167} (hv : Kd.V k167 167 W 0 (okF g va vd) v l) : FB w0 (W.setCell ⟨g, 4 + t, none⟩ v) g n vm e vh { s with L := fun j => if j = t then l else s.L j } (fun j => if j = t then v else lv j) vb vt vp va vd := by
  refine ⟨h.bl _ _, h.hg, blk_put h.blk (4 + t) v ?_, fun j hj => ?_, okF_far h.bag _ _, okF_far h.tok _ _, okF_far h.PS _ _, h.aF _ _, h.bF _ _⟩
  · rcases (by omega : t = 0 ∨ t = 1 ∨ t = 2 ∨ t = 3 ∨ t = 4) with rfl | rfl | rfl | rfl | rfl <;> rfl
  · by_cases hjt : j = t
    · simp only [hjt, if_true]
      exact okF_far hv _ _
    · simp only [if_neg hjt]
      exact okF_far (h.L j hj) _ _
/-- What is new since is none of the fleet's. -/
theorem FB.new (h : FB w0 W g n vm e vh s lv vb vt vp va vd) {k : Nat} (hk : W.heap.size ≤ k) : okF g va vd k := by
  refine ⟨fun e => ?_, fun e => ?_, fun e => ?_⟩
  · have := h.gt; omega
  · have := Kd.N_lt h.ans k e.symm; omega
  · have := Kd.R_lt h.bs k e.symm; omega
/-- A row that a call made, told of the world behind it. -/
theorem FB.mine {ev : Nat} (h : FB w0 W g n vm e vh s lv vb vt vp va vd) {v : Value} {xs : List α} (hr : Kd.R d ev W1 W.heap.size (fun _ => True) v xs) : Kd.V d ev W1 0 (okF g va vd) v xs :=
  Kd.R_V (Kd.R_mono (Kd.R_bound hr) (fun k hk => h.new hk.2.1))
theorem okF_new {ev : Nat} {v u : Value} {xs : List α} (h : Kd.V d ev W 0 (okF g va vd) v xs) (hb : Below W.heap.size W W1) (hu : ∀ k, u.ownBlock = some k → W.heap.size ≤ k) (j : Nat) : Kd.V d ev (W1.setCell ⟨g, j, none⟩ u) 0 (okF g u vd) v xs :=
  Kd.V_far (Kd.V_mono (Kd.V_below (Kd.V_bound h) hb) (fun k hk => ⟨hk.1.1, fun e => by have h1 := hu k e.symm; have h2 := hk.2; omega, hk.1.2.2⟩)) (fun _ hk => hk.1) u
theorem okF_new2 {ev : Nat} {v u : Value} {xs : List α} (h : Kd.V d ev W 0 (okF g va vd) v xs) (hb : Below W.heap.size W W1) (hu : ∀ k, u.ownBlock = some k → W.heap.size ≤ k) (j : Nat) : Kd.V d ev (W1.setCell ⟨g, j, none⟩ u) 0 (okF g va u) v xs :=
  Kd.V_far (Kd.V_mono (Kd.V_below (Kd.V_bound h) hb) (fun k hk => ⟨hk.1.1, hk.1.2.1, fun e => by have h1 := hu k e.symm; have h2 := hk.2; omega⟩)) (fun _ hk => hk.1) u
theorem FB.putans (h : FB w0 W g n vm e vh s lv vb vt vp va vd) (hb : Below W.heap.size W W1) {v : Value} {b : List (List Int)} (hu : ∀ k, v.ownBlock = some k → W.heap.size ≤ k) (hv : Kd.N (Kd.slice 3 (Kd.int .i64)) 54 W1 w0.heap.size (fun k => k ≠ g ∧ some k ≠ vd.ownBlock) v b) : FB w0 (W1.setCell ⟨g, 13, none⟩ v) g n vm e vh { s with ans := b } lv vb vt vp v vd :=
  ⟨(h.below hb).bl _ _, h.hg, blk_put (h.below hb).blk 13 v rfl, fun t ht => okF_new (h.L t ht) hb hu _, okF_new h.bag hb hu _, okF_new h.tok hb hu _, okF_new h.PS hb hu _, Kd.N_far hv (fun _ hk => hk.1) _, (h.below hb).bF _ _⟩
theorem FB.putbs (h : FB w0 W g n vm e vh s lv vb vt vp va vd) (hb : Below W.heap.size W W1) {v : Value} {b : List Bool} (hu : ∀ k, v.ownBlock = some k → W.heap.size ≤ k) (hv : Kd.R Kd.bool 4 W1 w0.heap.size (fun k => k ≠ g) v b) : FB w0 (W1.setCell ⟨g, 14, none⟩ v) g n vm e vh { s with bs := b } lv vb vt vp va v :=
  ⟨(h.below hb).bl _ _, h.hg, blk_put (h.below hb).blk 14 v rfl, fun t ht => okF_new2 (h.L t ht) hb hu _, okF_new2 h.bag hb hu _, okF_new2 h.tok hb hu _, okF_new2 h.PS hb hu _, Kd.N_far (Kd.N_mono (Kd.N_below (Kd.N_bound h.ans) hb) (fun k hk => ⟨hk.1.1, fun e => by have h1 := hu k e.symm; have h2 := hk.2; omega⟩)) (fun _ hk => hk.1) _, Kd.R_far hv (fun _ hk => hk) _⟩
end
/-- The same, its values untold. -/
def Fl (w0 W : World) (g : Nat) (n : Int) (vm : Value) (e : Int) (vh : Value) (s : FS) : Prop := ∃ lv vb vt vp va vd, FB w0 W g n vm e vh s lv vb vt vp va vd
theorem clone_strs {l : List ByteArray} (h : l.length ≤ 1000) : slices_Clone_string_string.f l = some l := by
  unfold slices_Clone_string_string.f
  simp only [Option.bind_some, List.length_nil, Nat.zero_add, List.nil_append]
  rw [if_pos (by omega)]
theorem bagput_f {l : List ByteArray} (h : l.length < 200) (x : ByteArray) : bag_Put.f l x = some (l ++ [x]) := by
  unfold bag_Put.f
  rw [clone_strs (by omega)]
  simp only [Option.bind_some]
  rw [if_pos (by omega), if_pos (by omega)]
set_option maxHeartbeats 8000000 in
set_option maxRecDepth 100000 in
theorem fleet_send.calls (w0 w : World) (g : Nat) (n : Int) (A0 : Option Addr) (c0 : Nat) (ls : List S31) (e : Int) (A1 : Option Addr) (c1 : Nat) (hs : List (List Int)) (s : FS) (lv : Nat → Value) (vb vt vp va vd : Value) (k : Nat) (a0 : Int) (a1 : Int) (a2 : Int) (a3 : Int) (a4 : Int) (a5 : Int) (a6 : Int) (a7 : Int) (a8 : Int) (a9 : Int) (Av : Option Addr) (cv : Nat) (v : List Int) (fr : ByteArray) (hB : FB w0 w g n (.slice A0 ls.length c0) e (.slice A1 hs.length c1) (s) lv vb vt vp va vd) (hlen : s.bag.length < 200) (hv : Kd.C (Kd.int .i64) w Av v.length v) (hcv : v.length ≤ cv) (hp : wire_Put.f k a0 a1 a2 a3 a4 a5 a6 a7 a8 a9 v = some (fr, 0)) :
    Calls Try.prog 64 #[.pointer (some ⟨g, 0, none⟩), .agg #[.int .i64 a0, .int .i64 a1, .int .i64 a2, .int .i64 a3, .int .i64 a4, .int .i64 a5, .int .i64 a6, .int .i64 a7, .int .i64 a8, .int .i64 a9, .slice Av v.length cv]] w fun e_ w' => ∃ vb', e_ = .returned (.tuple #[]) ∧ FB w0 w' g n (.slice A0 ls.length c0) e (.slice A1 hs.length c1) ({ s with bag := s.bag ++ [fr] }) lv vb' vt vp va vd := by
  obtain ⟨bg, hbg⟩ : ∃ bg, bg = s.bag ++ [fr] := ⟨_, rfl⟩
  have HG : Aside0 (bag_Put.f s.bag fr = some bg) := ⟨by rw [hbg]; exact bagput_f hlen fr⟩
  rw [← hbg]
  clear hbg
  have hu117 := Try.underlying117
  have hu121 := Try.underlying121
  have HP := Aside0.mk hp
  have HV := Aside0.mk hv
  have HC := Aside0.mk hcv
  have HS := Aside0.mk hlen
  have HB0 := Aside0.mk hB
  have hq := Kd.V_slice hB.bag
  obtain ⟨Ab, cb, hq⟩ := hq
  subst hq
  clear hp hv hcv hlen hB
  have hb0 := below_alloc (Below.refl w.heap.size w) (.cells #[.int .i64 a0, .int .i64 a1, .int .i64 a2, .int .i64 a3, .int .i64 a4, .int .i64 a5, .int .i64 a6, .int .i64 a7, .int .i64 a8, .int .i64 a9, .slice Av v.length cv] 121)
  have HB1 := Aside0.mk (HB0.out.below hb0)
  have HX : Aside0 ((w.alloc (.cells #[.int .i64 a0, .int .i64 a1, .int .i64 a2, .int .i64 a3, .int .i64 a4, .int .i64 a5, .int .i64 a6, .int .i64 a7, .int .i64 a8, .int .i64 a9, .slice Av v.length cv] 121)).heap[w.heap.size]? = some (.cells #[.int .i64 a0, .int .i64 a1, .int .i64 a2, .int .i64 a3, .int .i64 a4, .int .i64 a5, .int .i64 a6, .int .i64 a7, .int .i64 a8, .int .i64 a9, .slice Av v.length cv] 121 (0, 0))) := ⟨heap_alloc_new _ _⟩
  have HV1 := Aside0.mk (Kd.C_below HV.out hb0)
  clear hb0
  go_enter Try.func64, Try.ntmps64
  go_upto_region 1 with (fail)
  generalize w.alloc (.cells #[.int .i64 a0, .int .i64 a1, .int .i64 a2, .int .i64 a3, .int .i64 a4, .int .i64 a5, .int .i64 a6, .int .i64 a7, .int .i64 a8, .int .i64 a9, .slice Av v.length cv] 121) = w1 at HB1 HX HV1 ⊢
  obtain ⟨hm0, hm1, hm2, hm3, hm4, hm5, hm6, hm7, hm8, hm9, hm10⟩ := cells11 HX.out
  go_upto_region 3 with (go_at_call 96; (with_reducible refine (wire_Put.calls k a0 a1 a2 a3 a4 a5 a6 a7 a8 a9 Av cv v fr 0 w1 HV1.out HC.out HP.out).mono ?_); rintro e_ w2 ⟨rfl, hb⟩; have HB2 := Aside0.mk (HB1.out.below hb); clear hb hm0 hm1 hm2 hm3 hm4 hm5 hm6 hm7 hm8 hm9 hm10)
  obtain ⟨hf0, hf1, hf2, hf3, hf9, hf10, hf11, hf12, hf13, hf14⟩ := HB2.out.c
  have hfz := HB2.out.fz 9
  clear hf0 hf1 hf2 hf3 hf10 hf11 hf12 hf13 hf14
  go_wp2_with (go_at_call 97; (with_reducible refine (bag_Put.calls Ab cb s.bag fr bg w2 (Kd.V_reads' HB2.out.bag).2.2 (Kd.V_reads' HB2.out.bag).2.1 HG.out).mono ?_); rintro e_ w3 ⟨v3, rfl, ho, hb⟩; obtain ⟨A3, c3, rfl⟩ := Kd.R_slice ho; have HB3 := Aside0.mk (HB2.out.below hb); have HN := Aside0.mk (HB2.out.mine ho); clear ho hb hf9 hfz; have hfz := HB3.out.fz 9; have hf9 := HB3.out.c.2.2.2.2.1)
  go_end0
  exact ⟨_, rfl, HB3.out.putbag HN.out⟩
/-- The place of the first element for which p holds, counted from i on; -1: there is none. -/
def idxFrom90 {α : Type} (p : α → Bool) : List α → Nat → Int
  | [], _ => -1
  | x :: r, i => if p x = true then (i : Int) else idxFrom90 p r (i + 1)
theorem drop_at90 {α : Type} (l : List α) (k : Nat) (h : k < l.length) : l.drop k = l[k] :: l.drop (k + 1) := List.drop_eq_getElem_cons h
set_option maxHeartbeats 8000000 in
set_option maxRecDepth 100000 in
theorem idx90_calls (g : Nat) {fn : Func} (hfn : Try.prog.funcs[g]? = some fn) (hname : (fn.name == "runtime.NumGoroutine") = false) (hbody : fn.body.isSome = true) (lb : Array Value) (p : S76 → Bool)
    (A0 : Option Addr) (c0 : Nat) (l0 : List S76) (w : World) (hr0 : Kd.C k76 w A0 l0.length l0)
    (hP : ∀ (x : S76) (W : World), Below w.heap.size w W → Calls Try.prog g (#[(.agg #[.int .i64 x.f0, .int .i64 x.f1, .int .i64 x.f2, .int .i64 x.f3])] ++ lb) W fun e w' => e = .returned (.bool (p x)) ∧ Below W.heap.size W w') :
    Calls Try.prog 90 #[.slice A0 l0.length c0, .func (.func g) #[] lb] w fun e w' => e = .returned (.int .i64 (idxFrom90 p l0 0)) ∧ Below w.heap.size w w' := by
  have HR0 := Aside0.mk hr0
  have HP := Aside0.mk hP
  clear hr0 hP
  have HB := Aside0.mk (Below.refl w.heap.size w)
  have hmax : l0.length ≤ 9223372036854775807 := HR0.out.2.1
  have eg : ∀ (args : Array Value) (w : World), (callFunc g args).run Try.prog w = .ok (.enter g args) w := fun args w => enters_ hfn hname hbody args w
  go_enter Try.func90, Try.ntmps90
  go_wp2
  go_loopw [8] (fun v8 w' => ∃ k : Nat, Aside0 (k ≤ l0.length) ∧ v8 = .int .i64 (k : Int) ∧ Aside0 (idxFrom90 p (l0.drop k) k = idxFrom90 p l0 0) ∧ Aside0 (Below w.heap.size w w')) (fun v8 _ => l0.length - (intOf v8).toNat)
  case atStart => exact ⟨0, ⟨Nat.zero_le _⟩, rfl, ⟨rfl⟩, HB⟩
  case round =>
    obtain ⟨k, HK, rfl, HI, HB⟩ := hrel
    by_cases hlt : k < l0.length
    · obtain ⟨ad, hA, hx0, hx1, hx2, hx3⟩ := at_T76 HR0.out (k : Int) (by omega) (by omega)
      cases hA
      have hget : rd_T76 l0 (k : Int) = l0[k] := by
        unfold rd_T76
        rw [Int.toNat_natCast, List.getD_eq_getElem?_getD, List.getElem?_eq_getElem hlt]
        rfl
      rw [hget, Int.toNat_natCast] at hx0 hx1 hx2 hx3
      replace hx0 := (HB.out.cell (World.block_lt_of_cell? w _ hx0)).trans hx0
      replace hx1 := (HB.out.cell (World.block_lt_of_cell? w _ hx1)).trans hx1
      replace hx2 := (HB.out.cell (World.block_lt_of_cell? w _ hx2)).trans hx2
      replace hx3 := (HB.out.cell (World.block_lt_of_cell? w _ hx3)).trans hx3
      have hc : decide (k < l0.length) = true := decide_eq_true hlt
      have HC := Aside0.mk (fun W => HP.out l0[k] W)
      have HD := Aside0.mk (drop_at90 l0 k hlt)
      clear hget
      cases hp : p l0[k]
      · have HC1 : Aside0 (∀ W : World, Below w.heap.size w W → Calls Try.prog g (#[(.agg #[.int .i64 l0[k].f0, .int .i64 l0[k].f1, .int .i64 l0[k].f2, .int .i64 l0[k].f3])] ++ lb) W fun e w' => e = .returned (.bool false) ∧ Below W.heap.size W w') := ⟨fun W hW => by have := HC.out W hW; rwa [hp] at this⟩
        have HN : Aside0 (idxFrom90 p (l0.drop (k + 1)) (k + 1) = idxFrom90 p l0 0) := ⟨by have := HI.out; rw [HD.out] at this; simp only [idxFrom90, hp] at this; exact this⟩
        clear HC HI HD hp
        go_wp2_with (go_at_fn g; refine (HC1.out _ ?cb).mono ?_; (case cb => exact HB.out); rintro e w' ⟨rfl, hb0⟩; have n1_ := Aside0.mk (below_step HB.out hb0); clear hb0; clear HB; have HB := n1_; clear n1_)
        go_roundw
        case rel => exact ⟨k + 1, ⟨by omega⟩, by go_num, HN, HB⟩
        case measure => simp [intOf]; omega
      · have HC1 : Aside0 (∀ W : World, Below w.heap.size w W → Calls Try.prog g (#[(.agg #[.int .i64 l0[k].f0, .int .i64 l0[k].f1, .int .i64 l0[k].f2, .int .i64 l0[k].f3])] ++ lb) W fun e w' => e = .returned (.bool true) ∧ Below W.heap.size W w') := ⟨fun W hW => by have := HC.out W hW; rwa [hp] at this⟩
        have HN : Aside0 (((k : Nat) : Int) = idxFrom90 p l0 0) := ⟨by have := HI.out; rw [HD.out] at this; simp only [idxFrom90, hp] at this; exact this⟩
        clear HC HI HD hp
        go_wp2_with (go_at_fn g; refine (HC1.out _ ?cb).mono ?_; (case cb => exact HB.out); rintro e w' ⟨rfl, hb0⟩; have n1_ := Aside0.mk (below_step HB.out hb0); clear hb0; clear HB; have HB := n1_; clear n1_)
        go_ret
        exact ⟨by rw [← HN.out]; rfl, HB.out⟩
    · have hc : decide (k < l0.length) = false := decide_eq_false hlt
      have hk : k = l0.length := by have := HK.out; omega
      have HN : Aside0 ((-1 : Int) = idxFrom90 p l0 0) := ⟨by have := HI.out; rw [hk, List.drop_length] at this; exact this⟩
      clear hk
      go_wp2
      go_ret
      exact ⟨by rw [← HN.out]; rfl, HB.out⟩

/-- Is it the part that a message answers? -/
def partB (x : S76) (a b c : Int) : Bool := (x.f0 == a) && ((x.f1 == b) && (x.f2 == c))
set_option maxHeartbeats 8000000 in
set_option maxRecDepth 100000 in
theorem answer_one.calls (x : S76) (a b c : Int) (B : Nat) (W : World) (h6 : W.cell? ⟨B, 6, none⟩ = some (.int .i64 a)) (h7 : W.cell? ⟨B, 7, none⟩ = some (.int .i64 b)) (h8 : W.cell? ⟨B, 8, none⟩ = some (.int .i64 c)) :
    Calls Try.prog 91 #[.agg #[.int .i64 x.f0, .int .i64 x.f1, .int .i64 x.f2, .int .i64 x.f3], .pointer (some ⟨B, 0, none⟩)] W fun e w' => e = .returned (.bool (partB x a b c)) ∧ Below W.heap.size W w' := by
  have g6 : ∀ o, (W.alloc o).cell? ⟨B, 6, none⟩ = some (.int .i64 a) := fun o => Lib.cell?_alloc_some o h6
  have g7 : ∀ o, (W.alloc o).cell? ⟨B, 7, none⟩ = some (.int .i64 b) := fun o => Lib.cell?_alloc_some o h7
  have g8 : ∀ o, (W.alloc o).cell? ⟨B, 8, none⟩ = some (.int .i64 c) := fun o => Lib.cell?_alloc_some o h8
  have hu1 := Try.underlying76
  have hu2 := Try.underlying121
  unfold partB
  clear h6 h7 h8
  by_cases q0 : x.f0 = a
  · have e0 : (x.f0 == a) = true := beq_iff_eq.2 q0
    have d0 : decide (x.f0 = a) = true := decide_eq_true q0
    by_cases q1 : x.f1 = b
    · have e1 : (x.f1 == b) = true := beq_iff_eq.2 q1
      have d1 : decide (x.f1 = b) = true := decide_eq_true q1
      rw [e0, e1, Bool.true_and, Bool.true_and]
      clear q0 q1
      go_enter Try.func91, Try.ntmps91
      go_wp2
      go_ret
      exact ⟨rfl, below_alloc (Below.refl _ _) _⟩
    · have e1 : (x.f1 == b) = false := beq_eq_false_iff_ne.2 q1
      have d1 : decide (x.f1 = b) = false := decide_eq_false q1
      rw [e0, e1, Bool.true_and, Bool.false_and]
      clear q0 q1
      go_enter Try.func91, Try.ntmps91
      go_wp2
      go_ret
      exact ⟨rfl, below_alloc (Below.refl _ _) _⟩
  · have e0 : (x.f0 == a) = false := beq_eq_false_iff_ne.2 q0
    have d0 : decide (x.f0 = a) = false := decide_eq_false q0
    rw [e0, Bool.false_and]
    clear q0
    go_enter Try.func91, Try.ntmps91
    go_wp2
    go_ret
    exact ⟨rfl, below_alloc (Below.refl _ _) _⟩
/-- What Ask needs of the parts: to: who is asked, fr: the frame. -/
structure AskH (k : Nat) (e : Int) (hs : List (List Int)) (s : FS) (dst : Nat → Int) (fr : Nat → ByteArray) : Prop where
  n : s.PS.length ≤ 100
  b : s.bag.length + s.PS.length ≤ 200
  t : s.tok.length ≤ 60
  bs : s.bs.length = s.PS.length
  p : ∀ i : Nat, i < s.PS.length → 0 ≤ (rd_T76 s.PS (i : Int)).f0 ∧ (rd_T76 s.PS (i : Int)).f0 < (s.tok.length : Int) ∧ 0 ≤ (rd_T76 s.PS (i : Int)).f1 ∧ (rd_T76 s.PS (i : Int)).f1 ≤ 1 ∧ rdOf false s.bs (i : Int) = false ∧
    place_Pick.f k e hs (rd_T76 s.PS (i : Int)).f2 ((rd_T76 s.PS (i : Int)).f0 + (rd_T76 s.PS (i : Int)).f1) = some (dst i, true) ∧
    wire_Put.f k 1 0 (dst i) 0 1 (s.at_ : Int) (rd_T76 s.PS (i : Int)).f0 (rd_T76 s.PS (i : Int)).f1 (rd_T76 s.PS (i : Int)).f2 e (rd_L1 s.tok (rd_T76 s.PS (i : Int)).f0) = some (fr i, 0)
theorem frames_snoc (b : List ByteArray) (fr : Nat → ByteArray) (i : Nat) : (b ++ (List.range i).map fr) ++ [fr i] = b ++ (List.range (i + 1)).map fr := by
  rw [List.range_succ, List.map_append, List.append_assoc]
  rfl
set_option maxHeartbeats 8000000 in
set_option maxRecDepth 100000 in
theorem fleet_Ask.calls (w0 w : World) (g : Nat) (n : Int) (A0 : Option Addr) (c0 : Nat) (ls : List S31) (e : Int) (A1 : Option Addr) (c1 : Nat) (hs : List (List Int)) (s : FS) (lv : Nat → Value) (vb vt vp va vd : Value) (k : Nat) (dst : Nat → Int) (fr : Nat → ByteArray) (hm : Kd.C k31 w0 A0 ls.length ls) (hmc : ls.length ≤ c0) (hh : Kd.C (Kd.slice 3 (Kd.int .i64)) w0 A1 hs.length hs) (hhc : hs.length ≤ c1) (hB : FB w0 w g n (.slice A0 ls.length c0) e (.slice A1 hs.length c1) (s) lv vb vt vp va vd) (hat : s.at_ < ls.length) (h : AskH k e hs s dst fr) :
    Calls Try.prog 83 #[.pointer (some ⟨g, 0, none⟩)] w fun e_ w' => ∃ vb', e_ = .returned (.tuple #[]) ∧ FB w0 w' g n (.slice A0 ls.length c0) e (.slice A1 hs.length c1) ({ s with bag := s.bag ++ (List.range s.PS.length).map fr }) lv vb' vt vp va vd := by
  have hu24 := Try.underlying24
  have hu48 := Try.underlying48
  have hu76 := Try.underlying76
  have hu117 := Try.underlying117
  have hu121 := Try.underlying121
  have HR0 := Aside0.mk hm
  have HH := Aside0.mk hh
  have HHC := Aside0.mk hhc
  have HA := Aside0.mk h
  have HT := Aside0.mk hat
  have HB0 := Aside0.mk hB
  obtain ⟨Ap, cp, hq1⟩ := Kd.V_slice hB.PS
  subst hq1
  obtain ⟨At, ct, hq1⟩ := Kd.V_slice hB.tok
  subst hq1
  obtain ⟨Ad, cd, hq1⟩ := Kd.R_slice hB.bs
  subst hq1
  clear hm hmc hh hhc h hat hB
  obtain ⟨hf0, hf1, hf2, hf3, hf9, hf10, hf11, hf12, hf13, hf14⟩ := HB0.out.c
  have q0 : decide ((ls.length : Int) ≤ (s.at_ : Int)) = false := decide_eq_false (by have := HT.out; omega)
  have q0n : decide (ls.length ≤ s.at_) = false := decide_eq_false (by have := HT.out; omega)
  have q0g : decide ((s.at_ : Int) ≥ (ls.length : Int)) = false := q0
  go_enter Try.func83, Try.ntmps83
  go_wp2
  have HD := Aside0.mk (below_drew (Below.refl w.heap.size w))
  have HB1 := Aside0.mk (HB0.out.below HD.out)
  refine startM_ [] (n := 11) (S := fun W => W = w.drew) (by kernel_rfl) rfl rfl (fun hHeld => ?_)
  clear HD
  generalize w.drew = w1 at HB1 hHeld ⊢
  clear hf0 hf1 hf2 hf3 hf9 hf10 hf11 hf12 hf13 hf14
  obtain ⟨hf0, hf1, hf2, hf3, hf9, hf10, hf11, hf12, hf13, hf14⟩ := HB1.out.c
  iterate 11 (first | (refine pureM_ (v := ?_) (a' := ?_) rfl rfl (any_of rfl (by kernel_rfl)) (fun _ _ _ h => h) (Or.inl ⟨by rfl, ?_⟩) ?_ ?_; rotate_left; (intro w'; go_simp; with_reducible rfl); rotate_left; (simp only [Act.put, List.setIfInBounds_toArray, List.set_cons_zero, List.set_cons_succ, i64_w, i32_w]; rfl)) | (refine takeM_ (v := ?_) (a' := ?_) rfl rfl (take_of rfl (by kernel_rfl)) (fun _ _ _ h => h) (Or.inl ⟨by rfl, ?_⟩) hHeld ?_ ?_; rotate_left; (intro w' e_; rw [show w' = w1 from e_]; go_simp; with_reducible rfl); rotate_left; (simp only [Act.put, List.setIfInBounds_toArray, List.set_cons_zero, List.set_cons_succ, i64_w, i32_w]; rfl)))
  refine done_ (done_of rfl (by kernel_rfl)) ?_
  clear hHeld
  go_wp2
  go_loopw [22] (fun v22 w' => ∃ (i : Nat) (vb_ : Value), Aside0 (i ≤ s.PS.length) ∧ v22 = .int .i64 (i : Int) ∧ Aside0 (FB w0 w' g n (.slice A0 ls.length c0) e (.slice A1 hs.length c1) ({ s with bag := s.bag ++ (List.range i).map fr }) lv vb_ (.slice At s.tok.length ct) (.slice Ap s.PS.length cp) va (.slice Ad s.bs.length cd))) (fun v22 _ => s.PS.length - (intOf v22).toNat)
  case atStart => exact ⟨0, vb, ⟨Nat.zero_le _⟩, rfl, ⟨by rw [show s.bag ++ (List.range 0).map fr = s.bag from List.append_nil _]; exact HB1.out⟩⟩
  case round =>
    obtain ⟨i, vb_, Hi, rfl, HB⟩ := hrel
    clear hf0 hf1 hf2 hf3 hf9 hf10 hf11 hf12 hf13 hf14 HB1 HB0
    by_cases hlt : i < s.PS.length
    · have hc : decide (i < s.PS.length) = true := decide_eq_true hlt
      obtain ⟨ad, hA, hx0, hx1, hx2, hx3⟩ := at_T76 (xs := s.PS) (n := s.PS.length) (Kd.V_reads' HB.out.PS).2.2 (i : Int) (Int.natCast_nonneg i) (Int.ofNat_lt.2 hlt)
      cases hA
      obtain ⟨h00, h01, h10, h11, hbs, hpick, hput⟩ := HA.out.p i hlt
      obtain ⟨PX, hPX⟩ : ∃ PX, PX = rd_T76 s.PS (i : Int) := ⟨_, rfl⟩
      rw [← hPX] at hx0 hx1 hx2 hx3 h00 h01 h10 h11 hpick hput
      rw [Int.toNat_natCast] at hx0 hx1 hx2 hx3
      have HP := Aside0.mk hpick
      have HW := Aside0.mk hput
      have H00 := Aside0.mk h00
      have H01 := Aside0.mk h01
      have H10 := Aside0.mk h10
      have H11 := Aside0.mk h11
      have HBS := Aside0.mk hbs
      have HPX := Aside0.mk hPX
      have HLT := Aside0.mk hlt
      clear hPX h00 h01 h10 h11 hbs hpick hput
      go_upto_region 4 with (fail)
      have hb0 := below_alloc (Below.refl wr.heap.size wr) (.cells #[.int .i64 PX.f0, .int .i64 PX.f1, .int .i64 PX.f2, .int .i64 PX.f3] 76)
      have HB1 := Aside0.mk (HB.out.below hb0)
      have HX : Aside0 ((wr.alloc (.cells #[.int .i64 PX.f0, .int .i64 PX.f1, .int .i64 PX.f2, .int .i64 PX.f3] 76)).heap[wr.heap.size]? = some (.cells #[.int .i64 PX.f0, .int .i64 PX.f1, .int .i64 PX.f2, .int .i64 PX.f3] 76 (0, 0))) := ⟨heap_alloc_new _ _⟩
      clear hb0 hx0 hx1 hx2 hx3
      generalize wr.alloc (.cells #[.int .i64 PX.f0, .int .i64 PX.f1, .int .i64 PX.f2, .int .i64 PX.f3] 76) = w2 at HB1 HX ⊢
      obtain ⟨hf0, hf1, hf2, hf3, hf9, hf10, hf11, hf12, hf13, hf14⟩ := HB1.out.c
      have hlb : i < s.bs.length := by rw [HA.out.bs]; exact hlt
      obtain ⟨ab, hA, hx⟩ := Kd.at_bool (xs := s.bs) (n := s.bs.length) (Kd.R_reads' HB1.out.bs).2.2 (i : Int) (Int.natCast_nonneg i) (Int.ofNat_lt.2 hlb)
      cases hA
      rw [HBS.out, Int.toNat_natCast] at hx
      go_upto_region 5 with (fail)
      clear hf0 hf1 hf2 hf3 hf9 hf10 hf11 hf12 hf13 hf14 hx hlb hlt hc
      have HD := Aside0.mk (below_drew (Below.refl w2.heap.size w2))
      have HB2 := Aside0.mk (HB1.out.below HD.out)
      have HX2 := Aside0.mk (blk_below HX.out HD.out)
      refine startM_ [11] (n := 17) (S := fun W => W = w2.drew) (by kernel_rfl) rfl rfl (fun hHeld => ?_)
      clear HD
      generalize w2.drew = w3 at HB2 HX2 hHeld ⊢
      obtain ⟨hf0, hf1, hf2, hf3, hf9, hf10, hf11, hf12, hf13, hf14⟩ := HB2.out.c
      have hp0 := (blk_cell HX2.out 0).trans rfl
      have hp1 := (blk_cell HX2.out 1).trans rfl
      have hp2 := (blk_cell HX2.out 2).trans rfl
      have hw64 : wrap64 (PX.f0 + PX.f1) = PX.f0 + PX.f1 := by have := H00.out; have := H10.out; have := H01.out; have := H11.out; have := HA.out.t; unfold wrap64; omega
      iterate 11 (first | (refine pureM_ (v := ?_) (a' := ?_) rfl rfl (any_of rfl (by kernel_rfl)) (fun _ _ _ h => h) (Or.inl ⟨by rfl, ?_⟩) ?_ ?_; rotate_left; (intro w'; go_simp; with_reducible rfl); rotate_left; (simp only [Act.put, List.setIfInBounds_toArray, List.set_cons_zero, List.set_cons_succ, i64_w, i32_w]; rfl)) | (refine takeM_ (v := ?_) (a' := ?_) rfl rfl (take_of rfl (by kernel_rfl)) (fun _ _ _ h => h) (Or.inl ⟨by rfl, ?_⟩) hHeld ?_ ?_; rotate_left; (intro w' e_; rw [show w' = w3 from e_]; go_simp; with_reducible rfl); rotate_left; (simp only [Act.put, List.setIfInBounds_toArray, List.set_cons_zero, List.set_cons_succ, i64_w, i32_w]; rfl)))
      refine last_ (i := 11) (N := some 46) (mk_ 12 17) rfl rfl (one_of rfl (by kernel_rfl)) (by decide) (fun K hK => ?_)
      refine goes_ Try.func102 (by kernel_rfl) rfl #[.agg #[.int .i64 e, (.slice A1 hs.length c1)], .int .i64 PX.f2, .int .i64 (wrap64 (PX.f0 + PX.f1))] (by rfl) rfl rfl (by (try simp only [List.map_toArray, List.map_cons, List.map_nil]); first | done | rfl) ?_
      refine (place_Pick.calls k e A1 c1 hs PX.f2 (wrap64 (PX.f0 + PX.f1)) (dst i) true w3 (Kd.C_below HH.out HB2.out.hb) HHC.out (by rw [hw64]; exact HP.out)).mono ?_
      rintro e_ w4 ⟨rfl, hb⟩
      have HB3 := Aside0.mk (HB2.out.below hb)
      have HX3 := Aside0.mk (blk_below HX2.out hb)
      clear hb hw64 hf0 hf1 hf2 hf3 hf9 hf10 hf11 hf12 hf13 hf14 hp0 hp1 hp2
      refine ⟨_, rfl, ?_⟩
      refine hK.out _ _ ?_
      clear hK K
      refine norm_ (a' := ?_) ?_ ?_
      rotate_left
      · show Act.put _ (some 46) _ = _
        simp only [Act.put, List.setIfInBounds_toArray, List.set_cons_zero, List.set_cons_succ, i64_w, i32_w]
        rfl
      iterate 5 (refine pureM_ (v := ?_) (a' := ?_) rfl rfl (any_of rfl (by kernel_rfl)) (fun _ _ _ h => h) (Or.inl ⟨by rfl, ?_⟩) ?_ ?_; rotate_left; (intro w'; go_simp; with_reducible rfl); rotate_left; (simp only [Act.put, List.setIfInBounds_toArray, List.set_cons_zero, List.set_cons_succ, i64_w, i32_w]; rfl))
      refine done_ (done_of rfl (by kernel_rfl)) ?_
      clear hHeld HB2 HX2 HB1 HX
      go_upto_region 6 with (fail)
      have HD := Aside0.mk (below_drew (Below.refl w4.heap.size w4))
      have HB4 := Aside0.mk (HB3.out.below HD.out)
      have HX4 := Aside0.mk (blk_below HX3.out HD.out)
      refine startM_ [26] (n := 27) (S := fun W => W = w4.drew) (by kernel_rfl) rfl rfl (fun hHeld => ?_)
      clear HD
      generalize w4.drew = w5 at HB4 HX4 hHeld ⊢
      obtain ⟨hf0, hf1, hf2, hf3, hf9, hf10, hf11, hf12, hf13, hf14⟩ := HB4.out.c
      have hp0 := (blk_cell HX4.out 0).trans rfl
      have hp1 := (blk_cell HX4.out 1).trans rfl
      have hp2 := (blk_cell HX4.out 2).trans rfl
      obtain ⟨ar, Ar, cr, hA, hr, hcr, hC⟩ := at_L1 (xs := s.tok) (n := s.tok.length) (Kd.V_reads' HB4.out.tok).2.2 PX.f0 H00.out H01.out
      cases hA
      have h00 := H00.out
      have h01 := H01.out
      iterate 26 (first | (refine pureM_ (v := ?_) (a' := ?_) rfl rfl (any_of rfl (by kernel_rfl)) (fun _ _ _ h => h) (Or.inl ⟨by rfl, ?_⟩) ?_ ?_; rotate_left; (intro w'; go_simp; with_reducible rfl); rotate_left; (simp only [Act.put, List.setIfInBounds_toArray, List.set_cons_zero, List.set_cons_succ, i64_w, i32_w]; rfl)) | (refine takeM_ (v := ?_) (a' := ?_) rfl rfl (take_of rfl (by kernel_rfl)) (fun _ _ _ h => h) (Or.inl ⟨by rfl, ?_⟩) hHeld ?_ ?_; rotate_left; (intro w' e_; rw [show w' = w5 from e_]; go_simp; with_reducible rfl); rotate_left; (simp only [Act.put, List.setIfInBounds_toArray, List.set_cons_zero, List.set_cons_succ, i64_w, i32_w]; rfl)))
      refine last_ (i := 26) (N := some 75) (mk_ 27 27) rfl rfl (one_of rfl (by kernel_rfl)) (by decide) (fun K hK => ?_)
      refine goes_ Try.func64 (by kernel_rfl) rfl #[.pointer (some ⟨g, 0, none⟩), .agg #[.int .i64 1, .int .i64 0, .int .i64 (dst i), .int .i64 0, .int .i64 1, .int .i64 (s.at_ : Int), .int .i64 PX.f0, .int .i64 PX.f1, .int .i64 PX.f2, .int .i64 e, .slice Ar (rd_L1 s.tok PX.f0).length cr]] (by rfl) rfl rfl (by (try simp only [List.map_toArray, List.map_cons, List.map_nil]); first | done | rfl) ?_
      refine (fleet_send.calls w0 w5 g n A0 c0 ls e A1 c1 hs _ lv vb_ _ _ va _ k 1 0 (dst i) 0 1 (s.at_ : Int) PX.f0 PX.f1 PX.f2 e Ar cr (rd_L1 s.tok PX.f0) (fr i) HB4.out (by show (s.bag ++ (List.range i).map fr).length < 200; rw [List.length_append, List.length_map, List.length_range]; have := HA.out.b; have := HLT.out; omega) hC hcr HW.out).mono ?_
      rintro e_ w6 ⟨vb2, rfl, hB6⟩
      have HB6 := Aside0.mk hB6
      clear hB6 hf0 hf1 hf2 hf3 hf9 hf10 hf11 hf12 hf13 hf14 hp0 hp1 hp2 hr
      refine ⟨_, rfl, ?_⟩
      refine hK.out _ _ ?_
      clear hK K
      refine norm_ (a' := ?_) ?_ ?_
      rotate_left
      · show Act.put _ (some 75) _ = _
        simp only [Act.put, List.setIfInBounds_toArray, List.set_cons_zero, List.set_cons_succ, i64_w, i32_w]
        rfl
      refine done_ (done_of rfl (by kernel_rfl)) ?_
      clear hHeld HB3 HX3 HB4 HX4
      have hlt := HLT.out
      have hmax : s.PS.length ≤ 9223372036854775807 := by have := HA.out.n; omega
      go_wp2
      go_roundw
      case rel => exact ⟨i + 1, vb2, ⟨by have := HLT.out; omega⟩, by go_num, ⟨by rw [← frames_snoc]; exact HB6.out⟩⟩
      case measure => have := HLT.out; simp [intOf]; omega
    · have hc : decide (i < s.PS.length) = false := decide_eq_false hlt
      have hi : i = s.PS.length := by have := Hi.out; omega
      subst hi
      go_wp2
      go_end0
      exact ⟨_, rfl, HB.out⟩
set_option maxHeartbeats 8000000 in
set_option maxRecDepth 100000 in
theorem fleet_begin.calls (w0 w : World) (g : Nat) (n : Int) (A0 : Option Addr) (c0 : Nat) (ls : List S31) (e : Int) (A1 : Option Addr) (c1 : Nat) (hs : List (List Int)) (s : FS) (lv : Nat → Value) (vb vt vp va vd : Value) (k : Nat) (dst : Nat → Int) (fr : Nat → ByteArray) (PS : List S76) (hm : Kd.C k31 w0 A0 ls.length ls) (hmc : ls.length ≤ c0) (hh : Kd.C (Kd.slice 3 (Kd.int .i64)) w0 A1 hs.length hs) (hhc : hs.length ≤ c1) (hB : FB w0 w g n (.slice A0 ls.length c0) e (.slice A1 hs.length c1) (s) lv vb vt vp va vd) (hat : s.at_ < ls.length) (hp : model_Parts.f k (rd_T31 ls (s.at_ : Int)).f0 (rd_T31 ls (s.at_ : Int)).f1 (rd_T31 ls (s.at_ : Int)).f2 s.tok = some PS) (h : AskH k e hs ({ s with PS := PS, ans := List.replicate PS.length [], bs := List.replicate PS.length false }) dst fr) :
    Calls Try.prog 58 #[.pointer (some ⟨g, 0, none⟩)] w fun e_ w' => e_ = .returned (.tuple #[]) ∧ Fl w0 w' g n (.slice A0 ls.length c0) e (.slice A1 hs.length c1) ({ s with PS := PS, ans := List.replicate PS.length [], bs := List.replicate PS.length false, bag := s.bag ++ (List.range PS.length).map fr }) := by
  have hu24 := Try.underlying24
  have hu31 := Try.underlying31
  have hu48 := Try.underlying48
  have hu117 := Try.underlying117
  have HR0 := Aside0.mk hm
  have HMC := Aside0.mk hmc
  have HH := Aside0.mk hh
  have HHC := Aside0.mk hhc
  have HA := Aside0.mk h
  have HT := Aside0.mk hat
  have HP := Aside0.mk hp
  have HB0 := Aside0.mk hB
  obtain ⟨At, ct, hq1⟩ := Kd.V_slice hB.tok
  subst hq1
  have HTK := Aside0.mk (Kd.V_reads' hB.tok)
  clear hm hmc hh hhc h hp hB
  obtain ⟨hf0, hf1, hf2, hf3, hf9, hf10, hf11, hf12, hf13, hf14⟩ := HB0.out.c
  have q0 : decide ((ls.length : Int) ≤ (s.at_ : Int)) = false := decide_eq_false (by omega)
  have q0n : decide (ls.length ≤ s.at_) = false := decide_eq_false (by omega)
  clear hat
  go_enter Try.func58, Try.ntmps58
  go_upto_region 0 with (fail)
  clear hf0 hf1 hf2 hf3 hf9 hf10 hf11 hf12 hf13 hf14
  have HD := Aside0.mk (below_drew (Below.refl w.heap.size w))
  have HB1 := Aside0.mk (HB0.out.below HD.out)
  refine startM_ [] (n := 11) (S := fun W => W = w.drew) (by kernel_rfl) rfl rfl (fun hHeld => ?_)
  clear HD
  generalize w.drew = w1 at HB1 hHeld ⊢
  obtain ⟨hf0, hf1, hf2, hf3, hf9, hf10, hf11, hf12, hf13, hf14⟩ := HB1.out.c
  iterate 11 (first | (refine pureM_ (v := ?_) (a' := ?_) rfl rfl (any_of rfl (by kernel_rfl)) (fun _ _ _ h => h) (Or.inl ⟨by rfl, ?_⟩) ?_ ?_; rotate_left; (intro w'; go_simp; with_reducible rfl); rotate_left; (simp only [Act.put, List.setIfInBounds_toArray, List.set_cons_zero, List.set_cons_succ, i64_w, i32_w]; rfl)) | (refine takeM_ (v := ?_) (a' := ?_) rfl rfl (take_of rfl (by kernel_rfl)) (fun _ _ _ h => h) (Or.inl ⟨by rfl, ?_⟩) hHeld ?_ ?_; rotate_left; (intro w' e_; rw [show w' = w1 from e_]; go_simp; with_reducible rfl); rotate_left; (simp only [Act.put, List.setIfInBounds_toArray, List.set_cons_zero, List.set_cons_succ, i64_w, i32_w]; rfl)))
  refine done_ (done_of rfl (by kernel_rfl)) ?_
  clear hHeld HB0
  clear hf0 hf1 hf2 hf3 hf9 hf10 hf11 hf12 hf13 hf14
  go_upto_region 1 with (fail)
  have HD := Aside0.mk (below_drew (Below.refl w1.heap.size w1))
  have HB2 := Aside0.mk (HB1.out.below HD.out)
  refine startM_ [16, 19] (n := 20) (S := fun W => W = w1.drew) (by kernel_rfl) rfl rfl (fun hHeld => ?_)
  clear HD
  generalize w1.drew = w2 at HB2 hHeld ⊢
  clear HB1
  obtain ⟨hf0, hf1, hf2, hf3, hf9, hf10, hf11, hf12, hf13, hf14⟩ := HB2.out.c
  obtain ⟨al, Ag, cg, Ax, cx, hA, hl0, hl1, hl2, hgc, hG, hxc, hX⟩ := at_T31 (xs := ls) (n := ls.length) (Kd.C_below HR0.out HB2.out.hb) (s.at_ : Int) (Int.natCast_nonneg _) (Int.ofNat_lt.2 HT.out)
  cases hA
  rw [Int.toNat_natCast] at hl0 hl1 hl2
  have hat := HT.out
  iterate 16 (first | (refine pureM_ (v := ?_) (a' := ?_) rfl rfl (any_of rfl (by kernel_rfl)) (fun _ _ _ h => h) (Or.inl ⟨by rfl, ?_⟩) ?_ ?_; rotate_left; (intro w'; go_simp; with_reducible rfl); rotate_left; (simp only [Act.put, List.setIfInBounds_toArray, List.set_cons_zero, List.set_cons_succ, i64_w, i32_w]; rfl)) | (refine takeM_ (v := ?_) (a' := ?_) rfl rfl (take_of rfl (by kernel_rfl)) (fun _ _ _ h => h) (Or.inl ⟨by rfl, ?_⟩) hHeld ?_ ?_; rotate_left; (intro w' e_; rw [show w' = w2 from e_]; go_simp; with_reducible rfl); rotate_left; (simp only [Act.put, List.setIfInBounds_toArray, List.set_cons_zero, List.set_cons_succ, i64_w, i32_w]; rfl)))
  refine last_ (i := 16) (N := some 29) (mk_ 17 20) rfl rfl (one_of rfl (by kernel_rfl)) (by decide) (fun K hK => ?_)
  refine goes_ Try.func29 (by kernel_rfl) rfl #[.agg #[.slice Ag (rd_T31 ls (s.at_ : Int)).f0.length cg, .slice Ax (rd_T31 ls (s.at_ : Int)).f1.length cx, .int .i64 (rd_T31 ls (s.at_ : Int)).f2], .slice At s.tok.length ct] (by rfl) rfl rfl (by (try simp only [List.map_toArray, List.map_cons, List.map_nil]); first | done | rfl) ?_
  refine (model_Parts.calls k Ag cg (rd_T31 ls (s.at_ : Int)).f0 Ax cx (rd_T31 ls (s.at_ : Int)).f1 (rd_T31 ls (s.at_ : Int)).f2 At ct s.tok PS w2 hG hgc hX hxc (Kd.V_reads' HB2.out.tok).2.2 (Kd.V_reads' HB2.out.tok).2.1 HP.out).mono ?_
  rintro e_ w3 ⟨vp', rfl, ho, hb⟩
  have HB3 := Aside0.mk (HB2.out.below hb)
  have HN := Aside0.mk (HB2.out.mine ho)
  obtain ⟨Ap, cp, rfl⟩ := Kd.R_slice ho
  clear ho hb hl0 hl1 hl2 hG hgc hX hxc hat hf0 hf1 hf2 hf3 hf9 hf10 hf11 hf12 hf13 hf14
  refine ⟨_, rfl, ?_⟩
  refine hK.out _ _ ?_
  clear hK K
  refine norm_ (a' := ?_) ?_ ?_
  rotate_left
  · show Act.put _ (some 29) _ = _
    simp only [Act.put, List.setIfInBounds_toArray, List.set_cons_zero, List.set_cons_succ, i64_w, i32_w]
    rfl
  iterate 2 (refine pureM_ (v := ?_) (a' := ?_) rfl rfl (any_of rfl (by kernel_rfl)) (fun _ _ _ h => h) (Or.inl ⟨by rfl, ?_⟩) ?_ ?_; rotate_left; (intro w'; go_simp; with_reducible rfl); rotate_left; (simp only [Act.put, List.setIfInBounds_toArray, List.set_cons_zero, List.set_cons_succ, i64_w, i32_w]; rfl))
  refine last_ (i := 19) (N := none) (mk_ 20 20) rfl rfl (one_of rfl (by kernel_rfl)) (by decide) (fun K hK => ?_)
  obtain ⟨hf0, hf1, hf2, hf3, hf9, hf10, hf11, hf12, hf13, hf14⟩ := HB3.out.c
  have hz := HB3.out.fz 12
  refine skip_ (w1 := ?_) (by rfl) rfl ?_ ?_
  rotate_left
  · go_simp
    rfl
  clear hz hf0 hf1 hf2 hf3 hf9 hf10 hf11 hf12 hf13 hf14
  have HB4 := Aside0.mk (HB3.out.putps HN.out)
  generalize w3.setCell ⟨g, 12, none⟩ (.slice Ap PS.length cp) = w4 at HB4 ⊢
  clear HB3 HN hHeld
  refine hK.out _ _ ?_
  clear hK K
  refine done_ (done_of rfl (by kernel_rfl)) ?_
  go_upto_region 2 with (fail)
  have hn : PS.length ≤ 100 := HA.out.n
  obtain ⟨hf0, hf1, hf2, hf3, hf9, hf10, hf11, hf12, hf13, hf14⟩ := HB4.out.c
  have HF4 := Aside0.mk (fun j => HB4.out.fz j)
  go_upto_region 3 with ((with_reducible refine gate_dst (N := 38) rfl ?_); refine Kd.N_make (Kd.slice 3 (Kd.int .i64)) (w0 := w4) w4.heap.size 54 rfl (N' := 38) rfl 25 _ _ rfl (PS.length : Int) rfl rfl Try.underlying25 (.slice none 0 0) 24 info54 rfl (by decide) (by omega) ([] : List Int) (ok := fun k => k ≠ g ∧ some k ≠ vd.ownBlock) (okp := fun _ => False) (Kd.FK_slice_mk (Nat.le_refl _) (Kd.F_nil _ _ _)) (fun _ h => h.elim) ⟨(HB4.out.new (Nat.le_refl _)).1, (HB4.out.new (Nat.le_refl _)).2.2⟩ (Int.natCast_nonneg _) (by omega) (Below.refl _ _) (Nat.le_refl _) ?_; intro va' w5 hr hb hgr hat_; rw [Int.toNat_natCast] at hr; have HB5 := Aside0.mk (HB4.out.below hb); obtain ⟨Aa, ca, rfl, _, _⟩ := Kd.N_reads hr; have HB6 := Aside0.mk (HB4.out.putans hb (Kd.N_base hr) (Kd.N_lower hr HB4.out.hb.size)); clear hr hb hgr hat_ hf0 hf1 hf2 hf3 hf9 hf10 hf11 hf12 hf13 hf14; obtain ⟨hf0, hf1, hf2, hf3, hf9, hf10, hf11, hf12, hf13, hf14⟩ := HB5.out.c; have hz := HB5.out.fz 13)
  simp only [List.length_replicate] at HB6
  generalize w5.setCell ⟨g, 13, none⟩ (.slice Aa PS.length ca) = w6 at HB6 ⊢
  clear hz HF4 HB5 HB4 hf0 hf1 hf2 hf3 hf9 hf10 hf11 hf12 hf13 hf14
  obtain ⟨hf0, hf1, hf2, hf3, hf9, hf10, hf11, hf12, hf13, hf14⟩ := HB6.out.c
  go_upto_region 4 with ((with_reducible refine gate_dst (N := 47) rfl ?_); refine Kd.R_make Kd.bool (w0 := w6) w6.heap.size 4 rfl (N := 47) rfl 115 _ _ rfl (PS.length : Int) rfl rfl Try.underlying115 (.bool false) 1 (by kernel_rfl) rfl (by decide) (by omega) false (ok := fun k => k ≠ g) (okp := fun _ => False) rfl (fun _ h => h.elim) (HB6.out.new (Nat.le_refl _)).1 (Int.natCast_nonneg _) (by omega) (Below.refl _ _) (Nat.le_refl _) ?_; intro vd' w7 hr hb hgr hat_; rw [Int.toNat_natCast] at hr; have HB7 := Aside0.mk (HB6.out.below hb); obtain ⟨Ad, cd, rfl, _, _⟩ := Kd.R_reads hr; have HB8 := Aside0.mk (HB6.out.putbs hb (Kd.R_base hr) (Kd.R_lower hr HB6.out.hb.size)); clear hr hb hgr hat_ hf0 hf1 hf2 hf3 hf9 hf10 hf11 hf12 hf13 hf14; obtain ⟨hf0, hf1, hf2, hf3, hf9, hf10, hf11, hf12, hf13, hf14⟩ := HB7.out.c; have hz := HB7.out.fz 14)
  simp only [List.length_replicate] at HB8
  generalize w7.setCell ⟨g, 14, none⟩ _ = w8 at HB8 ⊢
  clear hz HB7 HB6 hf0 hf1 hf2 hf3 hf9 hf10 hf11 hf12 hf13 hf14
  go_wp2_with (go_at_call 83; (with_reducible refine (fleet_Ask.calls w0 w8 g n _ c0 ls e A1 c1 hs ({ s with PS := PS, ans := List.replicate PS.length [], bs := List.replicate PS.length false }) lv vb _ _ _ _ k dst fr HR0.out HMC.out HH.out HHC.out HB8.out HT.out HA.out).mono ?_); rintro e_ w9 ⟨vb', rfl, hB9⟩; have HB9 := Aside0.mk hB9; clear hB9)
  go_end0
  exact ⟨rfl, _, _, _, _, _, _, HB9.out⟩
section
variable {w0 W W1 : World} {g : Nat} {n e : Int} {vm vh : Value} {s : FS} {lv : Nat → Value} {vb vt vp va vd : Value}
theorem bs_tight {b : Nat} {ok : Nat → Prop} {v : Value} {xs : List Bool} (h : Kd.R Kd.bool 4 W b ok v xs) : Kd.R Kd.bool 4 W b (fun k => ok k ∧ some k = v.ownBlock) v xs := by
  obtain ⟨A, c, rfl⟩ := Kd.R_slice h
  exact Kd.R_of_own (Kd.own_of_R h) (fun k hk => ⟨h.1 k hk, hk.symm⟩)
/-- answers[i] = v. -/
theorem FB.setans {ga ca : Nat} {Av : Option Addr} {cv : Nat} {v : List Int} (h : FB w0 W g n vm e vh s lv vb vt vp (.slice (some ⟨ga, 0, none⟩) s.ans.length ca) vd) (i : Nat) (hi : i < s.ans.length)
    (hv : Kd.V (Kd.int .i64) 3 W 0 (okF g (.slice (some ⟨ga, 0, none⟩) s.ans.length ca) vd) (.slice Av v.length cv) v) :
    (∃ u, W.cell? ⟨ga, i, none⟩ = some u) ∧ W.frozen? ⟨ga, i, none⟩ = false ∧
    FB w0 (W.setCell ⟨ga, i, none⟩ (.slice Av v.length cv)) g n vm e vh { s with ans := s.ans.set i v } lv vb vt vp (.slice (some ⟨ga, 0, none⟩) s.ans.length ca) vd := by
  have hown : (Value.slice (some ⟨ga, 0, none⟩) s.ans.length ca).ownBlock = some ga := by simp [Value.ownBlock]
  have hga : ga ≠ g ∧ some ga ≠ vd.ownBlock := h.ans.1 ga hown
  obtain ⟨c, hcl, _, hcc, hfz⟩ := Kd.N_elem h.ans [] (i : Int) (Int.natCast_nonneg i) (Int.ofNat_lt.2 hi)
  rw [Int.toNat_natCast] at hcc hfz
  have hsz : (Kd.slice 3 (Kd.int .i64)).sz = 1 := rfl
  rw [hsz, Nat.mul_one] at hcc hfz
  rw [hsz] at hcl
  have hok : ∀ k, okF g (.slice (some ⟨ga, 0, none⟩) s.ans.length ca) vd k → k ≠ ga := fun k hk he => hk.2.1 (by rw [hown, he])
  obtain ⟨hN, hG⟩ := Kd.N_seg h.ans (i : Int) (Int.natCast_nonneg i) (Int.ofNat_lt.2 hi) (c := c) (seg := [.slice Av v.length cv]) (j := 0) (x' := v) (okp := okF g (.slice (some ⟨ga, 0, none⟩) s.ans.length ca) vd) hcl
    (fun j u hu => by rw [Int.toNat_natCast, hsz, Nat.mul_one]; exact hcc j u hu) (by rw [hsz]; exact Nat.le_refl _)
    (by
      have h1 : c.take 0 ++ [Value.slice Av v.length cv] ++ c.drop (0 + [Value.slice Av v.length cv].length) = [Value.slice Av v.length cv] := by
        rw [List.take_zero, List.drop_of_length_le (by rw [hcl]; exact Nat.le_refl _)]
        rfl
      rw [h1]
      exact Kd.FK_slice_mk (Kd.V_at hv).2.1 (Kd.V_at hv).2.2) (fun k hk => ⟨⟨hk.1, hk.2.2⟩, hok k hk⟩)
  rw [Int.toNat_natCast, hsz, Nat.mul_one] at hN
  refine ⟨?_, by simpa using hfz 0, ?_⟩
  · match c, hcl with
    | [u], _ => exact ⟨u, by simpa using hcc 0 u rfl⟩
  · exact ⟨Below.setCell h.hb (Kd.N_base h.ans ga hown) _, h.hg, (Below.heap_setCell W _ _ g (Ne.symm hga.1)).trans h.blk, fun t ht => Kd.V_far (h.L t ht) hok _, Kd.V_far h.bag hok _, Kd.V_far h.tok hok _, Kd.V_far h.PS hok _, hN,
      Kd.R_mono (Kd.R_far (bs_tight h.bs) (fun k hk he => hga.2 (by rw [← hk.2, he])) _) (fun k hk => hk.1)⟩
/-- answered[i] = true. -/
theorem FB.setbs {gd cd : Nat} (h : FB w0 W g n vm e vh s lv vb vt vp va (.slice (some ⟨gd, 0, none⟩) s.bs.length cd)) (i : Nat) (hi : i < s.bs.length) :
    (∃ u, W.cell? ⟨gd, i, none⟩ = some u) ∧ W.frozen? ⟨gd, i, none⟩ = false ∧
    FB w0 (W.setCell ⟨gd, i, none⟩ (.bool true)) g n vm e vh { s with bs := s.bs.set i true } lv vb vt vp va (.slice (some ⟨gd, 0, none⟩) s.bs.length cd) := by
  have hown : (Value.slice (some ⟨gd, 0, none⟩) s.bs.length cd).ownBlock = some gd := by simp [Value.ownBlock]
  have hgd : gd ≠ g := h.bs.1 gd hown
  have hok : ∀ k, okF g va (.slice (some ⟨gd, 0, none⟩) s.bs.length cd) k → k ≠ gd := fun k hk he => hk.2.2 (by rw [hown, he])
  obtain ⟨h1, h2⟩ := Kd.R_celln false h.bs (i : Int) (Int.natCast_nonneg i) (Int.ofNat_lt.2 hi)
  have h3 := Kd.R_putn h.bs (i : Int) true
  rw [Int.toNat_natCast] at h1 h2 h3
  exact ⟨⟨_, h1⟩, h2, ⟨Below.setCell h.hb (Kd.R_base h.bs gd hown) _, h.hg, (Below.heap_setCell W _ _ g (Ne.symm hgd)).trans h.blk, fun t ht => Kd.V_far (h.L t ht) hok _, Kd.V_far h.bag hok _, Kd.V_far h.tok hok _, Kd.V_far h.PS hok _, Kd.N_far h.ans (fun k hk he => hk.2 (by rw [hown, he])) _, h3⟩⟩
end
set_option maxHeartbeats 8000000 in
set_option maxRecDepth 100000 in
theorem fleet_answer.calls (w0 w : World) (g : Nat) (n : Int) (A0 : Option Addr) (c0 : Nat) (ls : List S31) (e : Int) (A1 : Option Addr) (c1 : Nat) (hs : List (List Int)) (s : FS) (lv : Nat → Value) (vb vt vp va vd : Value) (a1 a2 a3 a6 a7 a8 a9 : Int) (Av : Option Addr) (cv : Nat) (v : List Int) (i : Nat) (hB : FB w0 w g n (.slice A0 ls.length c0) e (.slice A1 hs.length c1) (s) lv vb vt vp va vd) (hat : s.at_ < ls.length) (hn : n = (v.length : Int)) (hi : idxFrom90 (fun x => partB x a6 a7 a8) s.PS 0 = (i : Int)) (hil : i < s.PS.length) (hal : s.ans.length = s.PS.length) (hbl : s.bs.length = s.PS.length) (hbi : rdOf false s.bs (i : Int) = false)
    (hv : Kd.V (Kd.int .i64) 3 w 0 (okF g va vd) (.slice Av v.length cv) v) (Post : World → Prop) (hcome : ∀ w1, Fl w0 w1 g n (.slice A0 ls.length c0) e (.slice A1 hs.length c1) ({ s with ans := s.ans.set i v, bs := s.bs.set i true }) → Calls Try.prog 59 #[.pointer (some ⟨g, 0, none⟩)] w1 fun e_ w' => e_ = .returned (.tuple #[]) ∧ Post w') :
    Calls Try.prog 62 #[.pointer (some ⟨g, 0, none⟩), .agg #[.int .i64 2, .int .i64 a1, .int .i64 a2, .int .i64 a3, .int .i64 1, .int .i64 (s.at_ : Int), .int .i64 a6, .int .i64 a7, .int .i64 a8, .int .i64 a9, .slice Av v.length cv]] w fun e_ w' => e_ = .returned (.tuple #[]) ∧ Post w' := by
  subst hn
  have hu24 := Try.underlying24
  have hu76 := Try.underlying76
  have hu117 := Try.underlying117
  have hu121 := Try.underlying121
  obtain ⟨Ap, cp, hq⟩ := Kd.V_slice hB.PS
  subst hq
  obtain ⟨ga, ca, hq, _, _, _⟩ := Kd.N_form hB.ans (by omega)
  subst hq
  obtain ⟨gd, cd, hq, _, _, _⟩ := Kd.R_form hB.bs (by omega)
  subst hq
  have HB0 := Aside0.mk hB
  have HI := Aside0.mk hi
  have HIL := Aside0.mk hil
  have HAL := Aside0.mk hal
  have HBL := Aside0.mk hbl
  have HBI := Aside0.mk hbi
  have HV := Aside0.mk hv
  have HC := Aside0.mk hcome
  have q0 : decide ((ls.length : Int) ≤ (s.at_ : Int)) = false := decide_eq_false (by omega)
  have q0n : decide (ls.length ≤ s.at_) = false := decide_eq_false (by omega)
  have q0g : decide ((s.at_ : Int) ≥ (ls.length : Int)) = false := q0
  clear hB hat hi hil hal hbl hbi hv hcome
  have hb0 := below_alloc (Below.refl w.heap.size w) (.cells #[.int .i64 2, .int .i64 a1, .int .i64 a2, .int .i64 a3, .int .i64 1, .int .i64 (s.at_ : Int), .int .i64 a6, .int .i64 a7, .int .i64 a8, .int .i64 a9, .slice Av v.length cv] 121)
  have HB1 := Aside0.mk (HB0.out.below hb0)
  have HX : Aside0 ((w.alloc (.cells #[.int .i64 2, .int .i64 a1, .int .i64 a2, .int .i64 a3, .int .i64 1, .int .i64 (s.at_ : Int), .int .i64 a6, .int .i64 a7, .int .i64 a8, .int .i64 a9, .slice Av v.length cv] 121)).heap[w.heap.size]? = some (.cells #[.int .i64 2, .int .i64 a1, .int .i64 a2, .int .i64 a3, .int .i64 1, .int .i64 (s.at_ : Int), .int .i64 a6, .int .i64 a7, .int .i64 a8, .int .i64 a9, .slice Av v.length cv] 121 (0, 0))) := ⟨heap_alloc_new _ _⟩
  have HV1 := Aside0.mk (Kd.V_below HV.out hb0)
  clear hb0 HB0 HV
  go_enter Try.func62, Try.ntmps62
  go_upto_region 1 with (fail)
  generalize w.alloc (.cells #[.int .i64 2, .int .i64 a1, .int .i64 a2, .int .i64 a3, .int .i64 1, .int .i64 (s.at_ : Int), .int .i64 a6, .int .i64 a7, .int .i64 a8, .int .i64 a9, .slice Av v.length cv] 121) = w1 at HB1 HX HV1 ⊢
  have HD := Aside0.mk (below_drew (Below.refl w1.heap.size w1))
  have HB2 := Aside0.mk (HB1.out.below HD.out)
  have HX2 := Aside0.mk (blk_below HX.out HD.out)
  have HV2 := Aside0.mk (Kd.V_below HV1.out HD.out)
  refine startM_ [] (n := 41) (S := fun W => W = w1.drew) (by kernel_rfl) rfl rfl (fun hHeld => ?_)
  clear HD
  generalize w1.drew = w2 at HB2 HX2 HV2 hHeld ⊢
  obtain ⟨hf0, hf1, hf2, hf3, hf9, hf10, hf11, hf12, hf13, hf14⟩ := HB2.out.c
  obtain ⟨hm0, hm1, hm2, hm3, hm4, hm5, hm6, hm7, hm8, hm9, hm10⟩ := cells11 HX2.out
  iterate 41 (first | (refine pureM_ (v := ?_) (a' := ?_) rfl rfl (any_of rfl (by kernel_rfl)) (fun _ _ _ h => h) (Or.inl ⟨by rfl, ?_⟩) ?_ ?_; rotate_left; (intro w'; go_simp; with_reducible rfl); rotate_left; (simp only [Act.put, List.setIfInBounds_toArray, List.set_cons_zero, List.set_cons_succ, i64_w, i32_w]; rfl)) | (refine takeM_ (v := ?_) (a' := ?_) rfl rfl (take_of rfl (by kernel_rfl)) (fun _ _ _ h => h) (Or.inl ⟨by rfl, ?_⟩) hHeld ?_ ?_; rotate_left; (intro w' e_; rw [show w' = w2 from e_]; go_simp; with_reducible rfl); rotate_left; (simp only [Act.put, List.setIfInBounds_toArray, List.set_cons_zero, List.set_cons_succ, i64_w, i32_w]; rfl)) | (refine pureM_ (v := undef) (a' := ?_) rfl rfl (any_of rfl (by kernel_rfl)) (fun _ _ _ h => h) (Or.inr ⟨by rfl, rfl⟩) ?_ ?_; rotate_left; (simp only [Act.put, List.setIfInBounds_toArray, List.set_cons_zero, List.set_cons_succ, i64_w, i32_w]; rfl)))
  refine done_ (done_of rfl (by kernel_rfl)) ?_
  clear hHeld HB1 HX HV1
  clear hm0 hm1 hm2 hm3 hm4 hm5 hm6 hm7 hm8 hm9 hm10 hf0 hf1 hf2 hf3 hf9 hf10 hf11 hf12 hf13 hf14 q0 q0n q0g
  have ilt : i < s.bs.length := by rw [HBL.out]; exact HIL.out
  have ila : i < s.ans.length := by rw [HAL.out]; exact HIL.out
  obtain ⟨hf0, hf1, hf2, hf3, hf9, hf10, hf11, hf12, hf13, hf14⟩ := HB2.out.c
  go_upto_region 4 with (go_at_call 90; refine (idx90_calls 91 Try.func91 rfl rfl #[.pointer (some ⟨w.heap.size, 0, none⟩)] (fun x => partB x a6 a7 a8) Ap cp s.PS w2 (Kd.V_reads' HB2.out.PS).2.2 (fun x W hW => answer_one.calls x a6 a7 a8 w.heap.size W ((blk_cell (blk_below HX2.out hW) 6).trans rfl) ((blk_cell (blk_below HX2.out hW) 7).trans rfl) ((blk_cell (blk_below HX2.out hW) 8).trans rfl))).mono ?_; rintro e_ w3 ⟨rfl, hb⟩; rw [HI.out]; have HB3 := Aside0.mk (HB2.out.below hb); have HX3 := Aside0.mk (blk_below HX2.out hb); have HV3 := Aside0.mk (Kd.V_below HV2.out hb); clear hb HB2 HX2 HV2 hf0 hf1 hf2 hf3 hf9 hf10 hf11 hf12 hf13 hf14; obtain ⟨hf0, hf1, hf2, hf3, hf9, hf10, hf11, hf12, hf13, hf14⟩ := HB3.out.c; have hx := (Kd.R_celln false HB3.out.bs (i : Int) (Int.natCast_nonneg i) (Int.ofNat_lt.2 ilt)).1; rw [HBI.out, Int.toNat_natCast] at hx)
  clear hx hf0 hf1 hf2 hf3 hf9 hf10 hf11 hf12 hf13 hf14
  have HD := Aside0.mk (below_drew (Below.refl w3.heap.size w3))
  have HB4 := Aside0.mk (HB3.out.below HD.out)
  have HX4 := Aside0.mk (blk_below HX3.out HD.out)
  have HV4 := Aside0.mk (Kd.V_below HV3.out HD.out)
  refine startM_ [13, 15] (n := 16) (S := fun W => W = w3.drew) (by kernel_rfl) rfl rfl (fun hHeld => ?_)
  clear HD
  generalize w3.drew = w4 at HB4 HX4 HV4 hHeld ⊢
  obtain ⟨hf0, hf1, hf2, hf3, hf9, hf10, hf11, hf12, hf13, hf14⟩ := HB4.out.c
  have hm10 := (blk_cell HX4.out 10).trans rfl
  iterate 13 (first | (refine pureM_ (v := ?_) (a' := ?_) rfl rfl (any_of rfl (by kernel_rfl)) (fun _ _ _ h => h) (Or.inl ⟨by rfl, ?_⟩) ?_ ?_; rotate_left; (intro w'; go_simp; with_reducible rfl); rotate_left; (simp only [Act.put, List.setIfInBounds_toArray, List.set_cons_zero, List.set_cons_succ, i64_w, i32_w]; rfl)) | (refine takeM_ (v := ?_) (a' := ?_) rfl rfl (take_of rfl (by kernel_rfl)) (fun _ _ _ h => h) (Or.inl ⟨by rfl, ?_⟩) hHeld ?_ ?_; rotate_left; (intro w' e_; rw [show w' = w4 from e_]; go_simp; with_reducible rfl); rotate_left; (simp only [Act.put, List.setIfInBounds_toArray, List.set_cons_zero, List.set_cons_succ, i64_w, i32_w]; rfl)) | (refine pureM_ (v := undef) (a' := ?_) rfl rfl (any_of rfl (by kernel_rfl)) (fun _ _ _ h => h) (Or.inr ⟨by rfl, rfl⟩) ?_ ?_; rotate_left; (simp only [Act.put, List.setIfInBounds_toArray, List.set_cons_zero, List.set_cons_succ, i64_w, i32_w]; rfl)))
  have HST := HB4.out.setans i ila HV4.out
  obtain ⟨⟨u_, hu_⟩, hz, hB5⟩ := HST
  clear hm10 hf0 hf1 hf2 hf3 hf9 hf10 hf11 hf12 hf13 hf14
  refine last_ (i := 13) (N := none) (mk_ 14 16) rfl rfl (one_of rfl (by kernel_rfl)) (by decide) (fun K hK => ?_)
  refine skip_ (w1 := ?_) (by rfl) rfl ?_ ?_
  rotate_left
  · go_simp
    rfl
  clear hu_ hz
  have HB5 := Aside0.mk hB5
  clear hB5
  generalize w4.setCell ⟨ga, i, none⟩ _ = w5 at HB5 ⊢
  refine hK.out _ _ ?_
  clear hK K
  iterate 1 (refine pureM_ (v := ?_) (a' := ?_) rfl rfl (any_of rfl (by kernel_rfl)) (fun _ _ _ h => h) (Or.inl ⟨by rfl, ?_⟩) ?_ ?_; rotate_left; (intro w'; go_simp; with_reducible rfl); rotate_left; (simp only [Act.put, List.setIfInBounds_toArray, List.set_cons_zero, List.set_cons_succ, i64_w, i32_w]; rfl))
  have HST := HB5.out.setbs i ilt
  obtain ⟨⟨u_, hu_⟩, hz, hB6⟩ := HST
  refine last_ (i := 15) (N := none) (mk_ 16 16) rfl rfl (one_of rfl (by kernel_rfl)) (by decide) (fun K hK => ?_)
  refine skip_ (w1 := ?_) (by rfl) rfl ?_ ?_
  rotate_left
  · go_simp
    rfl
  clear hu_ hz
  have HB6 := Aside0.mk hB6
  clear hB6
  generalize w5.setCell ⟨gd, i, none⟩ _ = w6 at HB6 ⊢
  refine hK.out _ _ ?_
  clear hK K
  refine done_ (done_of rfl (by kernel_rfl)) ?_
  clear hHeld
  have HC6 := Aside0.mk (HC.out w6 ⟨_, _, _, _, _, _, HB6.out⟩)
  go_wp2_with (go_at_call 59; (with_reducible refine HC6.out.mono ?_); rintro e_ w7 ⟨rfl, hP⟩; have HP := Aside0.mk hP; clear hP)
  go_end0
  exact ⟨rfl, HP.out⟩
end Go.Proofs.Ytfipiohchnaglaa.Pu
