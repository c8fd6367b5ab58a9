/- Own work (by an AI agent; no person has read it): part of a proof of the seat YtfccigmfcpimgaaDoor. -/
import Derived.Test.YtfccigmfcpimgaaDoorXq
import Derived.Test.YtfccigmfcpimgaaDoorXr
set_option linter.unusedSimpArgs false
set_option linter.unusedVariables false
set_option maxRecDepth 100000
set_option maxHeartbeats 10000000
section
namespace Go.Proofs.YtfccigmfcpimgaaDoor
open Go.Ab
theorem gI.mono {S : MS} {n m : Int} (h : gI S n) (hnm : n ≤ m) : gI S m := ⟨h.L, ⟨h.at_.1, by have := h.at_; omega⟩, h.bs, by have := h.il; omega, h.ar, h.al⟩
theorem b2M (S : MS) (h : gI S 800000) : B2 Tryd.prog 64 [.ptr 0 0 0] S.rows 1 (fun _ : Unit => True) (fun _ => .Q8 []) (fun _ => S.inst.rows) := by
 have hx : 0 ≤ a6 S.L S.at_ % 16 ∧ a6 S.L S.at_ % 16 < 16 := by omega
 obtain ⟨L, at_, g, su, re, sl, pa, ar, lo, bs, ii, t⟩ := S
 have h9 := h.mono (show (800000 : Int) ≤ 900000 by omega)
 simp only at hx
 have cs : a6 L at_ % 16 < 3 ∨ (¬ a6 L at_ % 16 < 3 ∧ a6 L at_ % 16 < 7) ∨ a6 L at_ % 16 = 7 ∨ a6 L at_ % 16 = 8 ∨ a6 L at_ % 16 = 9 ∨ a6 L at_ % 16 = 10 ∨ a6 L at_ % 16 = 11 ∨ a6 L at_ % 16 = 12 ∨ a6 L at_ % 16 = 13 ∨ 14 ≤ a6 L at_ % 16 := by omega
 rcases cs with c | c | c | c | c | c | c | c | c | c
 · exact b0P L at_ g su re sl pa ar lo ii bs t h9 c
 · exact b0Q L at_ g su re sl pa ar lo ii bs t h9 c
 · exact b0R L at_ g su re sl pa ar lo ii bs t h9 c
 · exact b0S L at_ g su re sl pa ar lo ii bs t h9 c
 · exact b0T L at_ g su re sl pa ar lo ii bs t h9 c
 · exact b0U L at_ g su re sl pa ar lo ii bs t h9 c
 · exact b0V L at_ g su re sl pa ar lo ii bs t h9 c
 · exact b0W L at_ g su re sl pa ar lo ii bs t h c
 · exact b0X L at_ g su re sl pa ar lo ii bs t h c
 · exact b0Y L at_ g su re sl pa ar lo ii bs t h c
theorem a7A (l : List j9) : (j4.own l).l = l := rfl
theorem pG (S : MS) : ∃ a l, S.inst = ⟨S.L, a, S.g, S.su, S.re, S.sl, S.pa, S.ar, S.lo, S.bs, .own l, S.t⟩ ∧ S.at_ + 1 ≤ a ∧ a ≤ S.at_ + 8 ∧ S.i.l.length + 1 ≤ l.length ∧ l.length ≤ S.i.l.length + 2 ∧ ∀ x ∈ S.i.l, x ∈ l := by
 by_cases h : a6 S.L S.at_ % 16 < 12
 · have e : S.inst = { S with at_ := gT S.L S.at_ }.put (Y0 S.L S.at_) := by unfold MS.inst; simp only; rw [if_pos h]
   refine ⟨_, _, by rw [e]; rfl, ?_, ?_, by simp, by simp, fun x hx => by simp [hx]⟩
   · unfold gT; simp only; (repeat' split) <;> omega
   · unfold gT; simp only; (repeat' split) <;> omega
 · have e : S.inst = (fun S2 : MS => { S2 with at_ := if a6 S.L S.at_ % 16 = 12 then S2.at_ + 1 + 1 else S2.at_ + 1 }.put (gU S.L (a6 S.L S.at_ % 16) S2.at_ (pn { S with at_ := S.at_ + 1 } (decide (¬ a6 S.L S.at_ % 16 = 12))) (G8 S.L (S.at_ + 1 + 1)))) ((MS.place { S with at_ := S.at_ + 1 } (decide (¬ a6 S.L S.at_ % 16 = 12)))) := by
     unfold MS.inst; simp only; rw [if_neg h]
   refine ⟨_, _, by rw [e]; rfl, ?_, ?_, by simp [MS.place, MS.put, a7A] <;> omega, by simp [MS.place, MS.put, a7A] <;> omega, fun x hx => by simp [MS.place, MS.put, a7A, hx]⟩
   · simp only [MS.place, MS.put]; split <;> omega
   · simp only [MS.place, MS.put]; split <;> omega
def MS.iter (S : MS) : Nat → MS
 | 0 => S
 | i + 1 => (S.iter i).inst
def MS.p8 (S : MS) : MS := MS.iter { S with at_ := S.at_ + 1 } (a6 S.L S.at_ % 5).toNat
theorem a0a (S : MS) : ∀ i : Nat, ∃ a ii, S.iter i = ⟨S.L, a, S.g, S.su, S.re, S.sl, S.pa, S.ar, S.lo, S.bs, ii, S.t⟩ ∧ S.at_ ≤ a ∧ a ≤ S.at_ + 8 * i ∧ ii.l.length ≤ S.i.l.length + 2 * i := by
 intro i
 induction i with
 | zero => exact ⟨S.at_, S.i, rfl, by omega, by omega, by omega⟩
 | succ i ih =>
   obtain ⟨a, ii, e, h1, h2, h3⟩ := ih
   obtain ⟨a', l, e', g1, g2, g3, g4, _⟩ := pG (S.iter i)
   rw [e] at e' g1 g2 g3 g4
   have g1 : a + 1 ≤ a' := g1
   have g2 : a' ≤ a + 8 := g2
   have g4 : l.length ≤ ii.l.length + 2 := g4
   refine ⟨a', .own l, ?_, ?_, ?_, ?_⟩
   · simp only [MS.iter, e, e']
   · omega
   · omega
   · simp only [a7A]; omega
def W7 (rs : List Row) : List (Nat × RS) := j3 0 rs ++ [(rs.length, .B3 99 [.ptr 0 0 0])]
def MS.b0Z (S : MS) : List Row := S.p8.rows
def cL := ZZ.mk (Zq @E4 (Zq @v7 (Zq @w9 (Zq @b8 (Zq @m6 (Zq @u4 (Zq @l0 (Zq @c9 (Zq @m7 (Zq @y0 (Zq @p0 (Zq @o7 (Zq @y3 (Zq @n5 (Zq @y5 (Zq @y4 (Zq @x8 (Zq @x7 (Zq @o5 (Zq @b5 (Zq @b6 (Zq @A7 (Zq @J5 (Zq @v8 (Zq @u9 @p7)))))))))))))))))))))))))
theorem b2N (L : List Int) (at_ g su re sl pa : Int) (ar : List fL) (lo : s6) (ii : j4) (bs : List c5) (t : u2) (h : gI ⟨L, at_, g, su, re, sl, pa, ar, lo, bs, ii, t⟩ 700000) : B2 Tryd.prog 37 [.ptr 0 0 0] (MS.rows ⟨L, at_, g, su, re, sl, pa, ar, lo, bs, ii, t⟩) 1 (fun _ : Unit => True) (fun _ => .Q8 []) (fun _ => (MS.b0Z ⟨L, at_, g, su, re, sl, pa, ar, lo, bs, ii, t⟩)) := by
 obtain ⟨hL, h0, hb, hi, ha, hal⟩ := h
 dsimp only at hL h0 hb hi ha hal
 have hx := j0 hL h0.1
 have C1 := p9 L at_ (by omega) hL
 have hR : MS.b0Z ⟨L, at_, g, su, re, sl, pa, ar, lo, bs, ii, t⟩ = (MS.iter ⟨L, at_ + 1, g, su, re, sl, pa, ar, lo, bs, ii, t⟩ (a6 L at_ % 5).toNat).rows := rfl
 rw [hR]; clear hR
 generalize a6 L at_ = x at *
 obtain ⟨n, hn⟩ : ∃ n, x % 5 = n := ⟨_, rfl⟩
 rw [hn]
 have hn5 : 0 ≤ n ∧ n < 5 := by omega
 obtain ⟨SI, hSI⟩ : ∃ SI, SI = MS.iter ⟨L, at_ + 1, g, su, re, sl, pa, ar, lo, bs, ii, t⟩ := ⟨_, rfl⟩
 obtain ⟨R, hR⟩ : ∃ R : List Row, R = (SI n.toNat).rows := ⟨_, rfl⟩
 rw [← hSI, ← hR]
 have IT := fun i : Nat => a0a ⟨L, at_ + 1, g, su, re, sl, pa, ar, lo, bs, ii, t⟩ i
 have INO := fun a i2 => b2M ⟨L, a, g, su, re, sl, pa, ar, lo, bs, i2, t⟩
 have INF := fun a i2 => pG ⟨L, a, g, su, re, sl, pa, ar, lo, bs, i2, t⟩
 have hil : (ii.l.length : Int) ≤ 700000 := hi
 rcases lo with _ | ll <;> rcases ii with _ | li
 all_goals
   simp only [MS.rows, j4.cell, j4.rows, j4.l, j4.k, s6.cell, s6.rows, s6.l, List.cons_append, List.nil_append, List.append_nil]; refine Zf Tryd.func37 Tryd.ntmps37 ?_
   repeat' (first | refine Zl ?_ | (with_reducible first | refine Zz.mk fun N hN mk hmk => ?_ | refine Zb.mk fun N hN => ?_ | refine Zi.mk fun h => ?_ | refine ⟨fun h => ?_, fun h => ?_⟩ | exact True.intro) | refine Ze C1 ?_ | (refine hN _ ?_; clear hN N) | (refine Zk hmk ?_; clear hmk mk) | refine Zt (Zq cL.d (Zq hn ha)) ?_ | fail)
   (first | (refine l9 (fun i => ⟨[.ptr 0 0 0, .dead, .v (.int .i64 (n - i)), .dead, .dead, .dead, .dead, .dead, .dead, .dead, .dead, .dead], W7 (SI i).rows, ((SI i).rows.length + 1)⟩) n.toNat (Zw [0,2] [0, 1, 2, 3] (Zq cL.d (Zq hn ha)) ?_) ?_) | (refine l9 (fun i => ⟨[.ptr 0 0 0, .dead, .v (.int .i64 (n - i)), .dead, .dead, .dead, .dead, .dead, .dead, .dead, .dead, .dead], W7 (SI i).rows, ((SI i).rows.length + 1)⟩) n.toNat (Zw [0,2] [0, 1, 2] (Zq cL.d (Zq hn ha)) ?_) ?_) | (refine l9 (fun i => ⟨[.ptr 0 0 0, .dead, .v (.int .i64 (n - i)), .dead, .dead, .dead, .dead, .dead, .dead, .dead, .dead, .dead], W7 (SI i).rows, ((SI i).rows.length + 1)⟩) n.toNat (Zw [0,2] [0, 1] (Zq cL.d (Zq hn ha)) ?_) ?_))
   · rw [hSI]; simp only [MS.iter, MS.rows, W7, j3, j4.cell, j4.rows, j4.l, j4.k, s6.cell, s6.rows, s6.l, List.cons_append, List.nil_append, List.append_nil, List.length_cons, List.length_nil, Nat.reduceAdd, Int.natCast_zero, Int.sub_zero]
   intro i hi2
   obtain ⟨a, ii, e, e1, e2, e3⟩ := IT i
   dsimp only at e1 e2 e3
   have e0 := e
   rw [← hSI] at e0
   have ej : SI (i + 1) = (SI i).inst := by rw [hSI]; rfl
   rw [ej, e0]
   have CI := INO a ii ⟨hL, by show 0 ≤ a ∧ a ≤ _; omega, hb, by show (ii.l.length : Int) ≤ _; omega, ha, hal⟩
   obtain ⟨a', l, e', g1, g2, g3, g4, _⟩ := INF a ii
   rw [e'] at CI ⊢
   clear e' ej hSI e C1 IT INO INF
   cases ii
   all_goals simp only [MS.rows, W7, j3, j4.cell, j4.rows, j4.l, j4.k, s6.cell, s6.rows, s6.l, List.cons_append, List.nil_append, List.append_nil, List.length_cons, List.length_nil, Nat.reduceAdd] at CI ⊢
   · repeat' (first | refine Za ?_ | (with_reducible first | refine Zz.mk fun N hN mk hmk => ?_ | refine Zb.mk fun N hN => ?_ | refine Zi.mk fun h => ?_ | refine ⟨fun h => ?_, fun h => ?_⟩ | exact True.intro) | (refine Zp CI [0, 1, 2] (Zq cL.d ha) ?_; with_reducible intro _ _) | (refine Zp CI [0, 1] (Zq cL.d ha) ?_; with_reducible intro _ _) | (refine hN _ ?_; clear hN N) | (refine Zk hmk ?_; clear hmk mk) | refine Zt (Zq cL.d ha) ?_ | fail)
     · (first | (refine Zw [0,2] [0, 28, 29, 30] (Zq cL.d ha) ?_) | (refine Zw [0,2] [0, 27, 28] (Zq cL.d ha) ?_))
       simp only [show n - ↑(i + 1) = n - ↑i - 1 by omega]
     · obtain rfl : i = n.toNat := by omega
       rw [hR, e0]
       simp only [MS.rows, j4.cell, j4.rows, j4.l, j4.k, s6.cell, s6.rows, s6.l, List.cons_append, List.nil_append, List.append_nil]
       (first | (refine Zr (()) [0, 1, 2] (Zq cL.d ha) ?_) | (refine Zr (()) [0, 1] (Zq cL.d ha) ?_))
       trivial
   · repeat' (first | refine Za ?_ | (with_reducible first | refine Zz.mk fun N hN mk hmk => ?_ | refine Zb.mk fun N hN => ?_ | refine Zi.mk fun h => ?_ | refine ⟨fun h => ?_, fun h => ?_⟩ | exact True.intro) | (refine Zp CI [0, 1, 2, 3] (Zq cL.d ha) ?_; with_reducible intro _ _) | (refine Zp CI [0, 1, 2] (Zq cL.d ha) ?_; with_reducible intro _ _) | (refine hN _ ?_; clear hN N) | (refine Zk hmk ?_; clear hmk mk) | refine Zt (Zq cL.d ha) ?_ | fail)
     · (first | (refine Zw [0,2] [0, 29, 30, 31] (Zq cL.d ha) ?_) | (refine Zw [0,2] [0, 28, 29] (Zq cL.d ha) ?_))
       simp only [show n - ↑(i + 1) = n - ↑i - 1 by omega]
     · obtain rfl : i = n.toNat := by omega
       rw [hR, e0]
       simp only [MS.rows, j4.cell, j4.rows, j4.l, j4.k, s6.cell, s6.rows, s6.l, List.cons_append, List.nil_append, List.append_nil]
       (first | (refine Zr (()) [0, 1, 2, 3] (Zq cL.d ha) ?_) | (refine Zr (()) [0, 1, 2] (Zq cL.d ha) ?_))
       trivial
theorem bL (S : MS) (h : gI S 700000) : B2 Tryd.prog 37 [.ptr 0 0 0] S.rows 1 (fun _ : Unit => True) (fun _ => .Q8 []) (fun _ => S.p8.rows) := by
 obtain ⟨L, at_, g, su, re, sl, pa, ar, lo, bs, ii, t⟩ := S
 exact b2N L at_ g su re sl pa ar lo ii bs t h
theorem L1 (S : MS) (hL : A5 S.L) (h0 : 0 ≤ S.at_) : ∃ a ii, S.p8 = ⟨S.L, a, S.g, S.su, S.re, S.sl, S.pa, S.ar, S.lo, S.bs, ii, S.t⟩ ∧ S.at_ + 1 ≤ a ∧ a ≤ S.at_ + 33 ∧ ii.l.length ≤ S.i.l.length + 8 := by
 have hx := j0 hL h0
 obtain ⟨a, ii, e, h1, h2, h3⟩ := a0a { S with at_ := S.at_ + 1 } (a6 S.L S.at_ % 5).toNat
 have h1 : S.at_ + 1 ≤ a := h1
 have h2 : a ≤ S.at_ + 1 + 8 * (a6 S.L S.at_ % 5).toNat := h2
 have h3 : ii.l.length ≤ S.i.l.length + 2 * (a6 S.L S.at_ % 5).toNat := h3
 exact ⟨a, ii, e, h1, by omega, by omega⟩
theorem kG (bs : List c5) (l : List j9) (t : u2) : E0 bs ++ [.b7 false (p8 l) :: t.av] = E0 (bs ++ [⟨l, t⟩]) := by simp [E0, c5.av]
theorem B9 : U4.av = [.v (.int .i64 0), .v (.int .i64 0), .v (.int .i64 0), .v (.int .i64 0), .v (.int .i32 0), .v (.int .i64 0), .v (.int .i64 0), .v (.int .i32 0), .v (.int .i64 0), .v (.int .i64 0), .v (.int .i32 0), .v (.int .i64 0), .v (.int .i64 0)] := rfl
theorem B6 (t : u2) (a b c d e f g h i j k m n : Int) : u0 t.av 0 [.v (.int .i64 a), .v (.int .i64 b), .v (.int .i64 c), .v (.int .i64 d), .v (.int .i32 e), .v (.int .i64 f), .v (.int .i64 g), .v (.int .i32 h), .v (.int .i64 i), .v (.int .i64 j), .v (.int .i32 k), .v (.int .i64 m), .v (.int .i64 n)] = (⟨a, b, ⟨c, d, e⟩, ⟨f, g, h⟩, ⟨i, j, k⟩, m, n⟩ : u2).av := rfl
def MS.block (S : MS) : MS := { S with bs := S.bs ++ [⟨S.i.l, S.t⟩], i := .nil, t := U4 }
theorem gN (l : List c5) : (E0 l).take l.length = E0 l := by rw [← b8, List.take_length]
theorem a8a (l : List c5) (b : c5) : (l ++ [b]).length = l.length + 1 := by simp
theorem iL (l : List c5) (b : c5) : (E0 (l ++ [b])).take (l.length + 1) = E0 (l ++ [b]) := by rw [← a8a l b, gN]
theorem b9 (l : List c5) (b : c5) : (l ++ [b]).length = l.length + 1 := by simp
def Y4 (L : List Int) (at_ g su re sl pa : Int) (ar : List fL) : List Row := [⟨10, [[.b7 false (dJ L), .v (.int .i64 at_), .v (.int .i64 g), .v (.int .i64 su), .v (.int .i64 re), .v (.int .i64 sl), .v (.int .i64 pa), .b7 false (Q5 ar), .b7 true [], .b7 true []]], 0⟩]
def mU := ZZ.mk (Zq @B9 (Zq @b9 (Zq @L9 (Zq @rV (Zq @kG (Zq @iL (Zq @gN (Zq @E4 (Zq @v7 (Zq @w9 (Zq @b8 (Zq @m6 (Zq @u4 (Zq @l0 (Zq @c9 (Zq @m7 (Zq @y0 (Zq @p0 (Zq @o7 (Zq @y3 (Zq @n5 (Zq @y5 (Zq @y4 (Zq @x8 (Zq @x7 (Zq @o5 (Zq @b5 (Zq @b6 (Zq @A7 (Zq @J5 (Zq @v8 (Zq @u9 @p7))))))))))))))))))))))))))))))))
theorem a97 (L : List Int) (at_ g su re sl pa : Int) (ar : List fL) (bs : List c5) (t : u2) (hb : bs.length ≤ 1000) : B2 Tryd.prog 34 [.ptr 0 0 0] (MS.rows ⟨L, at_, g, su, re, sl, pa, ar, .nil, bs, .nil, t⟩) 1 (fun _ : Unit => True) (fun _ => .Q8 []) (fun _ => (MS.block ⟨L, at_, g, su, re, sl, pa, ar, .nil, bs, .nil, t⟩).rows) := by
 simp only [MS.rows, MS.block, j4.cell, j4.rows, j4.l, j4.k, s6.cell, s6.rows, s6.l, List.cons_append, List.nil_append, List.append_nil]; refine Zf Tryd.func34 Tryd.ntmps34 ?_
 refine fP 1 bs.length 0 (x := .b7 true []) (y := .b7 false (p8 [])) (ids := []) rfl (by simp only [v7]; rfl) (by simp (maxSteps := 10000000) (disch := omega) only [mU.d, r7, Z3, A2, H3, x9, u6, AV.kept, l7, n6, A3, I6, y7, x5, Go.MapKept.IsKey, r8, B8, AV.plain, rd, D8, a8, Z2, w6, AV.j8, AV.aS, AV.I5, AV.V7, AV.scalar, bC, y8, H6, H9, I3, H8, x4, H5, bD, y9, H7, G9, m9, bB, o9, F2, F1, Z8, F9, o6, TD.isRow, A1, n8, o8, n4, L8, Value.oneCell', ↓reduceIte, Int.reduceNe, Int.reduceEq, Nat.reduceAdd, Nat.reduceLT, Nat.reduceLeDiff, Nat.reduceSub, Nat.reduceMul, Nat.reduceBEq, Nat.reduceEqDiff, reduceCtorEq, Int.reduceToNat, ← decide_not, ← Bool.decide_and, sA, sN] <;> first | done | rfl) (by first | rfl | (simp (maxSteps := 10000000) (disch := omega) only [a8, mU.d, r7, Z3, A2, H3, x9, u6, AV.kept, l7, n6, A3, I6, y7, x5, Go.MapKept.IsKey, r8, B8, AV.plain, rd, D8, a8, Z2, w6, AV.j8, AV.aS, AV.I5, AV.V7, AV.scalar, bC, y8, H6, H9, I3, H8, x4, H5, bD, y9, H7, G9, m9, bB, o9, F2, F1, Z8, F9, o6, TD.isRow, A1, n8, o8, n4, L8, Value.oneCell', ↓reduceIte, Int.reduceNe, Int.reduceEq, Nat.reduceAdd, Nat.reduceLT, Nat.reduceLeDiff, Nat.reduceSub, Nat.reduceMul, Nat.reduceBEq, Nat.reduceEqDiff, reduceCtorEq, Int.reduceToNat, ← decide_not, ← Bool.decide_and, sA, sN] <;> first | done | rfl)) ?_; simp (maxSteps := 10000000) (disch := omega) only [n6, A9, L8, mU.d, r7, Z3, A2, H3, x9, u6, AV.kept, l7, n6, A3, I6, y7, x5, Go.MapKept.IsKey, r8, B8, AV.plain, rd, D8, a8, Z2, w6, AV.j8, AV.aS, AV.I5, AV.V7, AV.scalar, bC, y8, H6, H9, I3, H8, x4, H5, bD, y9, H7, G9, m9, bB, o9, F2, F1, Z8, F9, o6, TD.isRow, A1, n8, o8, n4, L8, Value.oneCell', ↓reduceIte, Int.reduceNe, Int.reduceEq, Nat.reduceAdd, Nat.reduceLT, Nat.reduceLeDiff, Nat.reduceSub, Nat.reduceMul, Nat.reduceBEq, Nat.reduceEqDiff, reduceCtorEq, Int.reduceToNat, ← decide_not, ← Bool.decide_and, sA, sN]
 repeat' (first | refine Za ?_ | (with_reducible first | refine Zz.mk fun N hN mk hmk => ?_ | refine Zb.mk fun N hN => ?_ | refine Zi.mk fun h => ?_ | refine ⟨fun h => ?_, fun h => ?_⟩ | exact True.intro) | (refine hN _ ?_; clear hN N) | (refine Zk hmk ?_; clear hmk mk) | refine Zt mU.d ?_ | fail)
 refine Zr (()) [0, 72] mU.d ?_
 trivial
def mV := ZZ.mk (Zq @B9 (Zq @b9 (Zq @L9 (Zq @rV (Zq @kG (Zq @iL (Zq @gN (Zq @E4 (Zq @v7 (Zq @w9 (Zq @b8 (Zq @m6 (Zq @u4 (Zq @l0 (Zq @c9 (Zq @m7 (Zq @y0 (Zq @p0 (Zq @o7 (Zq @y3 (Zq @n5 (Zq @y5 (Zq @y4 (Zq @x8 (Zq @x7 (Zq @o5 (Zq @b5 (Zq @b6 (Zq @A7 (Zq @J5 (Zq @v8 (Zq @u9 @p7))))))))))))))))))))))))))))))))
theorem a98 (L : List Int) (at_ g su re sl pa : Int) (ar : List fL) (li : List j9) (bs : List c5) (t : u2) (hb : bs.length ≤ 1000) : B2 Tryd.prog 34 [.ptr 0 0 0] (MS.rows ⟨L, at_, g, su, re, sl, pa, ar, .nil, bs, .own li, t⟩) 1 (fun _ : Unit => True) (fun _ => .Q8 []) (fun _ => (MS.block ⟨L, at_, g, su, re, sl, pa, ar, .nil, bs, .own li, t⟩).rows) := by
 simp only [MS.rows, MS.block, j4.cell, j4.rows, j4.l, j4.k, s6.cell, s6.rows, s6.l, List.cons_append, List.nil_append, List.append_nil]; refine Zf Tryd.func34 Tryd.ntmps34 ?_
 refine fP 1 bs.length 0 (x := .own 2 0 li.length) (y := .b7 false (p8 li)) (ids := [(2, li.length)]) rfl (by simp only [v7]; rfl) (by simp (maxSteps := 10000000) (disch := omega) only [mV.d, r7, Z3, A2, H3, x9, u6, AV.kept, l7, n6, A3, I6, y7, x5, Go.MapKept.IsKey, r8, B8, AV.plain, rd, D8, a8, Z2, w6, AV.j8, AV.aS, AV.I5, AV.V7, AV.scalar, bC, y8, H6, H9, I3, H8, x4, H5, bD, y9, H7, G9, m9, bB, o9, F2, F1, Z8, F9, o6, TD.isRow, A1, n8, o8, n4, L8, Value.oneCell', ↓reduceIte, Int.reduceNe, Int.reduceEq, Nat.reduceAdd, Nat.reduceLT, Nat.reduceLeDiff, Nat.reduceSub, Nat.reduceMul, Nat.reduceBEq, Nat.reduceEqDiff, reduceCtorEq, Int.reduceToNat, ← decide_not, ← Bool.decide_and, sA, sN] <;> first | done | rfl) (by first | rfl | (simp (maxSteps := 10000000) (disch := omega) only [a8, mV.d, r7, Z3, A2, H3, x9, u6, AV.kept, l7, n6, A3, I6, y7, x5, Go.MapKept.IsKey, r8, B8, AV.plain, rd, D8, a8, Z2, w6, AV.j8, AV.aS, AV.I5, AV.V7, AV.scalar, bC, y8, H6, H9, I3, H8, x4, H5, bD, y9, H7, G9, m9, bB, o9, F2, F1, Z8, F9, o6, TD.isRow, A1, n8, o8, n4, L8, Value.oneCell', ↓reduceIte, Int.reduceNe, Int.reduceEq, Nat.reduceAdd, Nat.reduceLT, Nat.reduceLeDiff, Nat.reduceSub, Nat.reduceMul, Nat.reduceBEq, Nat.reduceEqDiff, reduceCtorEq, Int.reduceToNat, ← decide_not, ← Bool.decide_and, sA, sN] <;> first | done | rfl)) ?_; simp (maxSteps := 10000000) (disch := omega) only [n6, A9, L8, mV.d, r7, Z3, A2, H3, x9, u6, AV.kept, l7, n6, A3, I6, y7, x5, Go.MapKept.IsKey, r8, B8, AV.plain, rd, D8, a8, Z2, w6, AV.j8, AV.aS, AV.I5, AV.V7, AV.scalar, bC, y8, H6, H9, I3, H8, x4, H5, bD, y9, H7, G9, m9, bB, o9, F2, F1, Z8, F9, o6, TD.isRow, A1, n8, o8, n4, L8, Value.oneCell', ↓reduceIte, Int.reduceNe, Int.reduceEq, Nat.reduceAdd, Nat.reduceLT, Nat.reduceLeDiff, Nat.reduceSub, Nat.reduceMul, Nat.reduceBEq, Nat.reduceEqDiff, reduceCtorEq, Int.reduceToNat, ← decide_not, ← Bool.decide_and, sA, sN]
 repeat' (first | refine Za ?_ | (with_reducible first | refine Zz.mk fun N hN mk hmk => ?_ | refine Zb.mk fun N hN => ?_ | refine Zi.mk fun h => ?_ | refine ⟨fun h => ?_, fun h => ?_⟩ | exact True.intro) | (refine hN _ ?_; clear hN N) | (refine Zk hmk ?_; clear hmk mk) | refine Zt mV.d ?_ | fail)
 refine Zr (()) [0, 72] mV.d ?_
 trivial
def mW := ZZ.mk (Zq @B9 (Zq @b9 (Zq @L9 (Zq @rV (Zq @kG (Zq @iL (Zq @gN (Zq @E4 (Zq @v7 (Zq @w9 (Zq @b8 (Zq @m6 (Zq @u4 (Zq @l0 (Zq @c9 (Zq @m7 (Zq @y0 (Zq @p0 (Zq @o7 (Zq @y3 (Zq @n5 (Zq @y5 (Zq @y4 (Zq @x8 (Zq @x7 (Zq @o5 (Zq @b5 (Zq @b6 (Zq @A7 (Zq @J5 (Zq @v8 (Zq @u9 @p7))))))))))))))))))))))))))))))))
theorem a99 (L : List Int) (at_ g su re sl pa : Int) (ar : List fL) (ll : List Loop) (bs : List c5) (t : u2) (hb : bs.length ≤ 1000) : B2 Tryd.prog 34 [.ptr 0 0 0] (MS.rows ⟨L, at_, g, su, re, sl, pa, ar, .own ll, bs, .nil, t⟩) 1 (fun _ : Unit => True) (fun _ => .Q8 []) (fun _ => (MS.block ⟨L, at_, g, su, re, sl, pa, ar, .own ll, bs, .nil, t⟩).rows) := by
 simp only [MS.rows, MS.block, j4.cell, j4.rows, j4.l, j4.k, s6.cell, s6.rows, s6.l, List.cons_append, List.nil_append, List.append_nil]; refine Zf Tryd.func34 Tryd.ntmps34 ?_
 refine fP 1 bs.length 0 (x := .b7 true []) (y := .b7 false (p8 [])) (ids := []) rfl (by simp only [v7]; rfl) (by simp (maxSteps := 10000000) (disch := omega) only [mW.d, r7, Z3, A2, H3, x9, u6, AV.kept, l7, n6, A3, I6, y7, x5, Go.MapKept.IsKey, r8, B8, AV.plain, rd, D8, a8, Z2, w6, AV.j8, AV.aS, AV.I5, AV.V7, AV.scalar, bC, y8, H6, H9, I3, H8, x4, H5, bD, y9, H7, G9, m9, bB, o9, F2, F1, Z8, F9, o6, TD.isRow, A1, n8, o8, n4, L8, Value.oneCell', ↓reduceIte, Int.reduceNe, Int.reduceEq, Nat.reduceAdd, Nat.reduceLT, Nat.reduceLeDiff, Nat.reduceSub, Nat.reduceMul, Nat.reduceBEq, Nat.reduceEqDiff, reduceCtorEq, Int.reduceToNat, ← decide_not, ← Bool.decide_and, sA, sN] <;> first | done | rfl) (by first | rfl | (simp (maxSteps := 10000000) (disch := omega) only [a8, mW.d, r7, Z3, A2, H3, x9, u6, AV.kept, l7, n6, A3, I6, y7, x5, Go.MapKept.IsKey, r8, B8, AV.plain, rd, D8, a8, Z2, w6, AV.j8, AV.aS, AV.I5, AV.V7, AV.scalar, bC, y8, H6, H9, I3, H8, x4, H5, bD, y9, H7, G9, m9, bB, o9, F2, F1, Z8, F9, o6, TD.isRow, A1, n8, o8, n4, L8, Value.oneCell', ↓reduceIte, Int.reduceNe, Int.reduceEq, Nat.reduceAdd, Nat.reduceLT, Nat.reduceLeDiff, Nat.reduceSub, Nat.reduceMul, Nat.reduceBEq, Nat.reduceEqDiff, reduceCtorEq, Int.reduceToNat, ← decide_not, ← Bool.decide_and, sA, sN] <;> first | done | rfl)) ?_; simp (maxSteps := 10000000) (disch := omega) only [n6, A9, L8, mW.d, r7, Z3, A2, H3, x9, u6, AV.kept, l7, n6, A3, I6, y7, x5, Go.MapKept.IsKey, r8, B8, AV.plain, rd, D8, a8, Z2, w6, AV.j8, AV.aS, AV.I5, AV.V7, AV.scalar, bC, y8, H6, H9, I3, H8, x4, H5, bD, y9, H7, G9, m9, bB, o9, F2, F1, Z8, F9, o6, TD.isRow, A1, n8, o8, n4, L8, Value.oneCell', ↓reduceIte, Int.reduceNe, Int.reduceEq, Nat.reduceAdd, Nat.reduceLT, Nat.reduceLeDiff, Nat.reduceSub, Nat.reduceMul, Nat.reduceBEq, Nat.reduceEqDiff, reduceCtorEq, Int.reduceToNat, ← decide_not, ← Bool.decide_and, sA, sN]
 repeat' (first | refine Za ?_ | (with_reducible first | refine Zz.mk fun N hN mk hmk => ?_ | refine Zb.mk fun N hN => ?_ | refine Zi.mk fun h => ?_ | refine ⟨fun h => ?_, fun h => ?_⟩ | exact True.intro) | (refine hN _ ?_; clear hN N) | (refine Zk hmk ?_; clear hmk mk) | refine Zt mW.d ?_ | fail)
 refine Zr (()) [0, 72, 2] mW.d ?_
 trivial
def mX := ZZ.mk (Zq @B9 (Zq @b9 (Zq @L9 (Zq @rV (Zq @kG (Zq @iL (Zq @gN (Zq @E4 (Zq @v7 (Zq @w9 (Zq @b8 (Zq @m6 (Zq @u4 (Zq @l0 (Zq @c9 (Zq @m7 (Zq @y0 (Zq @p0 (Zq @o7 (Zq @y3 (Zq @n5 (Zq @y5 (Zq @y4 (Zq @x8 (Zq @x7 (Zq @o5 (Zq @b5 (Zq @b6 (Zq @A7 (Zq @J5 (Zq @v8 (Zq @u9 @p7))))))))))))))))))))))))))))))))
theorem b0a (L : List Int) (at_ g su re sl pa : Int) (ar : List fL) (ll : List Loop) (li : List j9) (bs : List c5) (t : u2) (hb : bs.length ≤ 1000) : B2 Tryd.prog 34 [.ptr 0 0 0] (MS.rows ⟨L, at_, g, su, re, sl, pa, ar, .own ll, bs, .own li, t⟩) 1 (fun _ : Unit => True) (fun _ => .Q8 []) (fun _ => (MS.block ⟨L, at_, g, su, re, sl, pa, ar, .own ll, bs, .own li, t⟩).rows) := by
 simp only [MS.rows, MS.block, j4.cell, j4.rows, j4.l, j4.k, s6.cell, s6.rows, s6.l, List.cons_append, List.nil_append, List.append_nil]; refine Zf Tryd.func34 Tryd.ntmps34 ?_
 refine fP 1 bs.length 0 (x := .own 2 0 li.length) (y := .b7 false (p8 li)) (ids := [(2, li.length)]) rfl (by simp only [v7]; rfl) (by simp (maxSteps := 10000000) (disch := omega) only [mX.d, r7, Z3, A2, H3, x9, u6, AV.kept, l7, n6, A3, I6, y7, x5, Go.MapKept.IsKey, r8, B8, AV.plain, rd, D8, a8, Z2, w6, AV.j8, AV.aS, AV.I5, AV.V7, AV.scalar, bC, y8, H6, H9, I3, H8, x4, H5, bD, y9, H7, G9, m9, bB, o9, F2, F1, Z8, F9, o6, TD.isRow, A1, n8, o8, n4, L8, Value.oneCell', ↓reduceIte, Int.reduceNe, Int.reduceEq, Nat.reduceAdd, Nat.reduceLT, Nat.reduceLeDiff, Nat.reduceSub, Nat.reduceMul, Nat.reduceBEq, Nat.reduceEqDiff, reduceCtorEq, Int.reduceToNat, ← decide_not, ← Bool.decide_and, sA, sN] <;> first | done | rfl) (by first | rfl | (simp (maxSteps := 10000000) (disch := omega) only [a8, mX.d, r7, Z3, A2, H3, x9, u6, AV.kept, l7, n6, A3, I6, y7, x5, Go.MapKept.IsKey, r8, B8, AV.plain, rd, D8, a8, Z2, w6, AV.j8, AV.aS, AV.I5, AV.V7, AV.scalar, bC, y8, H6, H9, I3, H8, x4, H5, bD, y9, H7, G9, m9, bB, o9, F2, F1, Z8, F9, o6, TD.isRow, A1, n8, o8, n4, L8, Value.oneCell', ↓reduceIte, Int.reduceNe, Int.reduceEq, Nat.reduceAdd, Nat.reduceLT, Nat.reduceLeDiff, Nat.reduceSub, Nat.reduceMul, Nat.reduceBEq, Nat.reduceEqDiff, reduceCtorEq, Int.reduceToNat, ← decide_not, ← Bool.decide_and, sA, sN] <;> first | done | rfl)) ?_; simp (maxSteps := 10000000) (disch := omega) only [n6, A9, L8, mX.d, r7, Z3, A2, H3, x9, u6, AV.kept, l7, n6, A3, I6, y7, x5, Go.MapKept.IsKey, r8, B8, AV.plain, rd, D8, a8, Z2, w6, AV.j8, AV.aS, AV.I5, AV.V7, AV.scalar, bC, y8, H6, H9, I3, H8, x4, H5, bD, y9, H7, G9, m9, bB, o9, F2, F1, Z8, F9, o6, TD.isRow, A1, n8, o8, n4, L8, Value.oneCell', ↓reduceIte, Int.reduceNe, Int.reduceEq, Nat.reduceAdd, Nat.reduceLT, Nat.reduceLeDiff, Nat.reduceSub, Nat.reduceMul, Nat.reduceBEq, Nat.reduceEqDiff, reduceCtorEq, Int.reduceToNat, ← decide_not, ← Bool.decide_and, sA, sN]
 repeat' (first | refine Za ?_ | (with_reducible first | refine Zz.mk fun N hN mk hmk => ?_ | refine Zb.mk fun N hN => ?_ | refine Zi.mk fun h => ?_ | refine ⟨fun h => ?_, fun h => ?_⟩ | exact True.intro) | (refine hN _ ?_; clear hN N) | (refine Zk hmk ?_; clear hmk mk) | refine Zt mX.d ?_ | fail)
 refine Zr (()) [0, 72, 3] mX.d ?_
 trivial
theorem E8 (S : MS) (hb : S.bs.length ≤ 1000) : B2 Tryd.prog 34 [.ptr 0 0 0] S.rows 1 (fun _ : Unit => True) (fun _ => .Q8 []) (fun _ => S.block.rows) := by
 obtain ⟨L, at_, g, su, re, sl, pa, ar, lo, bs, ii, t⟩ := S
 cases lo with
 | nil => cases ii with
   | nil => exact a97 L at_ g su re sl pa ar bs t hb
   | own li => exact a98 L at_ g su re sl pa ar li bs t hb
 | own ll => cases ii with
   | nil => exact a99 L at_ g su re sl pa ar ll bs t hb
   | own li => exact b0a L at_ g su re sl pa ar ll li bs t hb
def b3x := ZZ.mk (Zq @B9 (Zq @S6 (Zq @E4 (Zq @v7 (Zq @w9 (Zq @b8 (Zq @m6 (Zq @u4 (Zq @l0 (Zq @c9 (Zq @m7 (Zq @y0 (Zq @p0 (Zq @o7 (Zq @y3 (Zq @n5 (Zq @y5 (Zq @y4 (Zq @x8 (Zq @x7 (Zq @o5 (Zq @b5 (Zq @b6 (Zq @A7 (Zq @J5 (Zq @v8 (Zq @u9 @p7)))))))))))))))))))))))))))
theorem a8b (L : List Int) (at_ g su re sl pa : Int) (ar : List fL) : B2 Tryd.prog 34 [.ptr 0 0 0] (Y4 L at_ g su re sl pa ar) 1 (fun _ : Unit => True) (fun _ => .Q8 []) (fun _ => MS.rows ⟨L, at_, g, su, re, sl, pa, ar, .nil, [], .nil, U4⟩) := by
 simp only [MS.rows, Y4, j4.cell, j4.rows, j4.l, j4.k, s6.cell, s6.rows, s6.l, List.cons_append, List.nil_append, List.append_nil]; refine Zf Tryd.func34 Tryd.ntmps34 ?_
 repeat' (first | refine Za ?_ | (with_reducible first | refine Zz.mk fun N hN mk hmk => ?_ | refine Zb.mk fun N hN => ?_ | refine Zi.mk fun h => ?_ | refine ⟨fun h => ?_, fun h => ?_⟩ | exact True.intro) | (refine hN _ ?_; clear hN N) | (refine Zk hmk ?_; clear hmk mk) | refine Zt b3x.d ?_ | fail)
 refine Zr (()) [0, 72] b3x.d ?_
 trivial
theorem dB (x d : Int) (h : 0 ≤ x) : 0 ≤ x % d ∧ x % d ≤ x := by
 by_cases hd : d = 0
 · subst hd; simp; exact h
 · refine ⟨Int.emod_nonneg x hd, ?_⟩
   have h1 := Int.emod_add_mul_ediv x d
   rcases Int.lt_or_gt_of_ne hd with g | g
   · have h2 : x / d ≤ 0 := by
       have := Int.ediv_nonpos_of_nonneg_of_nonpos h (Int.le_of_lt g)
       exact this
     have h3 : 0 ≤ d * (x / d) := Int.mul_nonneg_of_nonpos_of_nonpos (Int.le_of_lt g) h2
     omega
   · have h2 : 0 ≤ x / d := Int.ediv_nonneg h (Int.le_of_lt g)
     have h3 : 0 ≤ d * (x / d) := Int.mul_nonneg (Int.le_of_lt g) h2
     omega
def U0 (b : Int) : u2 := ⟨1, 0, O0, O0, O0, b, 0⟩
def E5 (a : J8) (x y : Int) : u2 := ⟨2, 0, O0, a, O0, x, y⟩
def MS.gG (last : Int) (S : MS) : MS :=
 (fun (S1 : MS) => (if a6 S1.L S1.at_ % 2 = 0 then
     { S1 with at_ := S1.at_ + 1 + 1 + 1 + 1, t := E5 (G8 S1.L (S1.at_ + 1)) (S.bs.length + 1 + a6 S1.L (S1.at_ + 1 + 1) % (last - S.bs.length)) (S.bs.length + 1 + a6 S1.L (S1.at_ + 1 + 1 + 1) % (last - S.bs.length)) }
   else { S1 with at_ := S1.at_ + 1, t := U0 (S.bs.length + 1) }).block) S.p8
def MS.fB (last : Int) (S : MS) : Nat → MS
 | 0 => S
 | i + 1 => (S.fB last i).gG last
def MS.fC (S : MS) (n : Int) : MS := (S.fB (S.bs.length + n) n.toNat).p8
def MS.region (S : MS) (n : Int) : MS := S.block.fC n
theorem a81 (last : Int) (S : MS) (hL : A5 S.L) (h0 : 0 ≤ S.at_) : ∃ a b, S.gG last = ⟨S.L, a, S.g, S.su, S.re, S.sl, S.pa, S.ar, S.lo, S.bs ++ [b], .nil, U4⟩ ∧ S.at_ + 1 ≤ a ∧ a ≤ S.at_ + 37 := by
 obtain ⟨a, ii, e, h1, h2, h3⟩ := L1 S hL h0
 unfold MS.gG
 rw [e]
 simp only
 split
 · exact ⟨a + 1 + 1 + 1 + 1, _, rfl, by omega, by omega⟩
 · exact ⟨a + 1, _, rfl, by omega, by omega⟩
theorem U6 (last : Int) (S : MS) (hL : A5 S.L) (h0 : 0 ≤ S.at_) (hi : S.i = .nil) (ht : S.t = U4) : ∀ i : Nat, ∃ a bs, S.fB last i = ⟨S.L, a, S.g, S.su, S.re, S.sl, S.pa, S.ar, S.lo, bs, .nil, U4⟩ ∧ S.at_ ≤ a ∧ a ≤ S.at_ + 37 * i ∧ bs.length = S.bs.length + i := by
 intro i
 induction i with
 | zero => exact ⟨S.at_, S.bs, by rw [← hi, ← ht]; rfl, by omega, by omega, by omega⟩
 | succ i ih =>
   obtain ⟨a, bs, e, h1, h2, h3⟩ := ih
   obtain ⟨a', b, e', g1, g2⟩ := a81 last (S.fB last i) (by rw [e]; exact hL) (by rw [e]; show 0 ≤ a; omega)
   rw [e] at e' g1 g2
   have g1 : a + 1 ≤ a' := g1
   have g2 : a' ≤ a + 37 := g2
   refine ⟨a', bs ++ [b], ?_, by omega, by omega, by simp; omega⟩
   simp only [MS.fB, e, e']
def MS.Q1 (S : MS) (n : Int) : List Row := (S.fC n).rows
def a4B := ZZ.mk (Zq @B9 (Zq @E4 (Zq @S6 (Zq @E4 (Zq @v7 (Zq @w9 (Zq @b8 (Zq @m6 (Zq @u4 (Zq @l0 (Zq @c9 (Zq @m7 (Zq @y0 (Zq @p0 (Zq @o7 (Zq @y3 (Zq @n5 (Zq @y5 (Zq @y4 (Zq @x8 (Zq @x7 (Zq @o5 (Zq @b5 (Zq @b6 (Zq @A7 (Zq @J5 (Zq @v8 (Zq @u9 @p7))))))))))))))))))))))))))))
def V8 := ZZ.mk (Zq @B9 (Zq @B6 (Zq @O0.eq_1 (Zq @b9 (Zq @E4 (Zq @S6 (Zq @E4 (Zq @v7 (Zq @w9 (Zq @b8 (Zq @m6 (Zq @u4 (Zq @l0 (Zq @c9 (Zq @m7 (Zq @y0 (Zq @p0 (Zq @o7 (Zq @y3 (Zq @n5 (Zq @y5 (Zq @y4 (Zq @x8 (Zq @x7 (Zq @o5 (Zq @b5 (Zq @b6 (Zq @A7 (Zq @J5 (Zq @v8 (Zq @u9 @p7)))))))))))))))))))))))))))))))
theorem b1J (L : List Int) (at_ g su re sl pa : Int) (ar : List fL) (n : Int) (hn : 0 ≤ n ∧ n ≤ 2) (h : gI ⟨L, at_, g, su, re, sl, pa, ar, .nil, [], .nil, U4⟩ 600000) (hb : 0 + 2 ≤ 900) : B2 Tryd.prog 32 [.ptr 0 0 0, .v (.int .i64 n)] (Y4 L at_ g su re sl pa ar) 1 (fun _ : Unit => True) (fun _ => .Q8 []) (fun _ => MS.Q1 ⟨L, at_, g, su, re, sl, pa, ar, .nil, [], .nil, U4⟩ n) := by
 obtain ⟨hL, h0, hb0, hi, ha, hal⟩ := h
 simp only at hL h0 ha hal
 clear hb0 hi
 have CB0 := a8b L at_ g su re sl pa ar
 obtain ⟨last, hlast⟩ : ∃ last : Int, last = ((0 : Nat) : Int) + n := ⟨_, rfl⟩
 obtain ⟨SI, hSI⟩ : ∃ SI, SI = MS.fB last ⟨L, at_, g, su, re, sl, pa, ar, .nil, [], .nil, U4⟩ := ⟨_, rfl⟩
 have hR : MS.Q1 ⟨L, at_, g, su, re, sl, pa, ar, .nil, [], .nil, U4⟩ n = (SI n.toNat).p8.rows := by rw [hSI, hlast]; unfold MS.Q1 MS.fC; simp only [List.length_append, List.length_cons, List.length_nil, Nat.zero_add, Nat.reduceAdd]
 obtain ⟨R, hR2⟩ : ∃ R : List Row, R = MS.Q1 ⟨L, at_, g, su, re, sl, pa, ar, .nil, [], .nil, U4⟩ n := ⟨_, rfl⟩
 rw [← hR2]
 rw [hR] at hR2
 clear hR
 simp only [MS.rows, MS.block, Y4, b9, j4.cell, j4.rows, j4.l, j4.k, s6.cell, s6.rows, s6.l, List.cons_append, List.nil_append, List.append_nil] at CB0
 simp only [MS.rows, Y4, j4.cell, j4.rows, j4.l, j4.k, s6.cell, s6.rows, s6.l, List.cons_append, List.nil_append, List.append_nil]; refine Zf Tryd.func32 Tryd.ntmps32 ?_
 repeat' (first | refine Zl ?_ | (with_reducible first | refine Zz.mk fun N hN mk hmk => ?_ | refine Zb.mk fun N hN => ?_ | refine Zi.mk fun h => ?_ | refine ⟨fun h => ?_, fun h => ?_⟩ | exact True.intro) | (refine Zp CB0 [0] a4B.d ?_; with_reducible intro _ _) | (refine hN _ ?_; clear hN N) | (refine Zk hmk ?_; clear hmk mk) | refine Zt a4B.d ?_ | fail)
 refine l9 (fun i => ⟨[.ptr 0 0 0, .dead, .dead, .dead, .dead, .v (.int .i64 (((0 : Nat) : Int) + n)), .v (.int .i64 (SI i).bs.length), .dead, .dead, .dead, .dead, .dead, .dead, .dead, .dead, .dead, .dead, .dead, .dead, .dead, .dead, .dead, .dead, .dead, .dead, .dead, .dead, .dead, .dead, .dead, .dead, .dead, .dead, .dead, .dead, .dead, .dead, .dead, .dead, .dead, .dead, .dead, .dead, .dead, .dead, .dead, .dead, .dead, .dead, .dead, .dead, .dead, .dead, .dead, .dead, .dead, .dead, .dead, .dead, .dead, .dead, .dead, .dead, .dead, .dead, .dead, .dead, .dead, .dead, .dead, .dead, .dead, .dead, .dead, .dead, .dead, .dead], W7 (SI i).rows, ((SI i).rows.length + 1)⟩) n.toNat (Zw [0,5,6] [0, 16] a4B.d ?_) ?_
 · rw [hSI]; simp only [MS.fB, MS.rows, W7, j3, B9, S6, b9, j4.cell, j4.rows, j4.l, j4.k, s6.cell, s6.rows, s6.l, List.cons_append, List.nil_append, List.append_nil, List.length_cons, List.length_nil, Nat.reduceAdd, Int.natCast_zero, Int.add_zero]
 intro i hi2
 clear CB0
 obtain ⟨a, bs', e, e1, e2, e3⟩ := U6 last ⟨L, at_, g, su, re, sl, pa, ar, .nil, [], .nil, U4⟩ hL h0.1 rfl rfl i
 have e0 := e
 rw [← hSI] at e0
 have ej : SI (i + 1) = (SI i).gG last := by rw [hSI]; rfl
 have e1 : at_ ≤ a := e1
 have e2 : a ≤ at_ + 37 * i := e2
 simp only [List.length_append, List.length_cons, List.length_nil] at e3
 obtain ⟨a1, ii, f, f1, f2, f3⟩ := L1 ⟨L, a, g, su, re, sl, pa, ar, .nil, bs', .nil, U4⟩ hL (by show 0 ≤ a; omega)
 have f1 : a + 1 ≤ a1 := f1
 have f2 : a1 ≤ a + 33 := f2
 have f3 : ii.l.length ≤ 0 + 8 := f3
 have CI := bL ⟨L, a, g, su, re, sl, pa, ar, .nil, bs', .nil, U4⟩ ⟨hL, by show 0 ≤ a ∧ a ≤ _; omega, by show bs'.length ≤ _; omega, by show ((0 : Nat) : Int) ≤ _; omega, ha, hal⟩
 rw [f] at CI
 simp only at CI f
 have CN1 := p9 L a1 (by omega) hL
 have CR := Y8 L (a1 + 1) (by omega) hL
 have CN2 := p9 L (a1 + 1 + 1) (by omega) hL
 have CN3 := p9 L (a1 + 1 + 1 + 1) (by omega) hL
 have hx1 := j0 hL (show 0 ≤ a1 by omega)
 have hx2 := j0 hL (show 0 ≤ a1 + 1 + 1 by omega)
 have hx3 := j0 hL (show 0 ≤ a1 + 1 + 1 + 1 by omega)
 have CB1 := E8 ⟨L, a1 + 1, g, su, re, sl, pa, ar, .nil, bs', ii, U0 (bs'.length + 1)⟩ (by show bs'.length ≤ _; omega)
 have CB2 := E8 ⟨L, a1 + 1 + 1 + 1 + 1, g, su, re, sl, pa, ar, .nil, bs', ii, E5 (G8 L (a1 + 1)) (bs'.length + 1 + a6 L (a1 + 1 + 1) % (last - bs'.length)) (bs'.length + 1 + a6 L (a1 + 1 + 1 + 1) % (last - bs'.length))⟩ (by show bs'.length ≤ _; omega)
 have er1 : ¬ a6 L a1 % 2 = 0 → (SI (i + 1)).rows = (MS.block ⟨L, a1 + 1, g, su, re, sl, pa, ar, .nil, bs', ii, U0 (bs'.length + 1)⟩).rows := fun hp => by rw [ej, e0]; unfold MS.gG; simp only; rw [f]; simp only; rw [if_neg hp]
 have er2 : a6 L a1 % 2 = 0 → (SI (i + 1)).rows = (MS.block ⟨L, a1 + 1 + 1 + 1 + 1, g, su, re, sl, pa, ar, .nil, bs', ii, E5 (G8 L (a1 + 1)) (bs'.length + 1 + a6 L (a1 + 1 + 1) % (last - bs'.length)) (bs'.length + 1 + a6 L (a1 + 1 + 1 + 1) % (last - bs'.length))⟩).rows := fun hp => by rw [ej, e0]; unfold MS.gG; simp only; rw [f]; simp only; rw [if_pos hp]
 have hR3 : i = n.toNat → R = (MS.rows ⟨L, a1, g, su, re, sl, pa, ar, .nil, bs', ii, U4⟩) := fun hp => by rw [hR2, ← hp, e0, f]
 have elen : (SI (i + 1)).bs.length = bs'.length + 1 := by
   rw [hSI]
   obtain ⟨_, _, e', _, _, e4⟩ := U6 last ⟨L, at_, g, su, re, sl, pa, ar, .nil, [], .nil, U4⟩ hL h0.1 rfl rfl (i + 1)
   rw [e']
   simp only [List.length_append, List.length_cons, List.length_nil] at e4 ⊢
   omega
 obtain ⟨R1, hR1⟩ : ∃ R1, R1 = (SI (i + 1)).rows := ⟨_, rfl⟩
 rw [← hR1] at er1 er2 ⊢
 rw [elen, e0]
 clear f ej e e0 hSI hR2 elen hR1
 subst hlast
 generalize a6 L a1 = x1 at *
 generalize a6 L (a1 + 1 + 1) = x2 at *
 generalize a6 L (a1 + 1 + 1 + 1) = x3 at *
 generalize G8 L (a1 + 1) = d at *
 obtain ⟨dk, dn, dv⟩ := d
 cases ii
 all_goals simp only [MS.rows, MS.block, W7, j3, B9, J8.av, U0, E5, O0, b9, j4.cell, j4.rows, j4.l, j4.k, s6.cell, s6.rows, s6.l, List.cons_append, List.nil_append, List.append_nil, List.length_cons, List.length_nil, Nat.reduceAdd] at CI CR CB1 CB2 er1 er2 hR3 ⊢
 all_goals simp only [u2.av] at CB1 CB2
 all_goals have hq2 := dB x2 (((0 : Nat) : Int) + n - bs'.length) hx2.1
 all_goals have hq3 := dB x3 (((0 : Nat) : Int) + n - bs'.length) hx3.1
 all_goals by_cases hp : x1 % 2 = 0
 · repeat' (first | refine Zl ?_ | (with_reducible first | refine Zz.mk fun N hN mk hmk => ?_ | refine Zb.mk fun N hN => ?_ | refine Zi.mk fun h => ?_ | refine ⟨fun h => ?_, fun h => ?_⟩ | exact True.intro) | (refine Zp CI [0, 1] (Zq V8.d hp) ?_; with_reducible intro _ _) | refine Ze CN1 ?_ | refine Ze CR ?_ | refine Ze CN2 ?_ | refine Ze CN3 ?_ | (refine Zp CB2 [0, 35] (Zq V8.d hp) ?_; with_reducible intro _ _) | (refine hN _ ?_; clear hN N) | (refine Zk hmk ?_; clear hmk mk) | refine Zt (Zq V8.d hp) ?_ | fail)
   · refine Zw [0,5,6] [0, 435] (Zq V8.d hp) ?_
     rw [er2 hp]
     simp only [j3, List.cons_append, List.nil_append, List.length_cons, List.length_nil, Nat.reduceAdd, show ((bs'.length + 1 : Nat) : Int) = bs'.length + 1 from rfl]
   · rw [hR3 (by omega)]
     refine Zr (()) [0, 35] (Zq V8.d hp) ?_
     trivial
 · repeat' (first | refine Zl ?_ | (with_reducible first | refine Zz.mk fun N hN mk hmk => ?_ | refine Zb.mk fun N hN => ?_ | refine Zi.mk fun h => ?_ | refine ⟨fun h => ?_, fun h => ?_⟩ | exact True.intro) | (refine Zp CI [0, 1] (Zq V8.d hp) ?_; with_reducible intro _ _) | refine Ze CN1 ?_ | (refine Zp CB1 [0, 35] (Zq V8.d hp) ?_; with_reducible intro _ _) | (refine hN _ ?_; clear hN N) | (refine Zk hmk ?_; clear hmk mk) | refine Zt (Zq V8.d hp) ?_ | fail)
   · refine Zw [0,5,6] [0, 187] (Zq V8.d hp) ?_
     rw [er1 hp]
     simp only [j3, List.cons_append, List.nil_append, List.length_cons, List.length_nil, Nat.reduceAdd, show ((bs'.length + 1 : Nat) : Int) = bs'.length + 1 from rfl]
   · rw [hR3 (by omega)]
     refine Zr (()) [0, 35] (Zq V8.d hp) ?_
     trivial
 · repeat' (first | refine Zl ?_ | (with_reducible first | refine Zz.mk fun N hN mk hmk => ?_ | refine Zb.mk fun N hN => ?_ | refine Zi.mk fun h => ?_ | refine ⟨fun h => ?_, fun h => ?_⟩ | exact True.intro) | (refine Zp CI [0, 1] (Zq V8.d hp) ?_; with_reducible intro _ _) | refine Ze CN1 ?_ | refine Ze CR ?_ | refine Ze CN2 ?_ | refine Ze CN3 ?_ | (refine Zp CB2 [0, 35, 36] (Zq V8.d hp) ?_; with_reducible intro _ _) | (refine hN _ ?_; clear hN N) | (refine Zk hmk ?_; clear hmk mk) | refine Zt (Zq V8.d hp) ?_ | fail)
   · refine Zw [0,5,6] [0, 435] (Zq V8.d hp) ?_
     rw [er2 hp]
     simp only [j3, List.cons_append, List.nil_append, List.length_cons, List.length_nil, Nat.reduceAdd, show ((bs'.length + 1 : Nat) : Int) = bs'.length + 1 from rfl]
   · rw [hR3 (by omega)]
     refine Zr (()) [0, 35, 36] (Zq V8.d hp) ?_
     trivial
 · repeat' (first | refine Zl ?_ | (with_reducible first | refine Zz.mk fun N hN mk hmk => ?_ | refine Zb.mk fun N hN => ?_ | refine Zi.mk fun h => ?_ | refine ⟨fun h => ?_, fun h => ?_⟩ | exact True.intro) | (refine Zp CI [0, 1] (Zq V8.d hp) ?_; with_reducible intro _ _) | refine Ze CN1 ?_ | (refine Zp CB1 [0, 35, 36] (Zq V8.d hp) ?_; with_reducible intro _ _) | (refine hN _ ?_; clear hN N) | (refine Zk hmk ?_; clear hmk mk) | refine Zt (Zq V8.d hp) ?_ | fail)
   · refine Zw [0,5,6] [0, 187] (Zq V8.d hp) ?_
     rw [er1 hp]
     simp only [j3, List.cons_append, List.nil_append, List.length_cons, List.length_nil, Nat.reduceAdd, show ((bs'.length + 1 : Nat) : Int) = bs'.length + 1 from rfl]
   · rw [hR3 (by omega)]
     refine Zr (()) [0, 35, 36] (Zq V8.d hp) ?_
     trivial
end Go.Proofs.YtfccigmfcpimgaaDoor
end
