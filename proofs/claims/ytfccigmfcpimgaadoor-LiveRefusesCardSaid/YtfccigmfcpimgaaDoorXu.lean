/- Own work (by an AI agent; no person has read it): part of a proof of the seat YtfccigmfcpimgaaDoor. -/
import Derived.Test.YtfccigmfcpimgaaDoorXt
set_option linter.unusedSimpArgs false
set_option linter.unusedVariables false
set_option maxRecDepth 100000
set_option maxHeartbeats 10000000
section
namespace Go.Proofs.YtfccigmfcpimgaaDoor
open Go.Ab
def a0H := ZZ.mk (Zq @B9 (Zq @E4 (Zq @S6 (Zq @E4 (Zq @v7 (Zq @w9 (Zq @b8 (Zq @m6 (Zq @u4 (Zq @l0 (Zq @c9 (Zq @m7 (Zq @y0 (Zq @p0 (Zq @o7 (Zq @y3 (Zq @n5 (Zq @y5 (Zq @y4 (Zq @x8 (Zq @x7 (Zq @o5 (Zq @b5 (Zq @b6 (Zq @A7 (Zq @J5 (Zq @v8 (Zq @u9 @p7))))))))))))))))))))))))))))
def P5 := ZZ.mk (Zq @B9 (Zq @B6 (Zq @O0.eq_1 (Zq @b9 (Zq @E4 (Zq @S6 (Zq @E4 (Zq @v7 (Zq @w9 (Zq @b8 (Zq @m6 (Zq @u4 (Zq @l0 (Zq @c9 (Zq @m7 (Zq @y0 (Zq @p0 (Zq @o7 (Zq @y3 (Zq @n5 (Zq @y5 (Zq @y4 (Zq @x8 (Zq @x7 (Zq @o5 (Zq @b5 (Zq @b6 (Zq @A7 (Zq @J5 (Zq @v8 (Zq @u9 @p7)))))))))))))))))))))))))))))))
theorem a89 (L : List Int) (at_ g su re sl pa : Int) (ar : List fL) (ll : List Loop) (bs : List c5) (t : u2) (n : Int) (hn : 0 ≤ n ∧ n ≤ 2) (h : gI ⟨L, at_, g, su, re, sl, pa, ar, .own ll, bs, .nil, t⟩ 600000) (hb : bs.length + 2 ≤ 900) : B2 Tryd.prog 32 [.ptr 0 0 0, .v (.int .i64 n)] (MS.rows ⟨L, at_, g, su, re, sl, pa, ar, .own ll, bs, .nil, t⟩) 1 (fun _ : Unit => True) (fun _ => .Q8 []) (fun _ => MS.Q1 ⟨L, at_, g, su, re, sl, pa, ar, .own ll, (bs ++ [⟨[], t⟩]), .nil, U4⟩ n) := by
 obtain ⟨hL, h0, hb0, hi, ha, hal⟩ := h
 simp only at hL h0 ha hal
 clear hb0 hi
 have CB0 := E8 ⟨L, at_, g, su, re, sl, pa, ar, .own ll, bs, .nil, t⟩ (by show bs.length ≤ 1000; omega)
 obtain ⟨last, hlast⟩ : ∃ last : Int, last = ((bs.length + 1 : Nat) : Int) + n := ⟨_, rfl⟩
 obtain ⟨SI, hSI⟩ : ∃ SI, SI = MS.fB last ⟨L, at_, g, su, re, sl, pa, ar, .own ll, (bs ++ [⟨[], t⟩]), .nil, U4⟩ := ⟨_, rfl⟩
 have hR : MS.Q1 ⟨L, at_, g, su, re, sl, pa, ar, .own ll, (bs ++ [⟨[], t⟩]), .nil, U4⟩ n = (SI n.toNat).p8.rows := by rw [hSI, hlast]; unfold MS.Q1 MS.fC; simp only [List.length_append, List.length_cons, List.length_nil, Nat.zero_add, Nat.reduceAdd]
 obtain ⟨R, hR2⟩ : ∃ R : List Row, R = MS.Q1 ⟨L, at_, g, su, re, sl, pa, ar, .own ll, (bs ++ [⟨[], t⟩]), .nil, U4⟩ n := ⟨_, rfl⟩
 rw [← hR2]
 rw [hR] at hR2
 clear hR
 simp only [MS.rows, MS.block, Y4, b9, j4.cell, j4.rows, j4.l, j4.k, s6.cell, s6.rows, s6.l, List.cons_append, List.nil_append, List.append_nil] at CB0
 simp only [MS.rows, Y4, j4.cell, j4.rows, j4.l, j4.k, s6.cell, s6.rows, s6.l, List.cons_append, List.nil_append, List.append_nil]; refine Zf Tryd.func32 Tryd.ntmps32 ?_
 repeat' (first | refine Zl ?_ | (with_reducible first | refine Zz.mk fun N hN mk hmk => ?_ | refine Zb.mk fun N hN => ?_ | refine Zi.mk fun h => ?_ | refine ⟨fun h => ?_, fun h => ?_⟩ | exact True.intro) | (refine Zp CB0 [0, 1, 2] a0H.d ?_; with_reducible intro _ _) | (refine hN _ ?_; clear hN N) | (refine Zk hmk ?_; clear hmk mk) | refine Zt a0H.d ?_ | fail)
 refine l9 (fun i => ⟨[.ptr 0 0 0, .dead, .dead, .dead, .dead, .v (.int .i64 (((bs.length + 1 : Nat) : Int) + n)), .v (.int .i64 (SI i).bs.length), .dead, .dead, .dead, .dead, .dead, .dead, .dead, .dead, .dead, .dead, .dead, .dead, .dead, .dead, .dead, .dead, .dead, .dead, .dead, .dead, .dead, .dead, .dead, .dead, .dead, .dead, .dead, .dead, .dead, .dead, .dead, .dead, .dead, .dead, .dead, .dead, .dead, .dead, .dead, .dead, .dead, .dead, .dead, .dead, .dead, .dead, .dead, .dead, .dead, .dead, .dead, .dead, .dead, .dead, .dead, .dead, .dead, .dead, .dead, .dead, .dead, .dead, .dead, .dead, .dead, .dead, .dead, .dead, .dead, .dead], W7 (SI i).rows, ((SI i).rows.length + 1)⟩) n.toNat (Zw [0,5,6] [0, 16, 17] a0H.d ?_) ?_
 · rw [hSI]; simp only [MS.fB, MS.rows, W7, j3, B9, S6, b9, j4.cell, j4.rows, j4.l, j4.k, s6.cell, s6.rows, s6.l, List.cons_append, List.nil_append, List.append_nil, List.length_cons, List.length_nil, Nat.reduceAdd, Int.natCast_zero, Int.add_zero]
 intro i hi2
 clear CB0
 obtain ⟨a, bs', e, e1, e2, e3⟩ := U6 last ⟨L, at_, g, su, re, sl, pa, ar, .own ll, (bs ++ [⟨[], t⟩]), .nil, U4⟩ hL h0.1 rfl rfl i
 have e0 := e
 rw [← hSI] at e0
 have ej : SI (i + 1) = (SI i).gG last := by rw [hSI]; rfl
 have e1 : at_ ≤ a := e1
 have e2 : a ≤ at_ + 37 * i := e2
 simp only [List.length_append, List.length_cons, List.length_nil] at e3
 obtain ⟨a1, ii, f, f1, f2, f3⟩ := L1 ⟨L, a, g, su, re, sl, pa, ar, .own ll, bs', .nil, U4⟩ hL (by show 0 ≤ a; omega)
 have f1 : a + 1 ≤ a1 := f1
 have f2 : a1 ≤ a + 33 := f2
 have f3 : ii.l.length ≤ 0 + 8 := f3
 have CI := bL ⟨L, a, g, su, re, sl, pa, ar, .own ll, bs', .nil, U4⟩ ⟨hL, by show 0 ≤ a ∧ a ≤ _; omega, by show bs'.length ≤ _; omega, by show ((0 : Nat) : Int) ≤ _; omega, ha, hal⟩
 rw [f] at CI
 simp only at CI f
 have CN1 := p9 L a1 (by omega) hL
 have CR := Y8 L (a1 + 1) (by omega) hL
 have CN2 := p9 L (a1 + 1 + 1) (by omega) hL
 have CN3 := p9 L (a1 + 1 + 1 + 1) (by omega) hL
 have hx1 := j0 hL (show 0 ≤ a1 by omega)
 have hx2 := j0 hL (show 0 ≤ a1 + 1 + 1 by omega)
 have hx3 := j0 hL (show 0 ≤ a1 + 1 + 1 + 1 by omega)
 have CB1 := E8 ⟨L, a1 + 1, g, su, re, sl, pa, ar, .own ll, bs', ii, U0 (bs'.length + 1)⟩ (by show bs'.length ≤ _; omega)
 have CB2 := E8 ⟨L, a1 + 1 + 1 + 1 + 1, g, su, re, sl, pa, ar, .own ll, bs', ii, E5 (G8 L (a1 + 1)) (bs'.length + 1 + a6 L (a1 + 1 + 1) % (last - bs'.length)) (bs'.length + 1 + a6 L (a1 + 1 + 1 + 1) % (last - bs'.length))⟩ (by show bs'.length ≤ _; omega)
 have er1 : ¬ a6 L a1 % 2 = 0 → (SI (i + 1)).rows = (MS.block ⟨L, a1 + 1, g, su, re, sl, pa, ar, .own ll, bs', ii, U0 (bs'.length + 1)⟩).rows := fun hp => by rw [ej, e0]; unfold MS.gG; simp only; rw [f]; simp only; rw [if_neg hp]
 have er2 : a6 L a1 % 2 = 0 → (SI (i + 1)).rows = (MS.block ⟨L, a1 + 1 + 1 + 1 + 1, g, su, re, sl, pa, ar, .own ll, bs', ii, E5 (G8 L (a1 + 1)) (bs'.length + 1 + a6 L (a1 + 1 + 1) % (last - bs'.length)) (bs'.length + 1 + a6 L (a1 + 1 + 1 + 1) % (last - bs'.length))⟩).rows := fun hp => by rw [ej, e0]; unfold MS.gG; simp only; rw [f]; simp only; rw [if_pos hp]
 have hR3 : i = n.toNat → R = (MS.rows ⟨L, a1, g, su, re, sl, pa, ar, .own ll, bs', ii, U4⟩) := fun hp => by rw [hR2, ← hp, e0, f]
 have elen : (SI (i + 1)).bs.length = bs'.length + 1 := by
   rw [hSI]
   obtain ⟨_, _, e', _, _, e4⟩ := U6 last ⟨L, at_, g, su, re, sl, pa, ar, .own ll, (bs ++ [⟨[], t⟩]), .nil, U4⟩ hL h0.1 rfl rfl (i + 1)
   rw [e']
   simp only [List.length_append, List.length_cons, List.length_nil] at e4 ⊢
   omega
 obtain ⟨R1, hR1⟩ : ∃ R1, R1 = (SI (i + 1)).rows := ⟨_, rfl⟩
 rw [← hR1] at er1 er2 ⊢
 rw [elen, e0]
 clear f ej e e0 hSI hR2 elen hR1
 subst hlast
 generalize a6 L a1 = x1 at *
 generalize a6 L (a1 + 1 + 1) = x2 at *
 generalize a6 L (a1 + 1 + 1 + 1) = x3 at *
 generalize G8 L (a1 + 1) = d at *
 obtain ⟨dk, dn, dv⟩ := d
 cases ii
 all_goals simp only [MS.rows, MS.block, W7, j3, B9, J8.av, U0, E5, O0, b9, j4.cell, j4.rows, j4.l, j4.k, s6.cell, s6.rows, s6.l, List.cons_append, List.nil_append, List.append_nil, List.length_cons, List.length_nil, Nat.reduceAdd] at CI CR CB1 CB2 er1 er2 hR3 ⊢
 all_goals simp only [u2.av] at CB1 CB2
 all_goals have hq2 := dB x2 (((bs.length + 1 : Nat) : Int) + n - bs'.length) hx2.1
 all_goals have hq3 := dB x3 (((bs.length + 1 : Nat) : Int) + n - bs'.length) hx3.1
 all_goals by_cases hp : x1 % 2 = 0
 · repeat' (first | refine Zl ?_ | (with_reducible first | refine Zz.mk fun N hN mk hmk => ?_ | refine Zb.mk fun N hN => ?_ | refine Zi.mk fun h => ?_ | refine ⟨fun h => ?_, fun h => ?_⟩ | exact True.intro) | (refine Zp CI [0, 1, 2] (Zq P5.d hp) ?_; with_reducible intro _ _) | refine Ze CN1 ?_ | refine Ze CR ?_ | refine Ze CN2 ?_ | refine Ze CN3 ?_ | (refine Zp CB2 [0, 36, 37] (Zq P5.d hp) ?_; with_reducible intro _ _) | (refine hN _ ?_; clear hN N) | (refine Zk hmk ?_; clear hmk mk) | refine Zt (Zq P5.d hp) ?_ | fail)
   · refine Zw [0,5,6] [0, 436, 437] (Zq P5.d hp) ?_
     rw [er2 hp]
     simp only [j3, List.cons_append, List.nil_append, List.length_cons, List.length_nil, Nat.reduceAdd, show ((bs'.length + 1 : Nat) : Int) = bs'.length + 1 from rfl]
   · rw [hR3 (by omega)]
     refine Zr (()) [0, 36, 37] (Zq P5.d hp) ?_
     trivial
 · repeat' (first | refine Zl ?_ | (with_reducible first | refine Zz.mk fun N hN mk hmk => ?_ | refine Zb.mk fun N hN => ?_ | refine Zi.mk fun h => ?_ | refine ⟨fun h => ?_, fun h => ?_⟩ | exact True.intro) | (refine Zp CI [0, 1, 2] (Zq P5.d hp) ?_; with_reducible intro _ _) | refine Ze CN1 ?_ | (refine Zp CB1 [0, 36, 37] (Zq P5.d hp) ?_; with_reducible intro _ _) | (refine hN _ ?_; clear hN N) | (refine Zk hmk ?_; clear hmk mk) | refine Zt (Zq P5.d hp) ?_ | fail)
   · refine Zw [0,5,6] [0, 188, 189] (Zq P5.d hp) ?_
     rw [er1 hp]
     simp only [j3, List.cons_append, List.nil_append, List.length_cons, List.length_nil, Nat.reduceAdd, show ((bs'.length + 1 : Nat) : Int) = bs'.length + 1 from rfl]
   · rw [hR3 (by omega)]
     refine Zr (()) [0, 36, 37] (Zq P5.d hp) ?_
     trivial
 · repeat' (first | refine Zl ?_ | (with_reducible first | refine Zz.mk fun N hN mk hmk => ?_ | refine Zb.mk fun N hN => ?_ | refine Zi.mk fun h => ?_ | refine ⟨fun h => ?_, fun h => ?_⟩ | exact True.intro) | (refine Zp CI [0, 1, 2] (Zq P5.d hp) ?_; with_reducible intro _ _) | refine Ze CN1 ?_ | refine Ze CR ?_ | refine Ze CN2 ?_ | refine Ze CN3 ?_ | (refine Zp CB2 [0, 36, 37, 38] (Zq P5.d hp) ?_; with_reducible intro _ _) | (refine hN _ ?_; clear hN N) | (refine Zk hmk ?_; clear hmk mk) | refine Zt (Zq P5.d hp) ?_ | fail)
   · refine Zw [0,5,6] [0, 436, 437] (Zq P5.d hp) ?_
     rw [er2 hp]
     simp only [j3, List.cons_append, List.nil_append, List.length_cons, List.length_nil, Nat.reduceAdd, show ((bs'.length + 1 : Nat) : Int) = bs'.length + 1 from rfl]
   · rw [hR3 (by omega)]
     refine Zr (()) [0, 36, 37, 38] (Zq P5.d hp) ?_
     trivial
 · repeat' (first | refine Zl ?_ | (with_reducible first | refine Zz.mk fun N hN mk hmk => ?_ | refine Zb.mk fun N hN => ?_ | refine Zi.mk fun h => ?_ | refine ⟨fun h => ?_, fun h => ?_⟩ | exact True.intro) | (refine Zp CI [0, 1, 2] (Zq P5.d hp) ?_; with_reducible intro _ _) | refine Ze CN1 ?_ | (refine Zp CB1 [0, 36, 37, 38] (Zq P5.d hp) ?_; with_reducible intro _ _) | (refine hN _ ?_; clear hN N) | (refine Zk hmk ?_; clear hmk mk) | refine Zt (Zq P5.d hp) ?_ | fail)
   · refine Zw [0,5,6] [0, 188, 189] (Zq P5.d hp) ?_
     rw [er1 hp]
     simp only [j3, List.cons_append, List.nil_append, List.length_cons, List.length_nil, Nat.reduceAdd, show ((bs'.length + 1 : Nat) : Int) = bs'.length + 1 from rfl]
   · rw [hR3 (by omega)]
     refine Zr (()) [0, 36, 37, 38] (Zq P5.d hp) ?_
     trivial
def a0I := ZZ.mk (Zq @B9 (Zq @E4 (Zq @S6 (Zq @E4 (Zq @v7 (Zq @w9 (Zq @b8 (Zq @m6 (Zq @u4 (Zq @l0 (Zq @c9 (Zq @m7 (Zq @y0 (Zq @p0 (Zq @o7 (Zq @y3 (Zq @n5 (Zq @y5 (Zq @y4 (Zq @x8 (Zq @x7 (Zq @o5 (Zq @b5 (Zq @b6 (Zq @A7 (Zq @J5 (Zq @v8 (Zq @u9 @p7))))))))))))))))))))))))))))
def P6 := ZZ.mk (Zq @B9 (Zq @B6 (Zq @O0.eq_1 (Zq @b9 (Zq @E4 (Zq @S6 (Zq @E4 (Zq @v7 (Zq @w9 (Zq @b8 (Zq @m6 (Zq @u4 (Zq @l0 (Zq @c9 (Zq @m7 (Zq @y0 (Zq @p0 (Zq @o7 (Zq @y3 (Zq @n5 (Zq @y5 (Zq @y4 (Zq @x8 (Zq @x7 (Zq @o5 (Zq @b5 (Zq @b6 (Zq @A7 (Zq @J5 (Zq @v8 (Zq @u9 @p7)))))))))))))))))))))))))))))))
theorem a9a (L : List Int) (at_ g su re sl pa : Int) (ar : List fL) (ll : List Loop) (li : List j9) (bs : List c5) (t : u2) (n : Int) (hn : 0 ≤ n ∧ n ≤ 2) (h : gI ⟨L, at_, g, su, re, sl, pa, ar, .own ll, bs, .own li, t⟩ 600000) (hb : bs.length + 2 ≤ 900) : B2 Tryd.prog 32 [.ptr 0 0 0, .v (.int .i64 n)] (MS.rows ⟨L, at_, g, su, re, sl, pa, ar, .own ll, bs, .own li, t⟩) 1 (fun _ : Unit => True) (fun _ => .Q8 []) (fun _ => MS.Q1 ⟨L, at_, g, su, re, sl, pa, ar, .own ll, (bs ++ [⟨li, t⟩]), .nil, U4⟩ n) := by
 obtain ⟨hL, h0, hb0, hi, ha, hal⟩ := h
 simp only at hL h0 ha hal
 clear hb0 hi
 have CB0 := E8 ⟨L, at_, g, su, re, sl, pa, ar, .own ll, bs, .own li, t⟩ (by show bs.length ≤ 1000; omega)
 obtain ⟨last, hlast⟩ : ∃ last : Int, last = ((bs.length + 1 : Nat) : Int) + n := ⟨_, rfl⟩
 obtain ⟨SI, hSI⟩ : ∃ SI, SI = MS.fB last ⟨L, at_, g, su, re, sl, pa, ar, .own ll, (bs ++ [⟨li, t⟩]), .nil, U4⟩ := ⟨_, rfl⟩
 have hR : MS.Q1 ⟨L, at_, g, su, re, sl, pa, ar, .own ll, (bs ++ [⟨li, t⟩]), .nil, U4⟩ n = (SI n.toNat).p8.rows := by rw [hSI, hlast]; unfold MS.Q1 MS.fC; simp only [List.length_append, List.length_cons, List.length_nil, Nat.zero_add, Nat.reduceAdd]
 obtain ⟨R, hR2⟩ : ∃ R : List Row, R = MS.Q1 ⟨L, at_, g, su, re, sl, pa, ar, .own ll, (bs ++ [⟨li, t⟩]), .nil, U4⟩ n := ⟨_, rfl⟩
 rw [← hR2]
 rw [hR] at hR2
 clear hR
 simp only [MS.rows, MS.block, Y4, b9, j4.cell, j4.rows, j4.l, j4.k, s6.cell, s6.rows, s6.l, List.cons_append, List.nil_append, List.append_nil] at CB0
 simp only [MS.rows, Y4, j4.cell, j4.rows, j4.l, j4.k, s6.cell, s6.rows, s6.l, List.cons_append, List.nil_append, List.append_nil]; refine Zf Tryd.func32 Tryd.ntmps32 ?_
 repeat' (first | refine Zl ?_ | (with_reducible first | refine Zz.mk fun N hN mk hmk => ?_ | refine Zb.mk fun N hN => ?_ | refine Zi.mk fun h => ?_ | refine ⟨fun h => ?_, fun h => ?_⟩ | exact True.intro) | (refine Zp CB0 [0, 1, 2, 3] a0I.d ?_; with_reducible intro _ _) | (refine hN _ ?_; clear hN N) | (refine Zk hmk ?_; clear hmk mk) | refine Zt a0I.d ?_ | fail)
 refine l9 (fun i => ⟨[.ptr 0 0 0, .dead, .dead, .dead, .dead, .v (.int .i64 (((bs.length + 1 : Nat) : Int) + n)), .v (.int .i64 (SI i).bs.length), .dead, .dead, .dead, .dead, .dead, .dead, .dead, .dead, .dead, .dead, .dead, .dead, .dead, .dead, .dead, .dead, .dead, .dead, .dead, .dead, .dead, .dead, .dead, .dead, .dead, .dead, .dead, .dead, .dead, .dead, .dead, .dead, .dead, .dead, .dead, .dead, .dead, .dead, .dead, .dead, .dead, .dead, .dead, .dead, .dead, .dead, .dead, .dead, .dead, .dead, .dead, .dead, .dead, .dead, .dead, .dead, .dead, .dead, .dead, .dead, .dead, .dead, .dead, .dead, .dead, .dead, .dead, .dead, .dead, .dead], W7 (SI i).rows, ((SI i).rows.length + 1)⟩) n.toNat (Zw [0,5,6] [0, 16, 17] a0I.d ?_) ?_
 · rw [hSI]; simp only [MS.fB, MS.rows, W7, j3, B9, S6, b9, j4.cell, j4.rows, j4.l, j4.k, s6.cell, s6.rows, s6.l, List.cons_append, List.nil_append, List.append_nil, List.length_cons, List.length_nil, Nat.reduceAdd, Int.natCast_zero, Int.add_zero]
 intro i hi2
 clear CB0
 obtain ⟨a, bs', e, e1, e2, e3⟩ := U6 last ⟨L, at_, g, su, re, sl, pa, ar, .own ll, (bs ++ [⟨li, t⟩]), .nil, U4⟩ hL h0.1 rfl rfl i
 have e0 := e
 rw [← hSI] at e0
 have ej : SI (i + 1) = (SI i).gG last := by rw [hSI]; rfl
 have e1 : at_ ≤ a := e1
 have e2 : a ≤ at_ + 37 * i := e2
 simp only [List.length_append, List.length_cons, List.length_nil] at e3
 obtain ⟨a1, ii, f, f1, f2, f3⟩ := L1 ⟨L, a, g, su, re, sl, pa, ar, .own ll, bs', .nil, U4⟩ hL (by show 0 ≤ a; omega)
 have f1 : a + 1 ≤ a1 := f1
 have f2 : a1 ≤ a + 33 := f2
 have f3 : ii.l.length ≤ 0 + 8 := f3
 have CI := bL ⟨L, a, g, su, re, sl, pa, ar, .own ll, bs', .nil, U4⟩ ⟨hL, by show 0 ≤ a ∧ a ≤ _; omega, by show bs'.length ≤ _; omega, by show ((0 : Nat) : Int) ≤ _; omega, ha, hal⟩
 rw [f] at CI
 simp only at CI f
 have CN1 := p9 L a1 (by omega) hL
 have CR := Y8 L (a1 + 1) (by omega) hL
 have CN2 := p9 L (a1 + 1 + 1) (by omega) hL
 have CN3 := p9 L (a1 + 1 + 1 + 1) (by omega) hL
 have hx1 := j0 hL (show 0 ≤ a1 by omega)
 have hx2 := j0 hL (show 0 ≤ a1 + 1 + 1 by omega)
 have hx3 := j0 hL (show 0 ≤ a1 + 1 + 1 + 1 by omega)
 have CB1 := E8 ⟨L, a1 + 1, g, su, re, sl, pa, ar, .own ll, bs', ii, U0 (bs'.length + 1)⟩ (by show bs'.length ≤ _; omega)
 have CB2 := E8 ⟨L, a1 + 1 + 1 + 1 + 1, g, su, re, sl, pa, ar, .own ll, bs', ii, E5 (G8 L (a1 + 1)) (bs'.length + 1 + a6 L (a1 + 1 + 1) % (last - bs'.length)) (bs'.length + 1 + a6 L (a1 + 1 + 1 + 1) % (last - bs'.length))⟩ (by show bs'.length ≤ _; omega)
 have er1 : ¬ a6 L a1 % 2 = 0 → (SI (i + 1)).rows = (MS.block ⟨L, a1 + 1, g, su, re, sl, pa, ar, .own ll, bs', ii, U0 (bs'.length + 1)⟩).rows := fun hp => by rw [ej, e0]; unfold MS.gG; simp only; rw [f]; simp only; rw [if_neg hp]
 have er2 : a6 L a1 % 2 = 0 → (SI (i + 1)).rows = (MS.block ⟨L, a1 + 1 + 1 + 1 + 1, g, su, re, sl, pa, ar, .own ll, bs', ii, E5 (G8 L (a1 + 1)) (bs'.length + 1 + a6 L (a1 + 1 + 1) % (last - bs'.length)) (bs'.length + 1 + a6 L (a1 + 1 + 1 + 1) % (last - bs'.length))⟩).rows := fun hp => by rw [ej, e0]; unfold MS.gG; simp only; rw [f]; simp only; rw [if_pos hp]
 have hR3 : i = n.toNat → R = (MS.rows ⟨L, a1, g, su, re, sl, pa, ar, .own ll, bs', ii, U4⟩) := fun hp => by rw [hR2, ← hp, e0, f]
 have elen : (SI (i + 1)).bs.length = bs'.length + 1 := by
   rw [hSI]
   obtain ⟨_, _, e', _, _, e4⟩ := U6 last ⟨L, at_, g, su, re, sl, pa, ar, .own ll, (bs ++ [⟨li, t⟩]), .nil, U4⟩ hL h0.1 rfl rfl (i + 1)
   rw [e']
   simp only [List.length_append, List.length_cons, List.length_nil] at e4 ⊢
   omega
 obtain ⟨R1, hR1⟩ : ∃ R1, R1 = (SI (i + 1)).rows := ⟨_, rfl⟩
 rw [← hR1] at er1 er2 ⊢
 rw [elen, e0]
 clear f ej e e0 hSI hR2 elen hR1
 subst hlast
 generalize a6 L a1 = x1 at *
 generalize a6 L (a1 + 1 + 1) = x2 at *
 generalize a6 L (a1 + 1 + 1 + 1) = x3 at *
 generalize G8 L (a1 + 1) = d at *
 obtain ⟨dk, dn, dv⟩ := d
 cases ii
 all_goals simp only [MS.rows, MS.block, W7, j3, B9, J8.av, U0, E5, O0, b9, j4.cell, j4.rows, j4.l, j4.k, s6.cell, s6.rows, s6.l, List.cons_append, List.nil_append, List.append_nil, List.length_cons, List.length_nil, Nat.reduceAdd] at CI CR CB1 CB2 er1 er2 hR3 ⊢
 all_goals simp only [u2.av] at CB1 CB2
 all_goals have hq2 := dB x2 (((bs.length + 1 : Nat) : Int) + n - bs'.length) hx2.1
 all_goals have hq3 := dB x3 (((bs.length + 1 : Nat) : Int) + n - bs'.length) hx3.1
 all_goals by_cases hp : x1 % 2 = 0
 · repeat' (first | refine Zl ?_ | (with_reducible first | refine Zz.mk fun N hN mk hmk => ?_ | refine Zb.mk fun N hN => ?_ | refine Zi.mk fun h => ?_ | refine ⟨fun h => ?_, fun h => ?_⟩ | exact True.intro) | (refine Zp CI [0, 1, 2] (Zq P6.d hp) ?_; with_reducible intro _ _) | refine Ze CN1 ?_ | refine Ze CR ?_ | refine Ze CN2 ?_ | refine Ze CN3 ?_ | (refine Zp CB2 [0, 36, 37] (Zq P6.d hp) ?_; with_reducible intro _ _) | (refine hN _ ?_; clear hN N) | (refine Zk hmk ?_; clear hmk mk) | refine Zt (Zq P6.d hp) ?_ | fail)
   · refine Zw [0,5,6] [0, 436, 437] (Zq P6.d hp) ?_
     rw [er2 hp]
     simp only [j3, List.cons_append, List.nil_append, List.length_cons, List.length_nil, Nat.reduceAdd, show ((bs'.length + 1 : Nat) : Int) = bs'.length + 1 from rfl]
   · rw [hR3 (by omega)]
     refine Zr (()) [0, 36, 37] (Zq P6.d hp) ?_
     trivial
 · repeat' (first | refine Zl ?_ | (with_reducible first | refine Zz.mk fun N hN mk hmk => ?_ | refine Zb.mk fun N hN => ?_ | refine Zi.mk fun h => ?_ | refine ⟨fun h => ?_, fun h => ?_⟩ | exact True.intro) | (refine Zp CI [0, 1, 2] (Zq P6.d hp) ?_; with_reducible intro _ _) | refine Ze CN1 ?_ | (refine Zp CB1 [0, 36, 37] (Zq P6.d hp) ?_; with_reducible intro _ _) | (refine hN _ ?_; clear hN N) | (refine Zk hmk ?_; clear hmk mk) | refine Zt (Zq P6.d hp) ?_ | fail)
   · refine Zw [0,5,6] [0, 188, 189] (Zq P6.d hp) ?_
     rw [er1 hp]
     simp only [j3, List.cons_append, List.nil_append, List.length_cons, List.length_nil, Nat.reduceAdd, show ((bs'.length + 1 : Nat) : Int) = bs'.length + 1 from rfl]
   · rw [hR3 (by omega)]
     refine Zr (()) [0, 36, 37] (Zq P6.d hp) ?_
     trivial
 · repeat' (first | refine Zl ?_ | (with_reducible first | refine Zz.mk fun N hN mk hmk => ?_ | refine Zb.mk fun N hN => ?_ | refine Zi.mk fun h => ?_ | refine ⟨fun h => ?_, fun h => ?_⟩ | exact True.intro) | (refine Zp CI [0, 1, 2] (Zq P6.d hp) ?_; with_reducible intro _ _) | refine Ze CN1 ?_ | refine Ze CR ?_ | refine Ze CN2 ?_ | refine Ze CN3 ?_ | (refine Zp CB2 [0, 36, 37, 38] (Zq P6.d hp) ?_; with_reducible intro _ _) | (refine hN _ ?_; clear hN N) | (refine Zk hmk ?_; clear hmk mk) | refine Zt (Zq P6.d hp) ?_ | fail)
   · refine Zw [0,5,6] [0, 436, 437] (Zq P6.d hp) ?_
     rw [er2 hp]
     simp only [j3, List.cons_append, List.nil_append, List.length_cons, List.length_nil, Nat.reduceAdd, show ((bs'.length + 1 : Nat) : Int) = bs'.length + 1 from rfl]
   · rw [hR3 (by omega)]
     refine Zr (()) [0, 36, 37, 38] (Zq P6.d hp) ?_
     trivial
 · repeat' (first | refine Zl ?_ | (with_reducible first | refine Zz.mk fun N hN mk hmk => ?_ | refine Zb.mk fun N hN => ?_ | refine Zi.mk fun h => ?_ | refine ⟨fun h => ?_, fun h => ?_⟩ | exact True.intro) | (refine Zp CI [0, 1, 2] (Zq P6.d hp) ?_; with_reducible intro _ _) | refine Ze CN1 ?_ | (refine Zp CB1 [0, 36, 37, 38] (Zq P6.d hp) ?_; with_reducible intro _ _) | (refine hN _ ?_; clear hN N) | (refine Zk hmk ?_; clear hmk mk) | refine Zt (Zq P6.d hp) ?_ | fail)
   · refine Zw [0,5,6] [0, 188, 189] (Zq P6.d hp) ?_
     rw [er1 hp]
     simp only [j3, List.cons_append, List.nil_append, List.length_cons, List.length_nil, Nat.reduceAdd, show ((bs'.length + 1 : Nat) : Int) = bs'.length + 1 from rfl]
   · rw [hR3 (by omega)]
     refine Zr (()) [0, 36, 37, 38] (Zq P6.d hp) ?_
     trivial
theorem a0r (S : MS) (n : Int) (hn : 0 ≤ n ∧ n ≤ 2) (h : gI S 600000) (hb : S.bs.length ≤ 800) : B2 Tryd.prog 32 [.ptr 0 0 0, .v (.int .i64 n)] S.rows 1 (fun _ : Unit => True) (fun _ => .Q8 []) (fun _ => (S.region n).rows) := by
 obtain ⟨L, at_, g, su, re, sl, pa, ar, lo, bs, ii, t⟩ := S
 have hb2 : bs.length + 2 ≤ 900 := by have : bs.length ≤ 800 := hb; omega
 clear hb
 cases lo with
 | nil => cases ii with
   | nil => exact a86 L at_ g su re sl pa ar bs t n hn h hb2
   | own li => exact a88 L at_ g su re sl pa ar li bs t n hn h hb2
 | own ll => cases ii with
   | nil => exact a89 L at_ g su re sl pa ar ll bs t n hn h hb2
   | own li => exact a9a L at_ g su re sl pa ar ll li bs t n hn h hb2
theorem vY (L : List Int) (at_ g su re sl pa : Int) (ar : List fL) (n : Int) (hn : 0 ≤ n ∧ n ≤ 2) (h : gI ⟨L, at_, g, su, re, sl, pa, ar, .nil, [], .nil, U4⟩ 600000) : B2 Tryd.prog 32 [.ptr 0 0 0, .v (.int .i64 n)] (Y4 L at_ g su re sl pa ar) 1 (fun _ : Unit => True) (fun _ => .Q8 []) (fun _ => (MS.fC ⟨L, at_, g, su, re, sl, pa, ar, .nil, [], .nil, U4⟩ n).rows) :=
 b1J L at_ g su re sl pa ar n hn h (by omega)
def li1 (n : Int) : j9 := ⟨1, 0, 0, O5 n, B7 0, O0, O0⟩
def li2 (n b : Int) : j9 := ⟨3, 26, 0, O5 (n + 1), O5 n, B7 b, O0⟩
def lP (n : Int) : j9 := ⟨3, 10, 0, O5 n, O5 n, B7 1, O0⟩
def MS.L6 (S : MS) : Int := 6 + 2 * S.lo.l.length
def MS.cH (S : MS) : Int := ((S.bs.length + 1 : Nat) : Int)
def MS.eV (S : MS) : Int := 1 + a6 S.L S.at_ % 3
def MS.X4 (S : MS) : MS := { S with at_ := S.at_ + 1, re := S.L6 + 2, lo := s6.own (S.lo.l ++ [(⟨S.cH, S.L6, S.eV⟩ : Loop)]), i := j4.own (S.i.l ++ [li1 S.L6]), t := U0 S.cH }.block
def MS.gZ (S : MS) (h n b : Int) : MS := { S with i := j4.own (S.i.l ++ [li2 n b]), t := E5 (O5 (n + 1)) (h + 1) (h + 2) }.block
def MS.uV (S : MS) (n : Int) : MS := (S.put (lP n)).p8
def MS.uW (S : MS) (h : Int) : MS := if a6 S.L S.at_ % 3 = 0 then { S with at_ := S.at_ + 1 + 1, t := E5 (G8 S.L (S.at_ + 1)) h (h + 2) } else { S with at_ := S.at_ + 1, t := U0 h }
def MS.loop (S : MS) : MS := ((S.X4.gZ S.cH S.L6 S.eV).uV S.L6).uW S.cH
def MS.jD (S : MS) : List Row := S.loop.rows
theorem b02 (S : MS) (l : List j9) (h : S.i = .own l) : ∀ i : Nat, ∃ l', (S.iter i).i = .own l' := by
 intro i
 cases i with
 | zero => exact ⟨l, h⟩
 | succ i =>
   obtain ⟨_, l', e, _⟩ := pG (S.iter i)
   exact ⟨l', by show (S.iter i).inst.i = _; rw [e]⟩
theorem gV (S : MS) (l : List j9) (hi : S.i = .own l) (hL : A5 S.L) (h0 : 0 ≤ S.at_) : ∃ a l', S.p8 = ⟨S.L, a, S.g, S.su, S.re, S.sl, S.pa, S.ar, S.lo, S.bs, .own l', S.t⟩ ∧ S.at_ + 1 ≤ a ∧ a ≤ S.at_ + 33 ∧ l'.length ≤ l.length + 8 := by
 obtain ⟨a, ii, e, h1, h2, h3⟩ := L1 S hL h0
 obtain ⟨l', e'⟩ := b02 { S with at_ := S.at_ + 1 } l hi (a6 S.L S.at_ % 5).toNat
 have e2 : S.p8.i = .own l' := e'
 rw [e] at e2
 cases e2
 rw [hi] at h3
 exact ⟨a, l', e, h1, h2, h3⟩
theorem jN (l : List c5) (b : c5) (e : List AV) : (E0 (l ++ [b]) ++ [e])[l.length + 1]? = some e := by rw [← b9 l b, v7]
theorem nC (l : List c5) (b c : c5) (e : List AV) : (E0 (l ++ [b] ++ [c]) ++ [e])[l.length + 1 + 1]? = some e := by rw [← b9 l b, jN]
theorem gM (l : List c5) (b : c5) (e : List AV) (f : List AV → List AV) : (E0 (l ++ [b]) ++ [e]).modify (l.length + 1) f = E0 (l ++ [b]) ++ [f e] := by rw [← b9 l b, w9]
theorem kH (l : List c5) (b c : c5) (e : List AV) (f : List AV → List AV) : (E0 (l ++ [b] ++ [c]) ++ [e]).modify (l.length + 1 + 1) f = E0 (l ++ [b] ++ [c]) ++ [f e] := by rw [← b9 l b, gM]
theorem a05 (n : Int) : (li1 n).av = [.v (.int .i64 1), .v (.int .i64 0), .v (.int .i64 0), .v (.int .i64 2), .v (.int .i64 n), .v (.int .i32 0), .v (.int .i64 1), .v (.int .i64 0), .v (.int .i32 0), .v (.int .i64 0), .v (.int .i64 0), .v (.int .i32 0), .v (.int .i64 0), .v (.int .i64 0), .v (.int .i32 0)] := rfl
theorem a06 (n b : Int) : (li2 n b).av = [.v (.int .i64 3), .v (.int .i64 26), .v (.int .i64 0), .v (.int .i64 2), .v (.int .i64 (n + 1)), .v (.int .i32 0), .v (.int .i64 2), .v (.int .i64 n), .v (.int .i32 0), .v (.int .i64 1), .v (.int .i64 0), .v (.int .i32 b), .v (.int .i64 0), .v (.int .i64 0), .v (.int .i32 0)] := rfl
theorem a07 (n : Int) : (lP n).av = [.v (.int .i64 3), .v (.int .i64 10), .v (.int .i64 0), .v (.int .i64 2), .v (.int .i64 n), .v (.int .i32 0), .v (.int .i64 2), .v (.int .i64 n), .v (.int .i32 0), .v (.int .i64 1), .v (.int .i64 0), .v (.int .i32 1), .v (.int .i64 0), .v (.int .i64 0), .v (.int .i32 0)] := rfl
theorem kQ (h : Int) : (U0 h).av = (⟨1, 0, ⟨0, 0, 0⟩, ⟨0, 0, 0⟩, ⟨0, 0, 0⟩, h, 0⟩ : u2).av := rfl
theorem nP (h : Int) : (U0 h).av = [.v (.int .i64 1), .v (.int .i64 0), .v (.int .i64 0), .v (.int .i64 0), .v (.int .i32 0), .v (.int .i64 0), .v (.int .i64 0), .v (.int .i32 0), .v (.int .i64 0), .v (.int .i64 0), .v (.int .i32 0), .v (.int .i64 h), .v (.int .i64 0)] := rfl
theorem iM (n x y : Int) : (E5 (O5 n) x y).av = [.v (.int .i64 2), .v (.int .i64 0), .v (.int .i64 0), .v (.int .i64 0), .v (.int .i32 0), .v (.int .i64 2), .v (.int .i64 n), .v (.int .i32 0), .v (.int .i64 0), .v (.int .i64 0), .v (.int .i32 0), .v (.int .i64 x), .v (.int .i64 y)] := rfl
theorem iN (d : J8) (x y : Int) : (E5 d x y).av = [.v (.int .i64 2), .v (.int .i64 0), .v (.int .i64 0), .v (.int .i64 0), .v (.int .i32 0), .v (.int .i64 d.k), .v (.int .i64 d.n), .v (.int .i32 d.v), .v (.int .i64 0), .v (.int .i64 0), .v (.int .i32 0), .v (.int .i64 x), .v (.int .i64 y)] := rfl
theorem jC (n : Nat) : (n : Int) + 1 = ((n + 1 : Nat) : Int) := rfl
theorem a6Y (n : Nat) : ((n + 1 + 1 : Nat) : Int) - 1 = ((n + 1 : Nat) : Int) := by omega
end Go.Proofs.YtfccigmfcpimgaaDoor
end
