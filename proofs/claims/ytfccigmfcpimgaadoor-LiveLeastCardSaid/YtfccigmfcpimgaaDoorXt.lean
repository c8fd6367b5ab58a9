/- Own work (by an AI agent; no person has read it): part of a proof of the seat YtfccigmfcpimgaaDoor. -/
import Derived.Test.YtfccigmfcpimgaaDoorXs
set_option linter.unusedSimpArgs false
set_option linter.unusedVariables false
set_option maxRecDepth 100000
set_option maxHeartbeats 10000000
section
namespace Go.Proofs.YtfccigmfcpimgaaDoor
open Go.Ab
def a0F := ZZ.mk (Zq @B9 (Zq @E4 (Zq @S6 (Zq @E4 (Zq @v7 (Zq @w9 (Zq @b8 (Zq @m6 (Zq @u4 (Zq @l0 (Zq @c9 (Zq @m7 (Zq @y0 (Zq @p0 (Zq @o7 (Zq @y3 (Zq @n5 (Zq @y5 (Zq @y4 (Zq @x8 (Zq @x7 (Zq @o5 (Zq @b5 (Zq @b6 (Zq @A7 (Zq @J5 (Zq @v8 (Zq @u9 @p7))))))))))))))))))))))))))))
def O9 := ZZ.mk (Zq @B9 (Zq @B6 (Zq @O0.eq_1 (Zq @b9 (Zq @E4 (Zq @S6 (Zq @E4 (Zq @v7 (Zq @w9 (Zq @b8 (Zq @m6 (Zq @u4 (Zq @l0 (Zq @c9 (Zq @m7 (Zq @y0 (Zq @p0 (Zq @o7 (Zq @y3 (Zq @n5 (Zq @y5 (Zq @y4 (Zq @x8 (Zq @x7 (Zq @o5 (Zq @b5 (Zq @b6 (Zq @A7 (Zq @J5 (Zq @v8 (Zq @u9 @p7)))))))))))))))))))))))))))))))
theorem a86 (L : List Int) (at_ g su re sl pa : Int) (ar : List fL) (bs : List c5) (t : u2) (n : Int) (hn : 0 ≤ n ∧ n ≤ 2) (h : gI ⟨L, at_, g, su, re, sl, pa, ar, .nil, bs, .nil, t⟩ 600000) (hb : bs.length + 2 ≤ 900) : B2 Tryd.prog 32 [.ptr 0 0 0, .v (.int .i64 n)] (MS.rows ⟨L, at_, g, su, re, sl, pa, ar, .nil, bs, .nil, t⟩) 1 (fun _ : Unit => True) (fun _ => .Q8 []) (fun _ => MS.Q1 ⟨L, at_, g, su, re, sl, pa, ar, .nil, (bs ++ [⟨[], t⟩]), .nil, U4⟩ n) := by
 obtain ⟨hL, h0, hb0, hi, ha, hal⟩ := h
 simp only at hL h0 ha hal
 clear hb0 hi
 have CB0 := E8 ⟨L, at_, g, su, re, sl, pa, ar, .nil, bs, .nil, t⟩ (by show bs.length ≤ 1000; omega)
 obtain ⟨last, hlast⟩ : ∃ last : Int, last = ((bs.length + 1 : Nat) : Int) + n := ⟨_, rfl⟩
 obtain ⟨SI, hSI⟩ : ∃ SI, SI = MS.fB last ⟨L, at_, g, su, re, sl, pa, ar, .nil, (bs ++ [⟨[], t⟩]), .nil, U4⟩ := ⟨_, rfl⟩
 have hR : MS.Q1 ⟨L, at_, g, su, re, sl, pa, ar, .nil, (bs ++ [⟨[], t⟩]), .nil, U4⟩ n = (SI n.toNat).p8.rows := by rw [hSI, hlast]; unfold MS.Q1 MS.fC; simp only [List.length_append, List.length_cons, List.length_nil, Nat.zero_add, Nat.reduceAdd]
 obtain ⟨R, hR2⟩ : ∃ R : List Row, R = MS.Q1 ⟨L, at_, g, su, re, sl, pa, ar, .nil, (bs ++ [⟨[], t⟩]), .nil, U4⟩ n := ⟨_, rfl⟩
 rw [← hR2]
 rw [hR] at hR2
 clear hR
 simp only [MS.rows, MS.block, Y4, b9, j4.cell, j4.rows, j4.l, j4.k, s6.cell, s6.rows, s6.l, List.cons_append, List.nil_append, List.append_nil] at CB0
 simp only [MS.rows, Y4, j4.cell, j4.rows, j4.l, j4.k, s6.cell, s6.rows, s6.l, List.cons_append, List.nil_append, List.append_nil]; refine Zf Tryd.func32 Tryd.ntmps32 ?_
 repeat' (first | refine Zl ?_ | (with_reducible first | refine Zz.mk fun N hN mk hmk => ?_ | refine Zb.mk fun N hN => ?_ | refine Zi.mk fun h => ?_ | refine ⟨fun h => ?_, fun h => ?_⟩ | exact True.intro) | (refine Zp CB0 [0, 1] a0F.d ?_; with_reducible intro _ _) | (refine hN _ ?_; clear hN N) | (refine Zk hmk ?_; clear hmk mk) | refine Zt a0F.d ?_ | fail)
 refine l9 (fun i => ⟨[.ptr 0 0 0, .dead, .dead, .dead, .dead, .v (.int .i64 (((bs.length + 1 : Nat) : Int) + n)), .v (.int .i64 (SI i).bs.length), .dead, .dead, .dead, .dead, .dead, .dead, .dead, .dead, .dead, .dead, .dead, .dead, .dead, .dead, .dead, .dead, .dead, .dead, .dead, .dead, .dead, .dead, .dead, .dead, .dead, .dead, .dead, .dead, .dead, .dead, .dead, .dead, .dead, .dead, .dead, .dead, .dead, .dead, .dead, .dead, .dead, .dead, .dead, .dead, .dead, .dead, .dead, .dead, .dead, .dead, .dead, .dead, .dead, .dead, .dead, .dead, .dead, .dead, .dead, .dead, .dead, .dead, .dead, .dead, .dead, .dead, .dead, .dead, .dead, .dead], W7 (SI i).rows, ((SI i).rows.length + 1)⟩) n.toNat (Zw [0,5,6] [0, 16] a0F.d ?_) ?_
 · rw [hSI]; simp only [MS.fB, MS.rows, W7, j3, B9, S6, b9, j4.cell, j4.rows, j4.l, j4.k, s6.cell, s6.rows, s6.l, List.cons_append, List.nil_append, List.append_nil, List.length_cons, List.length_nil, Nat.reduceAdd, Int.natCast_zero, Int.add_zero]
 intro i hi2
 clear CB0
 obtain ⟨a, bs', e, e1, e2, e3⟩ := U6 last ⟨L, at_, g, su, re, sl, pa, ar, .nil, (bs ++ [⟨[], t⟩]), .nil, U4⟩ hL h0.1 rfl rfl i
 have e0 := e
 rw [← hSI] at e0
 have ej : SI (i + 1) = (SI i).gG last := by rw [hSI]; rfl
 have e1 : at_ ≤ a := e1
 have e2 : a ≤ at_ + 37 * i := e2
 simp only [List.length_append, List.length_cons, List.length_nil] at e3
 obtain ⟨a1, ii, f, f1, f2, f3⟩ := L1 ⟨L, a, g, su, re, sl, pa, ar, .nil, bs', .nil, U4⟩ hL (by show 0 ≤ a; omega)
 have f1 : a + 1 ≤ a1 := f1
 have f2 : a1 ≤ a + 33 := f2
 have f3 : ii.l.length ≤ 0 + 8 := f3
 have CI := bL ⟨L, a, g, su, re, sl, pa, ar, .nil, bs', .nil, U4⟩ ⟨hL, by show 0 ≤ a ∧ a ≤ _; omega, by show bs'.length ≤ _; omega, by show ((0 : Nat) : Int) ≤ _; omega, ha, hal⟩
 rw [f] at CI
 simp only at CI f
 have CN1 := p9 L a1 (by omega) hL
 have CR := Y8 L (a1 + 1) (by omega) hL
 have CN2 := p9 L (a1 + 1 + 1) (by omega) hL
 have CN3 := p9 L (a1 + 1 + 1 + 1) (by omega) hL
 have hx1 := j0 hL (show 0 ≤ a1 by omega)
 have hx2 := j0 hL (show 0 ≤ a1 + 1 + 1 by omega)
 have hx3 := j0 hL (show 0 ≤ a1 + 1 + 1 + 1 by omega)
 have CB1 := E8 ⟨L, a1 + 1, g, su, re, sl, pa, ar, .nil, bs', ii, U0 (bs'.length + 1)⟩ (by show bs'.length ≤ _; omega)
 have CB2 := E8 ⟨L, a1 + 1 + 1 + 1 + 1, g, su, re, sl, pa, ar, .nil, bs', ii, E5 (G8 L (a1 + 1)) (bs'.length + 1 + a6 L (a1 + 1 + 1) % (last - bs'.length)) (bs'.length + 1 + a6 L (a1 + 1 + 1 + 1) % (last - bs'.length))⟩ (by show bs'.length ≤ _; omega)
 have er1 : ¬ a6 L a1 % 2 = 0 → (SI (i + 1)).rows = (MS.block ⟨L, a1 + 1, g, su, re, sl, pa, ar, .nil, bs', ii, U0 (bs'.length + 1)⟩).rows := fun hp => by rw [ej, e0]; unfold MS.gG; simp only; rw [f]; simp only; rw [if_neg hp]
 have er2 : a6 L a1 % 2 = 0 → (SI (i + 1)).rows = (MS.block ⟨L, a1 + 1 + 1 + 1 + 1, g, su, re, sl, pa, ar, .nil, bs', ii, E5 (G8 L (a1 + 1)) (bs'.length + 1 + a6 L (a1 + 1 + 1) % (last - bs'.length)) (bs'.length + 1 + a6 L (a1 + 1 + 1 + 1) % (last - bs'.length))⟩).rows := fun hp => by rw [ej, e0]; unfold MS.gG; simp only; rw [f]; simp only; rw [if_pos hp]
 have hR3 : i = n.toNat → R = (MS.rows ⟨L, a1, g, su, re, sl, pa, ar, .nil, bs', ii, U4⟩) := fun hp => by rw [hR2, ← hp, e0, f]
 have elen : (SI (i + 1)).bs.length = bs'.length + 1 := by
   rw [hSI]
   obtain ⟨_, _, e', _, _, e4⟩ := U6 last ⟨L, at_, g, su, re, sl, pa, ar, .nil, (bs ++ [⟨[], t⟩]), .nil, U4⟩ hL h0.1 rfl rfl (i + 1)
   rw [e']
   simp only [List.length_append, List.length_cons, List.length_nil] at e4 ⊢
   omega
 obtain ⟨R1, hR1⟩ : ∃ R1, R1 = (SI (i + 1)).rows := ⟨_, rfl⟩
 rw [← hR1] at er1 er2 ⊢
 rw [elen, e0]
 clear f ej e e0 hSI hR2 elen hR1
 subst hlast
 generalize a6 L a1 = x1 at *
 generalize a6 L (a1 + 1 + 1) = x2 at *
 generalize a6 L (a1 + 1 + 1 + 1) = x3 at *
 generalize G8 L (a1 + 1) = d at *
 obtain ⟨dk, dn, dv⟩ := d
 cases ii
 all_goals simp only [MS.rows, MS.block, W7, j3, B9, J8.av, U0, E5, O0, b9, j4.cell, j4.rows, j4.l, j4.k, s6.cell, s6.rows, s6.l, List.cons_append, List.nil_append, List.append_nil, List.length_cons, List.length_nil, Nat.reduceAdd] at CI CR CB1 CB2 er1 er2 hR3 ⊢
 all_goals simp only [u2.av] at CB1 CB2
 all_goals have hq2 := dB x2 (((bs.length + 1 : Nat) : Int) + n - bs'.length) hx2.1
 all_goals have hq3 := dB x3 (((bs.length + 1 : Nat) : Int) + n - bs'.length) hx3.1
 all_goals by_cases hp : x1 % 2 = 0
 · repeat' (first | refine Zl ?_ | (with_reducible first | refine Zz.mk fun N hN mk hmk => ?_ | refine Zb.mk fun N hN => ?_ | refine Zi.mk fun h => ?_ | refine ⟨fun h => ?_, fun h => ?_⟩ | exact True.intro) | (refine Zp CI [0, 1] (Zq O9.d hp) ?_; with_reducible intro _ _) | refine Ze CN1 ?_ | refine Ze CR ?_ | refine Ze CN2 ?_ | refine Ze CN3 ?_ | (refine Zp CB2 [0, 35] (Zq O9.d hp) ?_; with_reducible intro _ _) | (refine hN _ ?_; clear hN N) | (refine Zk hmk ?_; clear hmk mk) | refine Zt (Zq O9.d hp) ?_ | fail)
   · refine Zw [0,5,6] [0, 435] (Zq O9.d hp) ?_
     rw [er2 hp]
     simp only [j3, List.cons_append, List.nil_append, List.length_cons, List.length_nil, Nat.reduceAdd, show ((bs'.length + 1 : Nat) : Int) = bs'.length + 1 from rfl]
   · rw [hR3 (by omega)]
     refine Zr (()) [0, 35] (Zq O9.d hp) ?_
     trivial
 · repeat' (first | refine Zl ?_ | (with_reducible first | refine Zz.mk fun N hN mk hmk => ?_ | refine Zb.mk fun N hN => ?_ | refine Zi.mk fun h => ?_ | refine ⟨fun h => ?_, fun h => ?_⟩ | exact True.intro) | (refine Zp CI [0, 1] (Zq O9.d hp) ?_; with_reducible intro _ _) | refine Ze CN1 ?_ | (refine Zp CB1 [0, 35] (Zq O9.d hp) ?_; with_reducible intro _ _) | (refine hN _ ?_; clear hN N) | (refine Zk hmk ?_; clear hmk mk) | refine Zt (Zq O9.d hp) ?_ | fail)
   · refine Zw [0,5,6] [0, 187] (Zq O9.d hp) ?_
     rw [er1 hp]
     simp only [j3, List.cons_append, List.nil_append, List.length_cons, List.length_nil, Nat.reduceAdd, show ((bs'.length + 1 : Nat) : Int) = bs'.length + 1 from rfl]
   · rw [hR3 (by omega)]
     refine Zr (()) [0, 35] (Zq O9.d hp) ?_
     trivial
 · repeat' (first | refine Zl ?_ | (with_reducible first | refine Zz.mk fun N hN mk hmk => ?_ | refine Zb.mk fun N hN => ?_ | refine Zi.mk fun h => ?_ | refine ⟨fun h => ?_, fun h => ?_⟩ | exact True.intro) | (refine Zp CI [0, 1] (Zq O9.d hp) ?_; with_reducible intro _ _) | refine Ze CN1 ?_ | refine Ze CR ?_ | refine Ze CN2 ?_ | refine Ze CN3 ?_ | (refine Zp CB2 [0, 35, 36] (Zq O9.d hp) ?_; with_reducible intro _ _) | (refine hN _ ?_; clear hN N) | (refine Zk hmk ?_; clear hmk mk) | refine Zt (Zq O9.d hp) ?_ | fail)
   · refine Zw [0,5,6] [0, 435] (Zq O9.d hp) ?_
     rw [er2 hp]
     simp only [j3, List.cons_append, List.nil_append, List.length_cons, List.length_nil, Nat.reduceAdd, show ((bs'.length + 1 : Nat) : Int) = bs'.length + 1 from rfl]
   · rw [hR3 (by omega)]
     refine Zr (()) [0, 35, 36] (Zq O9.d hp) ?_
     trivial
 · repeat' (first | refine Zl ?_ | (with_reducible first | refine Zz.mk fun N hN mk hmk => ?_ | refine Zb.mk fun N hN => ?_ | refine Zi.mk fun h => ?_ | refine ⟨fun h => ?_, fun h => ?_⟩ | exact True.intro) | (refine Zp CI [0, 1] (Zq O9.d hp) ?_; with_reducible intro _ _) | refine Ze CN1 ?_ | (refine Zp CB1 [0, 35, 36] (Zq O9.d hp) ?_; with_reducible intro _ _) | (refine hN _ ?_; clear hN N) | (refine Zk hmk ?_; clear hmk mk) | refine Zt (Zq O9.d hp) ?_ | fail)
   · refine Zw [0,5,6] [0, 187] (Zq O9.d hp) ?_
     rw [er1 hp]
     simp only [j3, List.cons_append, List.nil_append, List.length_cons, List.length_nil, Nat.reduceAdd, show ((bs'.length + 1 : Nat) : Int) = bs'.length + 1 from rfl]
   · rw [hR3 (by omega)]
     refine Zr (()) [0, 35, 36] (Zq O9.d hp) ?_
     trivial
def a0G := ZZ.mk (Zq @B9 (Zq @E4 (Zq @S6 (Zq @E4 (Zq @v7 (Zq @w9 (Zq @b8 (Zq @m6 (Zq @u4 (Zq @l0 (Zq @c9 (Zq @m7 (Zq @y0 (Zq @p0 (Zq @o7 (Zq @y3 (Zq @n5 (Zq @y5 (Zq @y4 (Zq @x8 (Zq @x7 (Zq @o5 (Zq @b5 (Zq @b6 (Zq @A7 (Zq @J5 (Zq @v8 (Zq @u9 @p7))))))))))))))))))))))))))))
def P0 := ZZ.mk (Zq @B9 (Zq @B6 (Zq @O0.eq_1 (Zq @b9 (Zq @E4 (Zq @S6 (Zq @E4 (Zq @v7 (Zq @w9 (Zq @b8 (Zq @m6 (Zq @u4 (Zq @l0 (Zq @c9 (Zq @m7 (Zq @y0 (Zq @p0 (Zq @o7 (Zq @y3 (Zq @n5 (Zq @y5 (Zq @y4 (Zq @x8 (Zq @x7 (Zq @o5 (Zq @b5 (Zq @b6 (Zq @A7 (Zq @J5 (Zq @v8 (Zq @u9 @p7)))))))))))))))))))))))))))))))
theorem a88 (L : List Int) (at_ g su re sl pa : Int) (ar : List fL) (li : List j9) (bs : List c5) (t : u2) (n : Int) (hn : 0 ≤ n ∧ n ≤ 2) (h : gI ⟨L, at_, g, su, re, sl, pa, ar, .nil, bs, .own li, t⟩ 600000) (hb : bs.length + 2 ≤ 900) : B2 Tryd.prog 32 [.ptr 0 0 0, .v (.int .i64 n)] (MS.rows ⟨L, at_, g, su, re, sl, pa, ar, .nil, bs, .own li, t⟩) 1 (fun _ : Unit => True) (fun _ => .Q8 []) (fun _ => MS.Q1 ⟨L, at_, g, su, re, sl, pa, ar, .nil, (bs ++ [⟨li, t⟩]), .nil, U4⟩ n) := by
 obtain ⟨hL, h0, hb0, hi, ha, hal⟩ := h
 simp only at hL h0 ha hal
 clear hb0 hi
 have CB0 := E8 ⟨L, at_, g, su, re, sl, pa, ar, .nil, bs, .own li, t⟩ (by show bs.length ≤ 1000; omega)
 obtain ⟨last, hlast⟩ : ∃ last : Int, last = ((bs.length + 1 : Nat) : Int) + n := ⟨_, rfl⟩
 obtain ⟨SI, hSI⟩ : ∃ SI, SI = MS.fB last ⟨L, at_, g, su, re, sl, pa, ar, .nil, (bs ++ [⟨li, t⟩]), .nil, U4⟩ := ⟨_, rfl⟩
 have hR : MS.Q1 ⟨L, at_, g, su, re, sl, pa, ar, .nil, (bs ++ [⟨li, t⟩]), .nil, U4⟩ n = (SI n.toNat).p8.rows := by rw [hSI, hlast]; unfold MS.Q1 MS.fC; simp only [List.length_append, List.length_cons, List.length_nil, Nat.zero_add, Nat.reduceAdd]
 obtain ⟨R, hR2⟩ : ∃ R : List Row, R = MS.Q1 ⟨L, at_, g, su, re, sl, pa, ar, .nil, (bs ++ [⟨li, t⟩]), .nil, U4⟩ n := ⟨_, rfl⟩
 rw [← hR2]
 rw [hR] at hR2
 clear hR
 simp only [MS.rows, MS.block, Y4, b9, j4.cell, j4.rows, j4.l, j4.k, s6.cell, s6.rows, s6.l, List.cons_append, List.nil_append, List.append_nil] at CB0
 simp only [MS.rows, Y4, j4.cell, j4.rows, j4.l, j4.k, s6.cell, s6.rows, s6.l, List.cons_append, List.nil_append, List.append_nil]; refine Zf Tryd.func32 Tryd.ntmps32 ?_
 repeat' (first | refine Zl ?_ | (with_reducible first | refine Zz.mk fun N hN mk hmk => ?_ | refine Zb.mk fun N hN => ?_ | refine Zi.mk fun h => ?_ | refine ⟨fun h => ?_, fun h => ?_⟩ | exact True.intro) | (refine Zp CB0 [0, 1, 2] a0G.d ?_; with_reducible intro _ _) | (refine hN _ ?_; clear hN N) | (refine Zk hmk ?_; clear hmk mk) | refine Zt a0G.d ?_ | fail)
 refine l9 (fun i => ⟨[.ptr 0 0 0, .dead, .dead, .dead, .dead, .v (.int .i64 (((bs.length + 1 : Nat) : Int) + n)), .v (.int .i64 (SI i).bs.length), .dead, .dead, .dead, .dead, .dead, .dead, .dead, .dead, .dead, .dead, .dead, .dead, .dead, .dead, .dead, .dead, .dead, .dead, .dead, .dead, .dead, .dead, .dead, .dead, .dead, .dead, .dead, .dead, .dead, .dead, .dead, .dead, .dead, .dead, .dead, .dead, .dead, .dead, .dead, .dead, .dead, .dead, .dead, .dead, .dead, .dead, .dead, .dead, .dead, .dead, .dead, .dead, .dead, .dead, .dead, .dead, .dead, .dead, .dead, .dead, .dead, .dead, .dead, .dead, .dead, .dead, .dead, .dead, .dead, .dead], W7 (SI i).rows, ((SI i).rows.length + 1)⟩) n.toNat (Zw [0,5,6] [0, 16] a0G.d ?_) ?_
 · rw [hSI]; simp only [MS.fB, MS.rows, W7, j3, B9, S6, b9, j4.cell, j4.rows, j4.l, j4.k, s6.cell, s6.rows, s6.l, List.cons_append, List.nil_append, List.append_nil, List.length_cons, List.length_nil, Nat.reduceAdd, Int.natCast_zero, Int.add_zero]
 intro i hi2
 clear CB0
 obtain ⟨a, bs', e, e1, e2, e3⟩ := U6 last ⟨L, at_, g, su, re, sl, pa, ar, .nil, (bs ++ [⟨li, t⟩]), .nil, U4⟩ hL h0.1 rfl rfl i
 have e0 := e
 rw [← hSI] at e0
 have ej : SI (i + 1) = (SI i).gG last := by rw [hSI]; rfl
 have e1 : at_ ≤ a := e1
 have e2 : a ≤ at_ + 37 * i := e2
 simp only [List.length_append, List.length_cons, List.length_nil] at e3
 obtain ⟨a1, ii, f, f1, f2, f3⟩ := L1 ⟨L, a, g, su, re, sl, pa, ar, .nil, bs', .nil, U4⟩ hL (by show 0 ≤ a; omega)
 have f1 : a + 1 ≤ a1 := f1
 have f2 : a1 ≤ a + 33 := f2
 have f3 : ii.l.length ≤ 0 + 8 := f3
 have CI := bL ⟨L, a, g, su, re, sl, pa, ar, .nil, bs', .nil, U4⟩ ⟨hL, by show 0 ≤ a ∧ a ≤ _; omega, by show bs'.length ≤ _; omega, by show ((0 : Nat) : Int) ≤ _; omega, ha, hal⟩
 rw [f] at CI
 simp only at CI f
 have CN1 := p9 L a1 (by omega) hL
 have CR := Y8 L (a1 + 1) (by omega) hL
 have CN2 := p9 L (a1 + 1 + 1) (by omega) hL
 have CN3 := p9 L (a1 + 1 + 1 + 1) (by omega) hL
 have hx1 := j0 hL (show 0 ≤ a1 by omega)
 have hx2 := j0 hL (show 0 ≤ a1 + 1 + 1 by omega)
 have hx3 := j0 hL (show 0 ≤ a1 + 1 + 1 + 1 by omega)
 have CB1 := E8 ⟨L, a1 + 1, g, su, re, sl, pa, ar, .nil, bs', ii, U0 (bs'.length + 1)⟩ (by show bs'.length ≤ _; omega)
 have CB2 := E8 ⟨L, a1 + 1 + 1 + 1 + 1, g, su, re, sl, pa, ar, .nil, bs', ii, E5 (G8 L (a1 + 1)) (bs'.length + 1 + a6 L (a1 + 1 + 1) % (last - bs'.length)) (bs'.length + 1 + a6 L (a1 + 1 + 1 + 1) % (last - bs'.length))⟩ (by show bs'.length ≤ _; omega)
 have er1 : ¬ a6 L a1 % 2 = 0 → (SI (i + 1)).rows = (MS.block ⟨L, a1 + 1, g, su, re, sl, pa, ar, .nil, bs', ii, U0 (bs'.length + 1)⟩).rows := fun hp => by rw [ej, e0]; unfold MS.gG; simp only; rw [f]; simp only; rw [if_neg hp]
 have er2 : a6 L a1 % 2 = 0 → (SI (i + 1)).rows = (MS.block ⟨L, a1 + 1 + 1 + 1 + 1, g, su, re, sl, pa, ar, .nil, bs', ii, E5 (G8 L (a1 + 1)) (bs'.length + 1 + a6 L (a1 + 1 + 1) % (last - bs'.length)) (bs'.length + 1 + a6 L (a1 + 1 + 1 + 1) % (last - bs'.length))⟩).rows := fun hp => by rw [ej, e0]; unfold MS.gG; simp only; rw [f]; simp only; rw [if_pos hp]
 have hR3 : i = n.toNat → R = (MS.rows ⟨L, a1, g, su, re, sl, pa, ar, .nil, bs', ii, U4⟩) := fun hp => by rw [hR2, ← hp, e0, f]
 have elen : (SI (i + 1)).bs.length = bs'.length + 1 := by
   rw [hSI]
   obtain ⟨_, _, e', _, _, e4⟩ := U6 last ⟨L, at_, g, su, re, sl, pa, ar, .nil, (bs ++ [⟨li, t⟩]), .nil, U4⟩ hL h0.1 rfl rfl (i + 1)
   rw [e']
   simp only [List.length_append, List.length_cons, List.length_nil] at e4 ⊢
   omega
 obtain ⟨R1, hR1⟩ : ∃ R1, R1 = (SI (i + 1)).rows := ⟨_, rfl⟩
 rw [← hR1] at er1 er2 ⊢
 rw [elen, e0]
 clear f ej e e0 hSI hR2 elen hR1
 subst hlast
 generalize a6 L a1 = x1 at *
 generalize a6 L (a1 + 1 + 1) = x2 at *
 generalize a6 L (a1 + 1 + 1 + 1) = x3 at *
 generalize G8 L (a1 + 1) = d at *
 obtain ⟨dk, dn, dv⟩ := d
 cases ii
 all_goals simp only [MS.rows, MS.block, W7, j3, B9, J8.av, U0, E5, O0, b9, j4.cell, j4.rows, j4.l, j4.k, s6.cell, s6.rows, s6.l, List.cons_append, List.nil_append, List.append_nil, List.length_cons, List.length_nil, Nat.reduceAdd] at CI CR CB1 CB2 er1 er2 hR3 ⊢
 all_goals simp only [u2.av] at CB1 CB2
 all_goals have hq2 := dB x2 (((bs.length + 1 : Nat) : Int) + n - bs'.length) hx2.1
 all_goals have hq3 := dB x3 (((bs.length + 1 : Nat) : Int) + n - bs'.length) hx3.1
 all_goals by_cases hp : x1 % 2 = 0
 · repeat' (first | refine Zl ?_ | (with_reducible first | refine Zz.mk fun N hN mk hmk => ?_ | refine Zb.mk fun N hN => ?_ | refine Zi.mk fun h => ?_ | refine ⟨fun h => ?_, fun h => ?_⟩ | exact True.intro) | (refine Zp CI [0, 1] (Zq P0.d hp) ?_; with_reducible intro _ _) | refine Ze CN1 ?_ | refine Ze CR ?_ | refine Ze CN2 ?_ | refine Ze CN3 ?_ | (refine Zp CB2 [0, 35] (Zq P0.d hp) ?_; with_reducible intro _ _) | (refine hN _ ?_; clear hN N) | (refine Zk hmk ?_; clear hmk mk) | refine Zt (Zq P0.d hp) ?_ | fail)
   · refine Zw [0,5,6] [0, 435] (Zq P0.d hp) ?_
     rw [er2 hp]
     simp only [j3, List.cons_append, List.nil_append, List.length_cons, List.length_nil, Nat.reduceAdd, show ((bs'.length + 1 : Nat) : Int) = bs'.length + 1 from rfl]
   · rw [hR3 (by omega)]
     refine Zr (()) [0, 35] (Zq P0.d hp) ?_
     trivial
 · repeat' (first | refine Zl ?_ | (with_reducible first | refine Zz.mk fun N hN mk hmk => ?_ | refine Zb.mk fun N hN => ?_ | refine Zi.mk fun h => ?_ | refine ⟨fun h => ?_, fun h => ?_⟩ | exact True.intro) | (refine Zp CI [0, 1] (Zq P0.d hp) ?_; with_reducible intro _ _) | refine Ze CN1 ?_ | (refine Zp CB1 [0, 35] (Zq P0.d hp) ?_; with_reducible intro _ _) | (refine hN _ ?_; clear hN N) | (refine Zk hmk ?_; clear hmk mk) | refine Zt (Zq P0.d hp) ?_ | fail)
   · refine Zw [0,5,6] [0, 187] (Zq P0.d hp) ?_
     rw [er1 hp]
     simp only [j3, List.cons_append, List.nil_append, List.length_cons, List.length_nil, Nat.reduceAdd, show ((bs'.length + 1 : Nat) : Int) = bs'.length + 1 from rfl]
   · rw [hR3 (by omega)]
     refine Zr (()) [0, 35] (Zq P0.d hp) ?_
     trivial
 · repeat' (first | refine Zl ?_ | (with_reducible first | refine Zz.mk fun N hN mk hmk => ?_ | refine Zb.mk fun N hN => ?_ | refine Zi.mk fun h => ?_ | refine ⟨fun h => ?_, fun h => ?_⟩ | exact True.intro) | (refine Zp CI [0, 1] (Zq P0.d hp) ?_; with_reducible intro _ _) | refine Ze CN1 ?_ | refine Ze CR ?_ | refine Ze CN2 ?_ | refine Ze CN3 ?_ | (refine Zp CB2 [0, 35, 36] (Zq P0.d hp) ?_; with_reducible intro _ _) | (refine hN _ ?_; clear hN N) | (refine Zk hmk ?_; clear hmk mk) | refine Zt (Zq P0.d hp) ?_ | fail)
   · refine Zw [0,5,6] [0, 435] (Zq P0.d hp) ?_
     rw [er2 hp]
     simp only [j3, List.cons_append, List.nil_append, List.length_cons, List.length_nil, Nat.reduceAdd, show ((bs'.length + 1 : Nat) : Int) = bs'.length + 1 from rfl]
   · rw [hR3 (by omega)]
     refine Zr (()) [0, 35, 36] (Zq P0.d hp) ?_
     trivial
 · repeat' (first | refine Zl ?_ | (with_reducible first | refine Zz.mk fun N hN mk hmk => ?_ | refine Zb.mk fun N hN => ?_ | refine Zi.mk fun h => ?_ | refine ⟨fun h => ?_, fun h => ?_⟩ | exact True.intro) | (refine Zp CI [0, 1] (Zq P0.d hp) ?_; with_reducible intro _ _) | refine Ze CN1 ?_ | (refine Zp CB1 [0, 35, 36] (Zq P0.d hp) ?_; with_reducible intro _ _) | (refine hN _ ?_; clear hN N) | (refine Zk hmk ?_; clear hmk mk) | refine Zt (Zq P0.d hp) ?_ | fail)
   · refine Zw [0,5,6] [0, 187] (Zq P0.d hp) ?_
     rw [er1 hp]
     simp only [j3, List.cons_append, List.nil_append, List.length_cons, List.length_nil, Nat.reduceAdd, show ((bs'.length + 1 : Nat) : Int) = bs'.length + 1 from rfl]
   · rw [hR3 (by omega)]
     refine Zr (()) [0, 35, 36] (Zq P0.d hp) ?_
     trivial
end Go.Proofs.YtfccigmfcpimgaaDoor
end
