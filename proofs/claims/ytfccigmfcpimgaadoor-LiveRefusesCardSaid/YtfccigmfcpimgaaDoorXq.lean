/- Own work (by an AI agent; no person has read it): part of a proof of the seat YtfccigmfcpimgaaDoor. -/
import Derived.Test.YtfccigmfcpimgaaDoorXp
set_option linter.unusedSimpArgs false
set_option linter.unusedVariables false
set_option maxRecDepth 100000
set_option maxHeartbeats 10000000
section
namespace Go.Proofs.YtfccigmfcpimgaaDoor
open Go.Ab
def I9 := ZZ.mk (Zq @E4 (Zq @v7 (Zq @w9 (Zq @b8 (Zq @m6 (Zq @u4 (Zq @l0 (Zq @c9 (Zq @m7 (Zq @y0 (Zq @p0 (Zq @o7 (Zq @y3 (Zq @n5 (Zq @y5 (Zq @y4 (Zq @x8 (Zq @x7 (Zq @o5 (Zq @b5 (Zq @b6 (Zq @p7 (Zq @J8.av.eq_1 (Zq @B7.eq_1 (Zq @O5.eq_1 @O0.eq_1)))))))))))))))))))))))))
theorem b0P (L : List Int) (at_ g su re sl pa : Int) (ar : List fL) (lo : s6) (ii : j4) (bs : List c5) (t : u2) (h : gI ⟨L, at_, g, su, re, sl, pa, ar, lo, bs, ii, t⟩ 900000) (hc : a6 L at_ % 16 < 3) : B2 Tryd.prog 64 [.ptr 0 0 0] (MS.rows ⟨L, at_, g, su, re, sl, pa, ar, lo, bs, ii, t⟩) 1 (fun _ : Unit => True) (fun _ => .Q8 []) (fun _ => (MS.inst ⟨L, at_, g, su, re, sl, pa, ar, lo, bs, ii, t⟩).rows) := by
 obtain ⟨hL, h0, hb, hi, ha, hal⟩ := h
 dsimp only at hL h0 hb hi ha hal
 have C0 := p9 L at_ (by omega) hL
 have hx := j0 hL h0.1
 have C1 := p9 L (at_ + 1) (by omega) hL
 have hy := j0 hL (show (0 : Int) ≤ at_ + 1 by omega)
 have C2 := Y8 L (at_ + 1 + 1) (by omega) hL
 obtain ⟨x, hxx⟩ : ∃ x, a6 L at_ % 16 = x := ⟨_, rfl⟩
 rw [hxx] at hc
 have f0 : (x < 3) = True := by simp only [eq_iff_iff, iff_true, iff_false]; omega
 have e : MS.inst ⟨L, at_, g, su, re, sl, pa, ar, lo, bs, ii, t⟩ = (⟨L, at_ + 1 + 1 + 1, g, su, re, sl, pa, ar, lo, bs, ii, t⟩ : MS).put (Y0 L at_) := by
   unfold MS.inst gT
   simp only [hxx]
   rw [if_pos (by omega)]
   simp only [f0, if_true, if_false]
 rw [e]
 have e2 : Y0 L at_ = ⟨5, 1 + a6 L (at_ + 1) % 7, 0, G8 L (at_ + 1 + 1), O0, O0, O0⟩ := by
   unfold Y0
   simp only [hxx, f0, if_true, if_false]
 rw [e2]
 clear e e2
 generalize a6 L (at_ + 1) = y at *
 generalize G8 L (at_ + 1 + 1) = d at *
 obtain ⟨dk, dn, dv⟩ := d
 generalize a6 L at_ = z at *
 have CP := U1 ⟨L, at_ + 1 + 1 + 1, g, su, re, sl, pa, ar, lo, bs, ii, t⟩ ⟨5, 1 + y % 7, 0, ⟨dk, dn, dv⟩, O0, O0, O0⟩ (by show bs.length ≤ _; omega) (by first | omega | (dsimp only; omega))
 rcases lo with _ | ll <;> rcases ii with _ | li
 all_goals
   try simp only [j4.l, List.length_nil] at hi
   simp only [MS.rows, MS.put, j4.cell, j4.rows, j4.l, j4.k, s6.cell, s6.rows, s6.l, j9.av, J8.av, B7, O5, O0, List.cons_append, List.nil_append, List.append_nil] at CP
   simp only [MS.rows, MS.put, j4.cell, j4.rows, j4.l, j4.k, s6.cell, s6.rows, s6.l, j9.av, J8.av, B7, O5, O0, List.cons_append, List.nil_append, List.append_nil]; refine Zf Tryd.func64 Tryd.ntmps64 ?_
   repeat' (first | refine Za ?_ | (with_reducible first | refine Zz.mk fun N hN mk hmk => ?_ | refine Zb.mk fun N hN => ?_ | refine Zi.mk fun h => ?_ | refine ⟨fun h => ?_, fun h => ?_⟩ | exact True.intro) | refine Ze C0 ?_ | refine Ze C1 ?_ | refine Ze C2 ?_ | (refine Zp CP [0, 1, 2, 3] (Zq I9.d (Zq hxx f0)) ?_; with_reducible intro _ _) | (refine Zp CP [0, 1, 2] (Zq I9.d (Zq hxx f0)) ?_; with_reducible intro _ _) | (refine Zp CP [0, 1] (Zq I9.d (Zq hxx f0)) ?_; with_reducible intro _ _) | (refine hN _ ?_; clear hN N) | (refine Zk hmk ?_; clear hmk mk) | refine Zt (Zq I9.d (Zq hxx f0)) ?_ | fail)
   (first | (refine Zr (()) [0, 120, 121, 122] (Zq I9.d (Zq hxx f0)) ?_) | (refine Zr (()) [0, 120, 121] (Zq I9.d (Zq hxx f0)) ?_))
   trivial
theorem b0Q (L : List Int) (at_ g su re sl pa : Int) (ar : List fL) (lo : s6) (ii : j4) (bs : List c5) (t : u2) (h : gI ⟨L, at_, g, su, re, sl, pa, ar, lo, bs, ii, t⟩ 900000) (hc : ¬ a6 L at_ % 16 < 3 ∧ a6 L at_ % 16 < 7) : B2 Tryd.prog 64 [.ptr 0 0 0] (MS.rows ⟨L, at_, g, su, re, sl, pa, ar, lo, bs, ii, t⟩) 1 (fun _ : Unit => True) (fun _ => .Q8 []) (fun _ => (MS.inst ⟨L, at_, g, su, re, sl, pa, ar, lo, bs, ii, t⟩).rows) := by
 obtain ⟨hL, h0, hb, hi, ha, hal⟩ := h
 dsimp only at hL h0 hb hi ha hal
 have C0 := p9 L at_ (by omega) hL
 have hx := j0 hL h0.1
 have C1 := p9 L (at_ + 1) (by omega) hL
 have hy := j0 hL (show (0 : Int) ≤ at_ + 1 by omega)
 have C2 := Y8 L (at_ + 1 + 1) (by omega) hL
 have C3 := dU L (at_ + 1 + 1 + 1) (by omega) hL
 have C4 := dU L (at_ + 1 + 1 + 1 + 1) (by omega) hL
 obtain ⟨x, hxx⟩ : ∃ x, a6 L at_ % 16 = x := ⟨_, rfl⟩
 rw [hxx] at hc
 have f0 : (x < 3) = False := by simp only [eq_iff_iff, iff_true, iff_false]; omega
 have f1 : (x < 7) = True := by simp only [eq_iff_iff, iff_true, iff_false]; omega
 have e : MS.inst ⟨L, at_, g, su, re, sl, pa, ar, lo, bs, ii, t⟩ = (⟨L, at_ + 1 + 1 + 1 + 1 + 1, g, su, re, sl, pa, ar, lo, bs, ii, t⟩ : MS).put (Y0 L at_) := by
   unfold MS.inst gT
   simp only [hxx]
   rw [if_pos (by omega)]
   simp only [f0, f1, if_true, if_false]
 rw [e]
 have e2 : Y0 L at_ = ⟨3, 10 + a6 L (at_ + 1) % 20, 0, G8 L (at_ + 1 + 1), X2 L (at_ + 1 + 1 + 1), X2 L (at_ + 1 + 1 + 1 + 1), O0⟩ := by
   unfold Y0
   simp only [hxx, f0, f1, if_true, if_false]
 rw [e2]
 clear e e2
 generalize a6 L (at_ + 1) = y at *
 generalize G8 L (at_ + 1 + 1) = d at *
 obtain ⟨dk, dn, dv⟩ := d
 generalize X2 L (at_ + 1 + 1 + 1) = v at *
 obtain ⟨vk, vn, vv⟩ := v
 generalize X2 L (at_ + 1 + 1 + 1 + 1) = v2 at *
 obtain ⟨v2k, v2n, v2v⟩ := v2
 generalize a6 L at_ = z at *
 have CP := U1 ⟨L, at_ + 1 + 1 + 1 + 1 + 1, g, su, re, sl, pa, ar, lo, bs, ii, t⟩ ⟨3, 10 + y % 20, 0, ⟨dk, dn, dv⟩, ⟨vk, vn, vv⟩, ⟨v2k, v2n, v2v⟩, O0⟩ (by show bs.length ≤ _; omega) (by first | omega | (dsimp only; omega))
 rcases lo with _ | ll <;> rcases ii with _ | li
 all_goals
   try simp only [j4.l, List.length_nil] at hi
   simp only [MS.rows, MS.put, j4.cell, j4.rows, j4.l, j4.k, s6.cell, s6.rows, s6.l, j9.av, J8.av, B7, O5, O0, List.cons_append, List.nil_append, List.append_nil] at CP
   simp only [MS.rows, MS.put, j4.cell, j4.rows, j4.l, j4.k, s6.cell, s6.rows, s6.l, j9.av, J8.av, B7, O5, O0, List.cons_append, List.nil_append, List.append_nil]; refine Zf Tryd.func64 Tryd.ntmps64 ?_
   repeat' (first | refine Za ?_ | (with_reducible first | refine Zz.mk fun N hN mk hmk => ?_ | refine Zb.mk fun N hN => ?_ | refine Zi.mk fun h => ?_ | refine ⟨fun h => ?_, fun h => ?_⟩ | exact True.intro) | refine Ze C0 ?_ | refine Ze C1 ?_ | refine Ze C2 ?_ | refine Ze C3 ?_ | refine Ze C4 ?_ | (refine Zp CP [0, 1, 2, 3] (Zq I9.d (Zq hxx (Zq f0 f1))) ?_; with_reducible intro _ _) | (refine Zp CP [0, 1, 2] (Zq I9.d (Zq hxx (Zq f0 f1))) ?_; with_reducible intro _ _) | (refine Zp CP [0, 1] (Zq I9.d (Zq hxx (Zq f0 f1))) ?_; with_reducible intro _ _) | (refine hN _ ?_; clear hN N) | (refine Zk hmk ?_; clear hmk mk) | refine Zt (Zq I9.d (Zq hxx (Zq f0 f1))) ?_ | fail)
   (first | (refine Zr (()) [0, 184, 185, 186] (Zq I9.d (Zq hxx (Zq f0 f1))) ?_) | (refine Zr (()) [0, 184, 185] (Zq I9.d (Zq hxx (Zq f0 f1))) ?_))
   trivial
theorem b0R (L : List Int) (at_ g su re sl pa : Int) (ar : List fL) (lo : s6) (ii : j4) (bs : List c5) (t : u2) (h : gI ⟨L, at_, g, su, re, sl, pa, ar, lo, bs, ii, t⟩ 900000) (hc : a6 L at_ % 16 = 7) : B2 Tryd.prog 64 [.ptr 0 0 0] (MS.rows ⟨L, at_, g, su, re, sl, pa, ar, lo, bs, ii, t⟩) 1 (fun _ : Unit => True) (fun _ => .Q8 []) (fun _ => (MS.inst ⟨L, at_, g, su, re, sl, pa, ar, lo, bs, ii, t⟩).rows) := by
 obtain ⟨hL, h0, hb, hi, ha, hal⟩ := h
 dsimp only at hL h0 hb hi ha hal
 have C0 := p9 L at_ (by omega) hL
 have hx := j0 hL h0.1
 have C1 := p9 L (at_ + 1) (by omega) hL
 have hy := j0 hL (show (0 : Int) ≤ at_ + 1 by omega)
 have C2 := Y8 L (at_ + 1 + 1) (by omega) hL
 have C3 := dU L (at_ + 1 + 1 + 1) (by omega) hL
 obtain ⟨x, hxx⟩ : ∃ x, a6 L at_ % 16 = x := ⟨_, rfl⟩
 rw [hxx] at hc
 have f0 : (x < 3) = False := by simp only [eq_iff_iff, iff_true, iff_false]; omega
 have f1 : (x < 7) = False := by simp only [eq_iff_iff, iff_true, iff_false]; omega
 have f2 : (x = 7) = True := by simp only [eq_iff_iff, iff_true, iff_false]; omega
 have e : MS.inst ⟨L, at_, g, su, re, sl, pa, ar, lo, bs, ii, t⟩ = (⟨L, at_ + 1 + 1 + 1 + 1, g, su, re, sl, pa, ar, lo, bs, ii, t⟩ : MS).put (Y0 L at_) := by
   unfold MS.inst gT
   simp only [hxx]
   rw [if_pos (by omega)]
   simp only [f0, f1, f2, if_true, if_false]
 rw [e]
 have e2 : Y0 L at_ = ⟨2, 1 + a6 L (at_ + 1) % 5, 0, G8 L (at_ + 1 + 1), X2 L (at_ + 1 + 1 + 1), O0, O0⟩ := by
   unfold Y0
   simp only [hxx, f0, f1, f2, if_true, if_false]
 rw [e2]
 clear e e2
 generalize a6 L (at_ + 1) = y at *
 generalize G8 L (at_ + 1 + 1) = d at *
 obtain ⟨dk, dn, dv⟩ := d
 generalize X2 L (at_ + 1 + 1 + 1) = v at *
 obtain ⟨vk, vn, vv⟩ := v
 generalize a6 L at_ = z at *
 have CP := U1 ⟨L, at_ + 1 + 1 + 1 + 1, g, su, re, sl, pa, ar, lo, bs, ii, t⟩ ⟨2, 1 + y % 5, 0, ⟨dk, dn, dv⟩, ⟨vk, vn, vv⟩, O0, O0⟩ (by show bs.length ≤ _; omega) (by first | omega | (dsimp only; omega))
 rcases lo with _ | ll <;> rcases ii with _ | li
 all_goals
   try simp only [j4.l, List.length_nil] at hi
   simp only [MS.rows, MS.put, j4.cell, j4.rows, j4.l, j4.k, s6.cell, s6.rows, s6.l, j9.av, J8.av, B7, O5, O0, List.cons_append, List.nil_append, List.append_nil] at CP
   simp only [MS.rows, MS.put, j4.cell, j4.rows, j4.l, j4.k, s6.cell, s6.rows, s6.l, j9.av, J8.av, B7, O5, O0, List.cons_append, List.nil_append, List.append_nil]; refine Zf Tryd.func64 Tryd.ntmps64 ?_
   repeat' (first | refine Za ?_ | (with_reducible first | refine Zz.mk fun N hN mk hmk => ?_ | refine Zb.mk fun N hN => ?_ | refine Zi.mk fun h => ?_ | refine ⟨fun h => ?_, fun h => ?_⟩ | exact True.intro) | refine Ze C0 ?_ | refine Ze C1 ?_ | refine Ze C2 ?_ | refine Ze C3 ?_ | (refine Zp CP [0, 1, 2, 3] (Zq I9.d (Zq hxx (Zq f0 (Zq f1 f2)))) ?_; with_reducible intro _ _) | (refine Zp CP [0, 1, 2] (Zq I9.d (Zq hxx (Zq f0 (Zq f1 f2)))) ?_; with_reducible intro _ _) | (refine Zp CP [0, 1] (Zq I9.d (Zq hxx (Zq f0 (Zq f1 f2)))) ?_; with_reducible intro _ _) | (refine hN _ ?_; clear hN N) | (refine Zk hmk ?_; clear hmk mk) | refine Zt (Zq I9.d (Zq hxx (Zq f0 (Zq f1 f2)))) ?_ | fail)
   (first | (refine Zr (()) [0, 168, 169, 170] (Zq I9.d (Zq hxx (Zq f0 (Zq f1 f2)))) ?_) | (refine Zr (()) [0, 168, 169] (Zq I9.d (Zq hxx (Zq f0 (Zq f1 f2)))) ?_))
   trivial
theorem b0S (L : List Int) (at_ g su re sl pa : Int) (ar : List fL) (lo : s6) (ii : j4) (bs : List c5) (t : u2) (h : gI ⟨L, at_, g, su, re, sl, pa, ar, lo, bs, ii, t⟩ 900000) (hc : a6 L at_ % 16 = 8) : B2 Tryd.prog 64 [.ptr 0 0 0] (MS.rows ⟨L, at_, g, su, re, sl, pa, ar, lo, bs, ii, t⟩) 1 (fun _ : Unit => True) (fun _ => .Q8 []) (fun _ => (MS.inst ⟨L, at_, g, su, re, sl, pa, ar, lo, bs, ii, t⟩).rows) := by
 obtain ⟨hL, h0, hb, hi, ha, hal⟩ := h
 dsimp only at hL h0 hb hi ha hal
 have C0 := p9 L at_ (by omega) hL
 have hx := j0 hL h0.1
 have C1 := Y8 L (at_ + 1) (by omega) hL
 have C2 := dU L (at_ + 1 + 1) (by omega) hL
 have C3 := dU L (at_ + 1 + 1 + 1) (by omega) hL
 have C4 := dU L (at_ + 1 + 1 + 1 + 1) (by omega) hL
 obtain ⟨x, hxx⟩ : ∃ x, a6 L at_ % 16 = x := ⟨_, rfl⟩
 rw [hxx] at hc
 have f0 : (x < 3) = False := by simp only [eq_iff_iff, iff_true, iff_false]; omega
 have f1 : (x < 7) = False := by simp only [eq_iff_iff, iff_true, iff_false]; omega
 have f2 : (x = 7) = False := by simp only [eq_iff_iff, iff_true, iff_false]; omega
 have f3 : (x = 8) = True := by simp only [eq_iff_iff, iff_true, iff_false]; omega
 have e : MS.inst ⟨L, at_, g, su, re, sl, pa, ar, lo, bs, ii, t⟩ = (⟨L, at_ + 1 + 1 + 1 + 1 + 1, g, su, re, sl, pa, ar, lo, bs, ii, t⟩ : MS).put (Y0 L at_) := by
   unfold MS.inst gT
   simp only [hxx]
   rw [if_pos (by omega)]
   simp only [f0, f1, f2, f3, if_true, if_false]
 rw [e]
 have e2 : Y0 L at_ = ⟨4, 0, 0, G8 L (at_ + 1), X2 L (at_ + 1 + 1), X2 L (at_ + 1 + 1 + 1), X2 L (at_ + 1 + 1 + 1 + 1)⟩ := by
   unfold Y0
   simp only [hxx, f0, f1, f2, f3, if_true, if_false]
 rw [e2]
 clear e e2
 generalize G8 L (at_ + 1) = d at *
 obtain ⟨dk, dn, dv⟩ := d
 generalize X2 L (at_ + 1 + 1) = v at *
 obtain ⟨vk, vn, vv⟩ := v
 generalize X2 L (at_ + 1 + 1 + 1) = v2 at *
 obtain ⟨v2k, v2n, v2v⟩ := v2
 generalize X2 L (at_ + 1 + 1 + 1 + 1) = v3 at *
 obtain ⟨v3k, v3n, v3v⟩ := v3
 generalize a6 L at_ = z at *
 have CP := U1 ⟨L, at_ + 1 + 1 + 1 + 1 + 1, g, su, re, sl, pa, ar, lo, bs, ii, t⟩ ⟨4, 0, 0, ⟨dk, dn, dv⟩, ⟨vk, vn, vv⟩, ⟨v2k, v2n, v2v⟩, ⟨v3k, v3n, v3v⟩⟩ (by show bs.length ≤ _; omega) (by first | omega | (dsimp only; omega))
 rcases lo with _ | ll <;> rcases ii with _ | li
 all_goals
   try simp only [j4.l, List.length_nil] at hi
   simp only [MS.rows, MS.put, j4.cell, j4.rows, j4.l, j4.k, s6.cell, s6.rows, s6.l, j9.av, J8.av, B7, O5, O0, List.cons_append, List.nil_append, List.append_nil] at CP
   simp only [MS.rows, MS.put, j4.cell, j4.rows, j4.l, j4.k, s6.cell, s6.rows, s6.l, j9.av, J8.av, B7, O5, O0, List.cons_append, List.nil_append, List.append_nil]; refine Zf Tryd.func64 Tryd.ntmps64 ?_
   repeat' (first | refine Za ?_ | (with_reducible first | refine Zz.mk fun N hN mk hmk => ?_ | refine Zb.mk fun N hN => ?_ | refine Zi.mk fun h => ?_ | refine ⟨fun h => ?_, fun h => ?_⟩ | exact True.intro) | refine Ze C0 ?_ | refine Ze C1 ?_ | refine Ze C2 ?_ | refine Ze C3 ?_ | refine Ze C4 ?_ | (refine Zp CP [0, 1, 2, 3] (Zq I9.d (Zq hxx (Zq f0 (Zq f1 (Zq f2 f3))))) ?_; with_reducible intro _ _) | (refine Zp CP [0, 1, 2] (Zq I9.d (Zq hxx (Zq f0 (Zq f1 (Zq f2 f3))))) ?_; with_reducible intro _ _) | (refine Zp CP [0, 1] (Zq I9.d (Zq hxx (Zq f0 (Zq f1 (Zq f2 f3))))) ?_; with_reducible intro _ _) | (refine hN _ ?_; clear hN N) | (refine Zk hmk ?_; clear hmk mk) | refine Zt (Zq I9.d (Zq hxx (Zq f0 (Zq f1 (Zq f2 f3))))) ?_ | fail)
   (first | (refine Zr (()) [0, 184, 185, 186] (Zq I9.d (Zq hxx (Zq f0 (Zq f1 (Zq f2 f3))))) ?_) | (refine Zr (()) [0, 184, 185] (Zq I9.d (Zq hxx (Zq f0 (Zq f1 (Zq f2 f3))))) ?_))
   trivial
theorem b0T (L : List Int) (at_ g su re sl pa : Int) (ar : List fL) (lo : s6) (ii : j4) (bs : List c5) (t : u2) (h : gI ⟨L, at_, g, su, re, sl, pa, ar, lo, bs, ii, t⟩ 900000) (hc : a6 L at_ % 16 = 9) : B2 Tryd.prog 64 [.ptr 0 0 0] (MS.rows ⟨L, at_, g, su, re, sl, pa, ar, lo, bs, ii, t⟩) 1 (fun _ : Unit => True) (fun _ => .Q8 []) (fun _ => (MS.inst ⟨L, at_, g, su, re, sl, pa, ar, lo, bs, ii, t⟩).rows) := by
 obtain ⟨hL, h0, hb, hi, ha, hal⟩ := h
 dsimp only at hL h0 hb hi ha hal
 have C0 := p9 L at_ (by omega) hL
 have hx := j0 hL h0.1
 have C1 := Y8 L (at_ + 1) (by omega) hL
 have C2 := dU L (at_ + 1 + 1) (by omega) hL
 obtain ⟨x, hxx⟩ : ∃ x, a6 L at_ % 16 = x := ⟨_, rfl⟩
 rw [hxx] at hc
 have f0 : (x < 3) = False := by simp only [eq_iff_iff, iff_true, iff_false]; omega
 have f1 : (x < 7) = False := by simp only [eq_iff_iff, iff_true, iff_false]; omega
 have f2 : (x = 7) = False := by simp only [eq_iff_iff, iff_true, iff_false]; omega
 have f3 : (x = 8) = False := by simp only [eq_iff_iff, iff_true, iff_false]; omega
 have f4 : (x = 9) = True := by simp only [eq_iff_iff, iff_true, iff_false]; omega
 have e : MS.inst ⟨L, at_, g, su, re, sl, pa, ar, lo, bs, ii, t⟩ = (⟨L, at_ + 1 + 1 + 1, g, su, re, sl, pa, ar, lo, bs, ii, t⟩ : MS).put (Y0 L at_) := by
   unfold MS.inst gT
   simp only [hxx]
   rw [if_pos (by omega)]
   simp only [f0, f1, f2, f3, f4, if_true, if_false]
 rw [e]
 have e2 : Y0 L at_ = ⟨1, 0, 0, G8 L (at_ + 1), X2 L (at_ + 1 + 1), O0, O0⟩ := by
   unfold Y0
   simp only [hxx, f0, f1, f2, f3, f4, if_true, if_false]
 rw [e2]
 clear e e2
 generalize G8 L (at_ + 1) = d at *
 obtain ⟨dk, dn, dv⟩ := d
 generalize X2 L (at_ + 1 + 1) = v at *
 obtain ⟨vk, vn, vv⟩ := v
 generalize a6 L at_ = z at *
 have CP := U1 ⟨L, at_ + 1 + 1 + 1, g, su, re, sl, pa, ar, lo, bs, ii, t⟩ ⟨1, 0, 0, ⟨dk, dn, dv⟩, ⟨vk, vn, vv⟩, O0, O0⟩ (by show bs.length ≤ _; omega) (by first | omega | (dsimp only; omega))
 rcases lo with _ | ll <;> rcases ii with _ | li
 all_goals
   try simp only [j4.l, List.length_nil] at hi
   simp only [MS.rows, MS.put, j4.cell, j4.rows, j4.l, j4.k, s6.cell, s6.rows, s6.l, j9.av, J8.av, B7, O5, O0, List.cons_append, List.nil_append, List.append_nil] at CP
   simp only [MS.rows, MS.put, j4.cell, j4.rows, j4.l, j4.k, s6.cell, s6.rows, s6.l, j9.av, J8.av, B7, O5, O0, List.cons_append, List.nil_append, List.append_nil]; refine Zf Tryd.func64 Tryd.ntmps64 ?_
   repeat' (first | refine Za ?_ | (with_reducible first | refine Zz.mk fun N hN mk hmk => ?_ | refine Zb.mk fun N hN => ?_ | refine Zi.mk fun h => ?_ | refine ⟨fun h => ?_, fun h => ?_⟩ | exact True.intro) | refine Ze C0 ?_ | refine Ze C1 ?_ | refine Ze C2 ?_ | (refine Zp CP [0, 1, 2, 3] (Zq I9.d (Zq hxx (Zq f0 (Zq f1 (Zq f2 (Zq f3 f4)))))) ?_; with_reducible intro _ _) | (refine Zp CP [0, 1, 2] (Zq I9.d (Zq hxx (Zq f0 (Zq f1 (Zq f2 (Zq f3 f4)))))) ?_; with_reducible intro _ _) | (refine Zp CP [0, 1] (Zq I9.d (Zq hxx (Zq f0 (Zq f1 (Zq f2 (Zq f3 f4)))))) ?_; with_reducible intro _ _) | (refine hN _ ?_; clear hN N) | (refine Zk hmk ?_; clear hmk mk) | refine Zt (Zq I9.d (Zq hxx (Zq f0 (Zq f1 (Zq f2 (Zq f3 f4)))))) ?_ | fail)
   (first | (refine Zr (()) [0, 168, 169, 170] (Zq I9.d (Zq hxx (Zq f0 (Zq f1 (Zq f2 (Zq f3 f4)))))) ?_) | (refine Zr (()) [0, 168, 169] (Zq I9.d (Zq hxx (Zq f0 (Zq f1 (Zq f2 (Zq f3 f4)))))) ?_))
   trivial
theorem b0U (L : List Int) (at_ g su re sl pa : Int) (ar : List fL) (lo : s6) (ii : j4) (bs : List c5) (t : u2) (h : gI ⟨L, at_, g, su, re, sl, pa, ar, lo, bs, ii, t⟩ 900000) (hc : a6 L at_ % 16 = 10) : B2 Tryd.prog 64 [.ptr 0 0 0] (MS.rows ⟨L, at_, g, su, re, sl, pa, ar, lo, bs, ii, t⟩) 1 (fun _ : Unit => True) (fun _ => .Q8 []) (fun _ => (MS.inst ⟨L, at_, g, su, re, sl, pa, ar, lo, bs, ii, t⟩).rows) := by
 obtain ⟨hL, h0, hb, hi, ha, hal⟩ := h
 dsimp only at hL h0 hb hi ha hal
 have C0 := p9 L at_ (by omega) hL
 have hx := j0 hL h0.1
 have C1 := p9 L (at_ + 1) (by omega) hL
 have hy := j0 hL (show (0 : Int) ≤ at_ + 1 by omega)
 have C2 := Y8 L (at_ + 1 + 1) (by omega) hL
 obtain ⟨x, hxx⟩ : ∃ x, a6 L at_ % 16 = x := ⟨_, rfl⟩
 rw [hxx] at hc
 have f0 : (x < 3) = False := by simp only [eq_iff_iff, iff_true, iff_false]; omega
 have f1 : (x < 7) = False := by simp only [eq_iff_iff, iff_true, iff_false]; omega
 have f2 : (x = 7) = False := by simp only [eq_iff_iff, iff_true, iff_false]; omega
 have f3 : (x = 8) = False := by simp only [eq_iff_iff, iff_true, iff_false]; omega
 have f4 : (x = 9) = False := by simp only [eq_iff_iff, iff_true, iff_false]; omega
 have f5 : (x = 10) = True := by simp only [eq_iff_iff, iff_true, iff_false]; omega
 have e : MS.inst ⟨L, at_, g, su, re, sl, pa, ar, lo, bs, ii, t⟩ = (⟨L, at_ + 1 + 1 + 1, g, su, re, sl, pa, ar, lo, bs, ii, t⟩ : MS).put (Y0 L at_) := by
   unfold MS.inst gT
   simp only [hxx]
   rw [if_pos (by omega)]
   simp only [f0, f1, f2, f3, f4, f5, if_true, if_false]
 rw [e]
 have e2 : Y0 L at_ = ⟨6, 0, a6 L (at_ + 1) % 3, G8 L (at_ + 1 + 1), O0, O0, O0⟩ := by
   unfold Y0
   simp only [hxx, f0, f1, f2, f3, f4, f5, if_true, if_false]
 rw [e2]
 clear e e2
 generalize a6 L (at_ + 1) = y at *
 generalize G8 L (at_ + 1 + 1) = d at *
 obtain ⟨dk, dn, dv⟩ := d
 generalize a6 L at_ = z at *
 have CP := U1 ⟨L, at_ + 1 + 1 + 1, g, su, re, sl, pa, ar, lo, bs, ii, t⟩ ⟨6, 0, y % 3, ⟨dk, dn, dv⟩, O0, O0, O0⟩ (by show bs.length ≤ _; omega) (by first | omega | (dsimp only; omega))
 rcases lo with _ | ll <;> rcases ii with _ | li
 all_goals
   try simp only [j4.l, List.length_nil] at hi
   simp only [MS.rows, MS.put, j4.cell, j4.rows, j4.l, j4.k, s6.cell, s6.rows, s6.l, j9.av, J8.av, B7, O5, O0, List.cons_append, List.nil_append, List.append_nil] at CP
   simp only [MS.rows, MS.put, j4.cell, j4.rows, j4.l, j4.k, s6.cell, s6.rows, s6.l, j9.av, J8.av, B7, O5, O0, List.cons_append, List.nil_append, List.append_nil]; refine Zf Tryd.func64 Tryd.ntmps64 ?_
   repeat' (first | refine Za ?_ | (with_reducible first | refine Zz.mk fun N hN mk hmk => ?_ | refine Zb.mk fun N hN => ?_ | refine Zi.mk fun h => ?_ | refine ⟨fun h => ?_, fun h => ?_⟩ | exact True.intro) | refine Ze C0 ?_ | refine Ze C1 ?_ | refine Ze C2 ?_ | (refine Zp CP [0, 1, 2, 3] (Zq I9.d (Zq hxx (Zq f0 (Zq f1 (Zq f2 (Zq f3 (Zq f4 f5))))))) ?_; with_reducible intro _ _) | (refine Zp CP [0, 1, 2] (Zq I9.d (Zq hxx (Zq f0 (Zq f1 (Zq f2 (Zq f3 (Zq f4 f5))))))) ?_; with_reducible intro _ _) | (refine Zp CP [0, 1] (Zq I9.d (Zq hxx (Zq f0 (Zq f1 (Zq f2 (Zq f3 (Zq f4 f5))))))) ?_; with_reducible intro _ _) | (refine hN _ ?_; clear hN N) | (refine Zk hmk ?_; clear hmk mk) | refine Zt (Zq I9.d (Zq hxx (Zq f0 (Zq f1 (Zq f2 (Zq f3 (Zq f4 f5))))))) ?_ | fail)
   (first | (refine Zr (()) [0, 192, 193, 194] (Zq I9.d (Zq hxx (Zq f0 (Zq f1 (Zq f2 (Zq f3 (Zq f4 f5))))))) ?_) | (refine Zr (()) [0, 192, 193] (Zq I9.d (Zq hxx (Zq f0 (Zq f1 (Zq f2 (Zq f3 (Zq f4 f5))))))) ?_))
   trivial
theorem b0V (L : List Int) (at_ g su re sl pa : Int) (ar : List fL) (lo : s6) (ii : j4) (bs : List c5) (t : u2) (h : gI ⟨L, at_, g, su, re, sl, pa, ar, lo, bs, ii, t⟩ 900000) (hc : a6 L at_ % 16 = 11) : B2 Tryd.prog 64 [.ptr 0 0 0] (MS.rows ⟨L, at_, g, su, re, sl, pa, ar, lo, bs, ii, t⟩) 1 (fun _ : Unit => True) (fun _ => .Q8 []) (fun _ => (MS.inst ⟨L, at_, g, su, re, sl, pa, ar, lo, bs, ii, t⟩).rows) := by
 obtain ⟨hL, h0, hb, hi, ha, hal⟩ := h
 dsimp only at hL h0 hb hi ha hal
 have C0 := p9 L at_ (by omega) hL
 have hx := j0 hL h0.1
 have C1 := p9 L (at_ + 1) (by omega) hL
 have hy := j0 hL (show (0 : Int) ≤ at_ + 1 by omega)
 obtain ⟨x, hxx⟩ : ∃ x, a6 L at_ % 16 = x := ⟨_, rfl⟩
 rw [hxx] at hc
 have f0 : (x < 3) = False := by simp only [eq_iff_iff, iff_true, iff_false]; omega
 have f1 : (x < 7) = False := by simp only [eq_iff_iff, iff_true, iff_false]; omega
 have f2 : (x = 7) = False := by simp only [eq_iff_iff, iff_true, iff_false]; omega
 have f3 : (x = 8) = False := by simp only [eq_iff_iff, iff_true, iff_false]; omega
 have f4 : (x = 9) = False := by simp only [eq_iff_iff, iff_true, iff_false]; omega
 have f5 : (x = 10) = False := by simp only [eq_iff_iff, iff_true, iff_false]; omega
 have f6 : (x = 11) = True := by simp only [eq_iff_iff, iff_true, iff_false]; omega
 have e : MS.inst ⟨L, at_, g, su, re, sl, pa, ar, lo, bs, ii, t⟩ = (⟨L, at_ + 1 + 1, g, su, re, sl, pa, ar, lo, bs, ii, t⟩ : MS).put (Y0 L at_) := by
   unfold MS.inst gT
   simp only [hxx]
   rw [if_pos (by omega)]
   simp only [f0, f1, f2, f3, f4, f5, f6, if_true, if_false]
 rw [e]
 have e2 : Y0 L at_ = ⟨10, 1 + a6 L (at_ + 1) % 2, 0, O0, O0, O0, O0⟩ := by
   unfold Y0
   simp only [hxx, f0, f1, f2, f3, f4, f5, f6, if_true, if_false]
 rw [e2]
 clear e e2
 generalize a6 L (at_ + 1) = y at *
 generalize a6 L at_ = z at *
 have CP := U1 ⟨L, at_ + 1 + 1, g, su, re, sl, pa, ar, lo, bs, ii, t⟩ ⟨10, 1 + y % 2, 0, O0, O0, O0, O0⟩ (by show bs.length ≤ _; omega) (by first | omega | (dsimp only; omega))
 rcases lo with _ | ll <;> rcases ii with _ | li
 all_goals
   try simp only [j4.l, List.length_nil] at hi
   simp only [MS.rows, MS.put, j4.cell, j4.rows, j4.l, j4.k, s6.cell, s6.rows, s6.l, j9.av, J8.av, B7, O5, O0, List.cons_append, List.nil_append, List.append_nil] at CP
   simp only [MS.rows, MS.put, j4.cell, j4.rows, j4.l, j4.k, s6.cell, s6.rows, s6.l, j9.av, J8.av, B7, O5, O0, List.cons_append, List.nil_append, List.append_nil]; refine Zf Tryd.func64 Tryd.ntmps64 ?_
   repeat' (first | refine Za ?_ | (with_reducible first | refine Zz.mk fun N hN mk hmk => ?_ | refine Zb.mk fun N hN => ?_ | refine Zi.mk fun h => ?_ | refine ⟨fun h => ?_, fun h => ?_⟩ | exact True.intro) | refine Ze C0 ?_ | refine Ze C1 ?_ | (refine Zp CP [0, 1, 2, 3] (Zq I9.d (Zq hxx (Zq f0 (Zq f1 (Zq f2 (Zq f3 (Zq f4 (Zq f5 f6)))))))) ?_; with_reducible intro _ _) | (refine Zp CP [0, 1, 2] (Zq I9.d (Zq hxx (Zq f0 (Zq f1 (Zq f2 (Zq f3 (Zq f4 (Zq f5 f6)))))))) ?_; with_reducible intro _ _) | (refine Zp CP [0, 1] (Zq I9.d (Zq hxx (Zq f0 (Zq f1 (Zq f2 (Zq f3 (Zq f4 (Zq f5 f6)))))))) ?_; with_reducible intro _ _) | (refine hN _ ?_; clear hN N) | (refine Zk hmk ?_; clear hmk mk) | refine Zt (Zq I9.d (Zq hxx (Zq f0 (Zq f1 (Zq f2 (Zq f3 (Zq f4 (Zq f5 f6)))))))) ?_ | fail)
   (first | (refine Zr (()) [0, 200, 201, 202] (Zq I9.d (Zq hxx (Zq f0 (Zq f1 (Zq f2 (Zq f3 (Zq f4 (Zq f5 f6)))))))) ?_) | (refine Zr (()) [0, 200, 201] (Zq I9.d (Zq hxx (Zq f0 (Zq f1 (Zq f2 (Zq f3 (Zq f4 (Zq f5 f6)))))))) ?_))
   trivial
end Go.Proofs.YtfccigmfcpimgaaDoor
end
