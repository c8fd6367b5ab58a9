/- Own work (by an AI agent; no person has read it): part of a proof of the seat YtfccigmfcpimgaaDoor. -/
import Derived.Test.YtfccigmfcpimgaaDoorXp
set_option linter.unusedSimpArgs false
set_option linter.unusedVariables false
set_option maxRecDepth 100000
set_option maxHeartbeats 10000000
section
namespace Go.Proofs.YtfccigmfcpimgaaDoor
open Go.Ab
def Z1 := ZZ.mk (Zq @a9X (Zq @a77 (Zq @u7 (Zq @N9 (Zq @B4 (Zq @K0 (Zq @c6 (Zq @E4 (Zq @v7 (Zq @w9 (Zq @b8 (Zq @m6 (Zq @u4 (Zq @l0 (Zq @c9 (Zq @m7 (Zq @y0 (Zq @p0 (Zq @o7 (Zq @y3 (Zq @n5 (Zq @y5 (Zq @y4 (Zq @x8 (Zq @x7 (Zq @o5 (Zq @b5 (Zq @b6 (Zq @p7 (Zq @J8.av.eq_1 (Zq @B7.eq_1 (Zq @O5.eq_1 @O0.eq_1))))))))))))))))))))))))))))))))
theorem b0W (L : List Int) (at_ g su re sl pa : Int) (ar : List fL) (lo : s6) (ii : j4) (bs : List c5) (t : u2) (h : gI ⟨L, at_, g, su, re, sl, pa, ar, lo, bs, ii, t⟩ 800000) (hc : a6 L at_ % 16 = 12) : B2 Tryd.prog 64 [.ptr 0 0 0] (MS.rows ⟨L, at_, g, su, re, sl, pa, ar, lo, bs, ii, t⟩) 1 (fun _ : Unit => True) (fun _ => .Q8 []) (fun _ => (MS.inst ⟨L, at_, g, su, re, sl, pa, ar, lo, bs, ii, t⟩).rows) := by
 have ha6 : qN.length = 6 := rfl
 obtain ⟨hL, h0, hb, hi, ha, hal⟩ := h
 dsimp only at hL h0 hb hi ha hal
 have C0 := p9 L at_ (by omega) hL
 have hx := j0 hL h0.1
 have C1 := p9 L (at_ + 1 + 1 + 1 + 1) (by omega) hL
 have hy := j0 hL (show (0 : Int) ≤ at_ + 1 + 1 + 1 + 1 by omega)
 have C2 := dU L (at_ + 1 + 1 + 1 + 1 + 1) (by omega) hL
 have hI : (ii : j4).l.length ≤ 900000 := by first | omega | (dsimp only; omega)
 have CPL := vN ⟨L, at_ + 1, g, su, re, sl, pa, ar, lo, bs, ii, t⟩ false ⟨hL, by show 0 ≤ at_ + 1 ∧ at_ + 1 ≤ 900000; omega, hb, by show (ii : j4).l.length ≤ (900000 : Int); omega, ha, hal⟩
 obtain ⟨x, hxx⟩ : ∃ x, a6 L at_ % 16 = x := ⟨_, rfl⟩
 rw [hxx] at hc
 have f0 : (x < 3) = False := by simp only [eq_iff_iff, iff_true, iff_false]; omega
 have f1 : (x < 7) = False := by simp only [eq_iff_iff, iff_true, iff_false]; omega
 have f2 : (x = 7) = False := by simp only [eq_iff_iff, iff_true, iff_false]; omega
 have f3 : (x = 8) = False := by simp only [eq_iff_iff, iff_true, iff_false]; omega
 have f4 : (x = 9) = False := by simp only [eq_iff_iff, iff_true, iff_false]; omega
 have f5 : (x = 10) = False := by simp only [eq_iff_iff, iff_true, iff_false]; omega
 have f6 : (x = 11) = False := by simp only [eq_iff_iff, iff_true, iff_false]; omega
 have f7 : (x = 12) = True := by simp only [eq_iff_iff, iff_true, iff_false]; omega
 obtain ⟨n, hn⟩ : ∃ n, pn ⟨L, at_ + 1, g, su, re, sl, pa, ar, lo, bs, ii, t⟩ false = n := ⟨_, rfl⟩
 obtain ⟨pi, hpi⟩ : ∃ pi, MS.vM ⟨L, at_ + 1, g, su, re, sl, pa, ar, lo, bs, ii, t⟩ false = pi := ⟨_, rfl⟩
 have e : MS.inst ⟨L, at_, g, su, re, sl, pa, ar, lo, bs, ii, t⟩ = (⟨L, at_ + 1 + 1 + 1 + 1 + 1 + 1, g, su, re, sl, pa, ar, lo, bs, .own (ii.l ++ [pi]), t⟩ : MS).put (gU L x (at_ + 1 + 1 + 1 + 1) n (G8 L (at_ + 1 + 1))) := by
   unfold MS.inst
   simp only [hxx]
   rw [if_neg (by omega)]
   simp only [f7, not_true_eq_false, not_false_eq_true, decide_true, decide_false, if_true, if_false]
   rw [hn]
   unfold MS.place
   rw [hpi]
   rfl
 rw [e]
 have e2 : gU L x (at_ + 1 + 1 + 1 + 1) n (G8 L (at_ + 1 + 1)) = ⟨9, qN.getD (a6 L (at_ + 1 + 1 + 1 + 1) % 6).toNat 0, n, O0, G8 L (at_ + 1 + 1), X2 L (at_ + 1 + 1 + 1 + 1 + 1), O0⟩ := by
   unfold gU
   simp only [f0, f1, f2, f3, f4, f5, f6, f7, if_true, if_false]
 rw [e2]
 clear e e2
 simp only [hn, MS.place, hpi] at CPL
 generalize G8 L (at_ + 1 + 1) = d at *
 obtain ⟨dk, dn, dv⟩ := d
 generalize a6 L (at_ + 1 + 1 + 1 + 1) = y at *
 generalize X2 L (at_ + 1 + 1 + 1 + 1 + 1) = v at *
 obtain ⟨vk, vn, vv⟩ := v
 clear hn hpi
 generalize a6 L at_ = z at *
 have CP := U1 ⟨L, at_ + 1 + 1 + 1 + 1 + 1 + 1, g, su, re, sl, pa, ar, lo, bs, .own (ii.l ++ [pi]), t⟩ ⟨9, qN.getD (y % 6).toNat 0, n, O0, ⟨dk, dn, dv⟩, ⟨vk, vn, vv⟩, O0⟩ (by show bs.length ≤ _; omega) (by show (ii.l ++ [pi]).length ≤ _; simp only [List.length_append, List.length_cons, List.length_nil]; omega)
 rcases lo with _ | ll <;> rcases ii with _ | li
 all_goals
   try simp only [j4.l, List.length_nil] at hi
   simp only [MS.rows, MS.put, j4.cell, j4.rows, j4.l, j4.k, s6.cell, s6.rows, s6.l, j9.av, J8.av, B7, O5, O0, List.cons_append, List.nil_append, List.append_nil, List.length_append, List.length_cons, List.length_nil, Nat.zero_add] at CP CPL
   simp only [MS.rows, MS.put, j4.cell, j4.rows, j4.l, j4.k, s6.cell, s6.rows, s6.l, j9.av, J8.av, B7, O5, O0, List.cons_append, List.nil_append, List.append_nil]; refine Zf Tryd.func64 Tryd.ntmps64 ?_
   repeat' (first | refine Zl ?_ | (with_reducible first | refine Zz.mk fun N hN mk hmk => ?_ | refine Zb.mk fun N hN => ?_ | refine Zi.mk fun h => ?_ | refine ⟨fun h => ?_, fun h => ?_⟩ | exact True.intro) | refine Ze C0 ?_ | refine Ze C1 ?_ | refine Ze C2 ?_ | (refine Zp CPL [0, 1, 2, 3] (Zq Z1.d (Zq hxx (Zq f0 (Zq f1 (Zq f2 (Zq f3 (Zq f4 (Zq f5 (Zq f6 f7))))))))) ?_; with_reducible intro _ _) | (refine Zp CPL [0, 1, 2] (Zq Z1.d (Zq hxx (Zq f0 (Zq f1 (Zq f2 (Zq f3 (Zq f4 (Zq f5 (Zq f6 f7))))))))) ?_; with_reducible intro _ _) | (refine Zp CPL [0, 1] (Zq Z1.d (Zq hxx (Zq f0 (Zq f1 (Zq f2 (Zq f3 (Zq f4 (Zq f5 (Zq f6 f7))))))))) ?_; with_reducible intro _ _) | (refine Zp CP [0, 176, 177, 178] (Zq Z1.d (Zq hxx (Zq f0 (Zq f1 (Zq f2 (Zq f3 (Zq f4 (Zq f5 (Zq f6 f7))))))))) ?_; with_reducible intro _ _) | (refine Zp CP [0, 176, 177] (Zq Z1.d (Zq hxx (Zq f0 (Zq f1 (Zq f2 (Zq f3 (Zq f4 (Zq f5 (Zq f6 f7))))))))) ?_; with_reducible intro _ _) | (refine hN _ ?_; clear hN N) | (refine Zk hmk ?_; clear hmk mk) | refine Zt (Zq Z1.d (Zq hxx (Zq f0 (Zq f1 (Zq f2 (Zq f3 (Zq f4 (Zq f5 (Zq f6 f7))))))))) ?_ | fail)
   (first | (refine Zr (()) [0, 328, 329, 330] (Zq Z1.d (Zq hxx (Zq f0 (Zq f1 (Zq f2 (Zq f3 (Zq f4 (Zq f5 (Zq f6 f7))))))))) ?_) | (refine Zr (()) [0, 328, 329] (Zq Z1.d (Zq hxx (Zq f0 (Zq f1 (Zq f2 (Zq f3 (Zq f4 (Zq f5 (Zq f6 f7))))))))) ?_))
   trivial
theorem b0X (L : List Int) (at_ g su re sl pa : Int) (ar : List fL) (lo : s6) (ii : j4) (bs : List c5) (t : u2) (h : gI ⟨L, at_, g, su, re, sl, pa, ar, lo, bs, ii, t⟩ 800000) (hc : a6 L at_ % 16 = 13) : B2 Tryd.prog 64 [.ptr 0 0 0] (MS.rows ⟨L, at_, g, su, re, sl, pa, ar, lo, bs, ii, t⟩) 1 (fun _ : Unit => True) (fun _ => .Q8 []) (fun _ => (MS.inst ⟨L, at_, g, su, re, sl, pa, ar, lo, bs, ii, t⟩).rows) := by
 have ha6 : qN.length = 6 := rfl
 obtain ⟨hL, h0, hb, hi, ha, hal⟩ := h
 dsimp only at hL h0 hb hi ha hal
 have C0 := p9 L at_ (by omega) hL
 have hx := j0 hL h0.1
 have C2 := Y8 L (at_ + 1 + 1 + 1 + 1) (by omega) hL
 have hI : (ii : j4).l.length ≤ 900000 := by first | omega | (dsimp only; omega)
 have CPL := vN ⟨L, at_ + 1, g, su, re, sl, pa, ar, lo, bs, ii, t⟩ true ⟨hL, by show 0 ≤ at_ + 1 ∧ at_ + 1 ≤ 900000; omega, hb, by show (ii : j4).l.length ≤ (900000 : Int); omega, ha, hal⟩
 obtain ⟨x, hxx⟩ : ∃ x, a6 L at_ % 16 = x := ⟨_, rfl⟩
 rw [hxx] at hc
 have f0 : (x < 3) = False := by simp only [eq_iff_iff, iff_true, iff_false]; omega
 have f1 : (x < 7) = False := by simp only [eq_iff_iff, iff_true, iff_false]; omega
 have f2 : (x = 7) = False := by simp only [eq_iff_iff, iff_true, iff_false]; omega
 have f3 : (x = 8) = False := by simp only [eq_iff_iff, iff_true, iff_false]; omega
 have f4 : (x = 9) = False := by simp only [eq_iff_iff, iff_true, iff_false]; omega
 have f5 : (x = 10) = False := by simp only [eq_iff_iff, iff_true, iff_false]; omega
 have f6 : (x = 11) = False := by simp only [eq_iff_iff, iff_true, iff_false]; omega
 have f7 : (x = 12) = False := by simp only [eq_iff_iff, iff_true, iff_false]; omega
 have f8 : (x = 13) = True := by simp only [eq_iff_iff, iff_true, iff_false]; omega
 obtain ⟨n, hn⟩ : ∃ n, pn ⟨L, at_ + 1, g, su, re, sl, pa, ar, lo, bs, ii, t⟩ true = n := ⟨_, rfl⟩
 obtain ⟨pi, hpi⟩ : ∃ pi, MS.vM ⟨L, at_ + 1, g, su, re, sl, pa, ar, lo, bs, ii, t⟩ true = pi := ⟨_, rfl⟩
 have e : MS.inst ⟨L, at_, g, su, re, sl, pa, ar, lo, bs, ii, t⟩ = (⟨L, at_ + 1 + 1 + 1 + 1 + 1, g, su, re, sl, pa, ar, lo, bs, .own (ii.l ++ [pi]), t⟩ : MS).put (gU L x (at_ + 1 + 1 + 1 + 1) n (G8 L (at_ + 1 + 1))) := by
   unfold MS.inst
   simp only [hxx]
   rw [if_neg (by omega)]
   simp only [f7, not_true_eq_false, not_false_eq_true, decide_true, decide_false, if_true, if_false]
   rw [hn]
   unfold MS.place
   rw [hpi]
   rfl
 rw [e]
 have e2 : gU L x (at_ + 1 + 1 + 1 + 1) n (G8 L (at_ + 1 + 1)) = ⟨7, 0, n, G8 L (at_ + 1 + 1 + 1 + 1), G8 L (at_ + 1 + 1), O0, O0⟩ := by
   unfold gU
   simp only [f0, f1, f2, f3, f4, f5, f6, f7, f8, if_true, if_false]
 rw [e2]
 clear e e2
 simp only [hn, MS.place, hpi] at CPL
 generalize G8 L (at_ + 1 + 1) = d at *
 obtain ⟨dk, dn, dv⟩ := d
 generalize G8 L (at_ + 1 + 1 + 1 + 1) = d2 at *
 obtain ⟨d2k, d2n, d2v⟩ := d2
 clear hn hpi
 generalize a6 L at_ = z at *
 have CP := U1 ⟨L, at_ + 1 + 1 + 1 + 1 + 1, g, su, re, sl, pa, ar, lo, bs, .own (ii.l ++ [pi]), t⟩ ⟨7, 0, n, ⟨d2k, d2n, d2v⟩, ⟨dk, dn, dv⟩, O0, O0⟩ (by show bs.length ≤ _; omega) (by show (ii.l ++ [pi]).length ≤ _; simp only [List.length_append, List.length_cons, List.length_nil]; omega)
 rcases lo with _ | ll <;> rcases ii with _ | li
 all_goals
   try simp only [j4.l, List.length_nil] at hi
   simp only [MS.rows, MS.put, j4.cell, j4.rows, j4.l, j4.k, s6.cell, s6.rows, s6.l, j9.av, J8.av, B7, O5, O0, List.cons_append, List.nil_append, List.append_nil, List.length_append, List.length_cons, List.length_nil, Nat.zero_add] at CP CPL
   simp only [MS.rows, MS.put, j4.cell, j4.rows, j4.l, j4.k, s6.cell, s6.rows, s6.l, j9.av, J8.av, B7, O5, O0, List.cons_append, List.nil_append, List.append_nil]; refine Zf Tryd.func64 Tryd.ntmps64 ?_
   repeat' (first | refine Zl ?_ | (with_reducible first | refine Zz.mk fun N hN mk hmk => ?_ | refine Zb.mk fun N hN => ?_ | refine Zi.mk fun h => ?_ | refine ⟨fun h => ?_, fun h => ?_⟩ | exact True.intro) | refine Ze C0 ?_ | refine Ze C2 ?_ | (refine Zp CPL [0, 1, 2, 3] (Zq Z1.d (Zq hxx (Zq f0 (Zq f1 (Zq f2 (Zq f3 (Zq f4 (Zq f5 (Zq f6 (Zq f7 f8)))))))))) ?_; with_reducible intro _ _) | (refine Zp CPL [0, 1, 2] (Zq Z1.d (Zq hxx (Zq f0 (Zq f1 (Zq f2 (Zq f3 (Zq f4 (Zq f5 (Zq f6 (Zq f7 f8)))))))))) ?_; with_reducible intro _ _) | (refine Zp CPL [0, 1] (Zq Z1.d (Zq hxx (Zq f0 (Zq f1 (Zq f2 (Zq f3 (Zq f4 (Zq f5 (Zq f6 (Zq f7 f8)))))))))) ?_; with_reducible intro _ _) | (refine Zp CP [0, 176, 177, 178] (Zq Z1.d (Zq hxx (Zq f0 (Zq f1 (Zq f2 (Zq f3 (Zq f4 (Zq f5 (Zq f6 (Zq f7 f8)))))))))) ?_; with_reducible intro _ _) | (refine Zp CP [0, 176, 177] (Zq Z1.d (Zq hxx (Zq f0 (Zq f1 (Zq f2 (Zq f3 (Zq f4 (Zq f5 (Zq f6 (Zq f7 f8)))))))))) ?_; with_reducible intro _ _) | (refine hN _ ?_; clear hN N) | (refine Zk hmk ?_; clear hmk mk) | refine Zt (Zq Z1.d (Zq hxx (Zq f0 (Zq f1 (Zq f2 (Zq f3 (Zq f4 (Zq f5 (Zq f6 (Zq f7 f8)))))))))) ?_ | fail)
   (first | (refine Zr (()) [0, 296, 297, 298] (Zq Z1.d (Zq hxx (Zq f0 (Zq f1 (Zq f2 (Zq f3 (Zq f4 (Zq f5 (Zq f6 (Zq f7 f8)))))))))) ?_) | (refine Zr (()) [0, 296, 297] (Zq Z1.d (Zq hxx (Zq f0 (Zq f1 (Zq f2 (Zq f3 (Zq f4 (Zq f5 (Zq f6 (Zq f7 f8)))))))))) ?_))
   trivial
theorem b0Y (L : List Int) (at_ g su re sl pa : Int) (ar : List fL) (lo : s6) (ii : j4) (bs : List c5) (t : u2) (h : gI ⟨L, at_, g, su, re, sl, pa, ar, lo, bs, ii, t⟩ 800000) (hc : 14 ≤ a6 L at_ % 16) : B2 Tryd.prog 64 [.ptr 0 0 0] (MS.rows ⟨L, at_, g, su, re, sl, pa, ar, lo, bs, ii, t⟩) 1 (fun _ : Unit => True) (fun _ => .Q8 []) (fun _ => (MS.inst ⟨L, at_, g, su, re, sl, pa, ar, lo, bs, ii, t⟩).rows) := by
 have ha6 : qN.length = 6 := rfl
 obtain ⟨hL, h0, hb, hi, ha, hal⟩ := h
 dsimp only at hL h0 hb hi ha hal
 have C0 := p9 L at_ (by omega) hL
 have hx := j0 hL h0.1
 have C2 := dU L (at_ + 1 + 1 + 1 + 1) (by omega) hL
 have hI : (ii : j4).l.length ≤ 900000 := by first | omega | (dsimp only; omega)
 have CPL := vN ⟨L, at_ + 1, g, su, re, sl, pa, ar, lo, bs, ii, t⟩ true ⟨hL, by show 0 ≤ at_ + 1 ∧ at_ + 1 ≤ 900000; omega, hb, by show (ii : j4).l.length ≤ (900000 : Int); omega, ha, hal⟩
 obtain ⟨x, hxx⟩ : ∃ x, a6 L at_ % 16 = x := ⟨_, rfl⟩
 rw [hxx] at hc
 have f0 : (x < 3) = False := by simp only [eq_iff_iff, iff_true, iff_false]; omega
 have f1 : (x < 7) = False := by simp only [eq_iff_iff, iff_true, iff_false]; omega
 have f2 : (x = 7) = False := by simp only [eq_iff_iff, iff_true, iff_false]; omega
 have f3 : (x = 8) = False := by simp only [eq_iff_iff, iff_true, iff_false]; omega
 have f4 : (x = 9) = False := by simp only [eq_iff_iff, iff_true, iff_false]; omega
 have f5 : (x = 10) = False := by simp only [eq_iff_iff, iff_true, iff_false]; omega
 have f6 : (x = 11) = False := by simp only [eq_iff_iff, iff_true, iff_false]; omega
 have f7 : (x = 12) = False := by simp only [eq_iff_iff, iff_true, iff_false]; omega
 have f8 : (x = 13) = False := by simp only [eq_iff_iff, iff_true, iff_false]; omega
 obtain ⟨n, hn⟩ : ∃ n, pn ⟨L, at_ + 1, g, su, re, sl, pa, ar, lo, bs, ii, t⟩ true = n := ⟨_, rfl⟩
 obtain ⟨pi, hpi⟩ : ∃ pi, MS.vM ⟨L, at_ + 1, g, su, re, sl, pa, ar, lo, bs, ii, t⟩ true = pi := ⟨_, rfl⟩
 have e : MS.inst ⟨L, at_, g, su, re, sl, pa, ar, lo, bs, ii, t⟩ = (⟨L, at_ + 1 + 1 + 1 + 1 + 1, g, su, re, sl, pa, ar, lo, bs, .own (ii.l ++ [pi]), t⟩ : MS).put (gU L x (at_ + 1 + 1 + 1 + 1) n (G8 L (at_ + 1 + 1))) := by
   unfold MS.inst
   simp only [hxx]
   rw [if_neg (by omega)]
   simp only [f7, not_true_eq_false, not_false_eq_true, decide_true, decide_false, if_true, if_false]
   rw [hn]
   unfold MS.place
   rw [hpi]
   rfl
 rw [e]
 have e2 : gU L x (at_ + 1 + 1 + 1 + 1) n (G8 L (at_ + 1 + 1)) = ⟨8, 0, n, O0, G8 L (at_ + 1 + 1), X2 L (at_ + 1 + 1 + 1 + 1), O0⟩ := by
   unfold gU
   simp only [f0, f1, f2, f3, f4, f5, f6, f7, f8, if_true, if_false]
 rw [e2]
 clear e e2
 simp only [hn, MS.place, hpi] at CPL
 generalize G8 L (at_ + 1 + 1) = d at *
 obtain ⟨dk, dn, dv⟩ := d
 generalize X2 L (at_ + 1 + 1 + 1 + 1) = v at *
 obtain ⟨vk, vn, vv⟩ := v
 clear hn hpi
 generalize a6 L at_ = z at *
 have CP := U1 ⟨L, at_ + 1 + 1 + 1 + 1 + 1, g, su, re, sl, pa, ar, lo, bs, .own (ii.l ++ [pi]), t⟩ ⟨8, 0, n, O0, ⟨dk, dn, dv⟩, ⟨vk, vn, vv⟩, O0⟩ (by show bs.length ≤ _; omega) (by show (ii.l ++ [pi]).length ≤ _; simp only [List.length_append, List.length_cons, List.length_nil]; omega)
 rcases lo with _ | ll <;> rcases ii with _ | li
 all_goals
   try simp only [j4.l, List.length_nil] at hi
   simp only [MS.rows, MS.put, j4.cell, j4.rows, j4.l, j4.k, s6.cell, s6.rows, s6.l, j9.av, J8.av, B7, O5, O0, List.cons_append, List.nil_append, List.append_nil, List.length_append, List.length_cons, List.length_nil, Nat.zero_add] at CP CPL
   simp only [MS.rows, MS.put, j4.cell, j4.rows, j4.l, j4.k, s6.cell, s6.rows, s6.l, j9.av, J8.av, B7, O5, O0, List.cons_append, List.nil_append, List.append_nil]; refine Zf Tryd.func64 Tryd.ntmps64 ?_
   repeat' (first | refine Zl ?_ | (with_reducible first | refine Zz.mk fun N hN mk hmk => ?_ | refine Zb.mk fun N hN => ?_ | refine Zi.mk fun h => ?_ | refine ⟨fun h => ?_, fun h => ?_⟩ | exact True.intro) | refine Ze C0 ?_ | refine Ze C2 ?_ | (refine Zp CPL [0, 1, 2, 3] (Zq Z1.d (Zq hxx (Zq f0 (Zq f1 (Zq f2 (Zq f3 (Zq f4 (Zq f5 (Zq f6 (Zq f7 f8)))))))))) ?_; with_reducible intro _ _) | (refine Zp CPL [0, 1, 2] (Zq Z1.d (Zq hxx (Zq f0 (Zq f1 (Zq f2 (Zq f3 (Zq f4 (Zq f5 (Zq f6 (Zq f7 f8)))))))))) ?_; with_reducible intro _ _) | (refine Zp CPL [0, 1] (Zq Z1.d (Zq hxx (Zq f0 (Zq f1 (Zq f2 (Zq f3 (Zq f4 (Zq f5 (Zq f6 (Zq f7 f8)))))))))) ?_; with_reducible intro _ _) | (refine Zp CP [0, 176, 177, 178] (Zq Z1.d (Zq hxx (Zq f0 (Zq f1 (Zq f2 (Zq f3 (Zq f4 (Zq f5 (Zq f6 (Zq f7 f8)))))))))) ?_; with_reducible intro _ _) | (refine Zp CP [0, 176, 177] (Zq Z1.d (Zq hxx (Zq f0 (Zq f1 (Zq f2 (Zq f3 (Zq f4 (Zq f5 (Zq f6 (Zq f7 f8)))))))))) ?_; with_reducible intro _ _) | (refine hN _ ?_; clear hN N) | (refine Zk hmk ?_; clear hmk mk) | refine Zt (Zq Z1.d (Zq hxx (Zq f0 (Zq f1 (Zq f2 (Zq f3 (Zq f4 (Zq f5 (Zq f6 (Zq f7 f8)))))))))) ?_ | fail)
   (first | (refine Zr (()) [0, 296, 297, 298] (Zq Z1.d (Zq hxx (Zq f0 (Zq f1 (Zq f2 (Zq f3 (Zq f4 (Zq f5 (Zq f6 (Zq f7 f8)))))))))) ?_) | (refine Zr (()) [0, 296, 297] (Zq Z1.d (Zq hxx (Zq f0 (Zq f1 (Zq f2 (Zq f3 (Zq f4 (Zq f5 (Zq f6 (Zq f7 f8)))))))))) ?_))
   trivial
end Go.Proofs.YtfccigmfcpimgaaDoor
end
