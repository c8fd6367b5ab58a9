/- Own work (by an AI agent; no person has read it): part of a proof of the seat YtfccigmfcpimgaaDoor. -/
import Derived.Test.YtfccigmfcpimgaaDoorXn
set_option linter.unusedSimpArgs false
set_option linter.unusedVariables false
set_option maxRecDepth 100000
set_option maxHeartbeats 10000000
section
namespace Go.Proofs.YtfccigmfcpimgaaDoor
open Go.Ab
def Z0 := ZZ.mk (Zq @E4 (Zq @v7 (Zq @w9 (Zq @b8 (Zq @m6 (Zq @u4 (Zq @l0 (Zq @c9 (Zq @m7 (Zq @y0 (Zq @p0 (Zq @o7 (Zq @y3 (Zq @n5 (Zq @y5 (Zq @y4 (Zq @x8 (Zq @x7 (Zq @o5 (Zq @b5 (Zq @b6 (Zq @A7 (Zq @J5 (Zq @v8 (Zq @u9 (Zq @qK (Zq @p7 (Zq @J8.av.eq_1 (Zq @B7.eq_1 (Zq @fL.av.eq_1 @O0.eq_1))))))))))))))))))))))))))))))
theorem b3b (L : List Int) (at_ g su re sl pa : Int) (ar : List fL) (lo : s6) (ii : j4) (bs : List c5) (t : u2) (pr : Bool) (h : gI ⟨L, at_, g, su, re, sl, pa, ar, lo, bs, ii, t⟩ 900000) : B2 Tryd.prog 75 [.ptr 0 0 0, .v (.bool pr)] (MS.rows ⟨L, at_, g, su, re, sl, pa, ar, lo, bs, ii, t⟩) 1 (fun _ : Unit => True) (fun _ => .Q8 [.v (.int .i64 (pn ⟨L, at_, g, su, re, sl, pa, ar, lo, bs, ii, t⟩ pr)), .agg (G8 L (at_ + 1)).av]) (fun _ => (MS.place ⟨L, at_, g, su, re, sl, pa, ar, lo, bs, ii, t⟩ pr).rows) := by
 obtain ⟨hL, h0, hb, hi, ha, hal⟩ := h
 dsimp only at hL h0 hb hi ha hal
 have hx := j0 hL h0.1
 have C1 := p9 L at_ (by omega) hL
 have C2 := Y8 L (at_ + 1) (by omega) hL
 have C3 := dU L (at_ + 1 + 1) (by omega) hL
 unfold MS.place MS.vM pn
 generalize a6 L at_ = x at *
 generalize G8 L (at_ + 1) = d at *
 generalize X2 L (at_ + 1 + 1) = v at *
 have CC := fun n : Int => Q0 (w32 ((ar.getD n.toNat A0).len - 1))
 have CP := fun n : Int => U1 ⟨L, at_ + 1 + 1 + 1, g, su, re, sl, pa, ar, lo, bs, ii, t⟩ ⟨3, 17, 0, d, v, B7 (w32 ((ar.getD n.toNat A0).len - 1)), O0⟩ (by show bs.length ≤ _; omega) (by first | omega | (dsimp only; omega))
 obtain ⟨dk, dn, dv⟩ := d
 obtain ⟨vk, vn, vv⟩ := v
 rcases lo with _ | ll <;> rcases ii with _ | li
 all_goals
   try simp only [j4.l, List.length_nil] at hi
   simp only [MS.rows, MS.put, j4.cell, j4.rows, j4.l, j4.k, s6.cell, s6.rows, s6.l, j9.av, J8.av, B7, O5, O0, List.cons_append, List.nil_append, List.append_nil] at CP hi
   simp only
   by_cases h3 : x % 5 = 3 ∧ pr = false
   · rw [if_pos h3]
     obtain ⟨h3, rfl⟩ := h3
     have hal2 := hal 0 (by omega)
     have CC := CC 0
     have CP := CP 0
     simp only [show Int.toNat 0 = 0 from rfl] at CC CP ⊢
     simp only [MS.rows, MS.put, j4.cell, j4.rows, j4.l, j4.k, s6.cell, s6.rows, s6.l, j9.av, J8.av, B7, O5, O0, List.cons_append, List.nil_append, List.append_nil]; refine Zf Tryd.func75 Tryd.ntmps75 ?_
     repeat' (first | refine Zl ?_ | (with_reducible first | refine Zz.mk fun N hN mk hmk => ?_ | refine Zb.mk fun N hN => ?_ | refine Zi.mk fun h => ?_ | refine ⟨fun h => ?_, fun h => ?_⟩ | exact True.intro) | refine Ze C1 ?_ | refine Ze C2 ?_ | refine Ze C3 ?_ | refine Zc CC ?_ | (refine Zp CP [0, 1, 2, 3] (Zq Z0.d (Zq h3 ha)) ?_; with_reducible intro _ _) | (refine Zp CP [0, 1, 2] (Zq Z0.d (Zq h3 ha)) ?_; with_reducible intro _ _) | (refine Zp CP [0, 1] (Zq Z0.d (Zq h3 ha)) ?_; with_reducible intro _ _) | (refine hN _ ?_; clear hN N) | (refine Zk hmk ?_; clear hmk mk) | refine Zt (Zq Z0.d (Zq h3 ha)) ?_ | fail)
     (first | (refine Zr (()) [0, 280, 281, 282] (Zq Z0.d (Zq h3 ha)) ?_) | (refine Zr (()) [0, 280, 281] (Zq Z0.d (Zq h3 ha)) ?_))
     trivial
   · rw [if_neg h3]
     obtain ⟨n, hn⟩ : ∃ n, x % 5 = n := ⟨_, rfl⟩
     rw [hn] at h3 ⊢
     have hn5 : 0 ≤ n ∧ n < 5 := by omega
     have hal2 := hal n.toNat (by omega)
     have CC := CC n
     have CP := CP n
     cases pr with
     | false =>
       have h4 : (n = 3) = False := by simpa using h3
       clear h3
       simp only [MS.rows, MS.put, j4.cell, j4.rows, j4.l, j4.k, s6.cell, s6.rows, s6.l, j9.av, J8.av, B7, O5, O0, List.cons_append, List.nil_append, List.append_nil]; refine Zf Tryd.func75 Tryd.ntmps75 ?_
       repeat' (first | refine Zl ?_ | (with_reducible first | refine Zz.mk fun N hN mk hmk => ?_ | refine Zb.mk fun N hN => ?_ | refine Zi.mk fun h => ?_ | refine ⟨fun h => ?_, fun h => ?_⟩ | exact True.intro) | refine Ze C1 ?_ | refine Ze C2 ?_ | refine Ze C3 ?_ | refine Zc CC ?_ | (refine Zp CP [0, 1, 2, 3] (Zq Z0.d (Zq hn (Zq h4 ha))) ?_; with_reducible intro _ _) | (refine Zp CP [0, 1, 2] (Zq Z0.d (Zq hn (Zq h4 ha))) ?_; with_reducible intro _ _) | (refine Zp CP [0, 1] (Zq Z0.d (Zq hn (Zq h4 ha))) ?_; with_reducible intro _ _) | (refine hN _ ?_; clear hN N) | (refine Zk hmk ?_; clear hmk mk) | refine Zt (Zq Z0.d (Zq hn (Zq h4 ha))) ?_ | fail)
       (first | (refine Zr (()) [0, 256, 257, 258] (Zq Z0.d (Zq hn (Zq h4 ha))) ?_) | (refine Zr (()) [0, 256, 257] (Zq Z0.d (Zq hn (Zq h4 ha))) ?_))
       trivial
     | true =>
       clear h3
       by_cases h4 : n = 3
       · have h4 : (n = 3) = True := by simpa using h4
         simp only [MS.rows, MS.put, j4.cell, j4.rows, j4.l, j4.k, s6.cell, s6.rows, s6.l, j9.av, J8.av, B7, O5, O0, List.cons_append, List.nil_append, List.append_nil]; refine Zf Tryd.func75 Tryd.ntmps75 ?_
         repeat' (first | refine Zl ?_ | (with_reducible first | refine Zz.mk fun N hN mk hmk => ?_ | refine Zb.mk fun N hN => ?_ | refine Zi.mk fun h => ?_ | refine ⟨fun h => ?_, fun h => ?_⟩ | exact True.intro) | refine Ze C1 ?_ | refine Ze C2 ?_ | refine Ze C3 ?_ | refine Zc CC ?_ | (refine Zp CP [0, 1, 2, 3] (Zq Z0.d (Zq hn (Zq h4 ha))) ?_; with_reducible intro _ _) | (refine Zp CP [0, 1, 2] (Zq Z0.d (Zq hn (Zq h4 ha))) ?_; with_reducible intro _ _) | (refine Zp CP [0, 1] (Zq Z0.d (Zq hn (Zq h4 ha))) ?_; with_reducible intro _ _) | (refine hN _ ?_; clear hN N) | (refine Zk hmk ?_; clear hmk mk) | refine Zt (Zq Z0.d (Zq hn (Zq h4 ha))) ?_ | fail)
         (first | (refine Zr (()) [0, 272, 273, 274] (Zq Z0.d (Zq hn (Zq h4 ha))) ?_) | (refine Zr (()) [0, 272, 273] (Zq Z0.d (Zq hn (Zq h4 ha))) ?_))
         trivial
       · have h4 : (n = 3) = False := by simpa using h4
         simp only [MS.rows, MS.put, j4.cell, j4.rows, j4.l, j4.k, s6.cell, s6.rows, s6.l, j9.av, J8.av, B7, O5, O0, List.cons_append, List.nil_append, List.append_nil]; refine Zf Tryd.func75 Tryd.ntmps75 ?_
         repeat' (first | refine Zl ?_ | (with_reducible first | refine Zz.mk fun N hN mk hmk => ?_ | refine Zb.mk fun N hN => ?_ | refine Zi.mk fun h => ?_ | refine ⟨fun h => ?_, fun h => ?_⟩ | exact True.intro) | refine Ze C1 ?_ | refine Ze C2 ?_ | refine Ze C3 ?_ | refine Zc CC ?_ | (refine Zp CP [0, 1, 2, 3] (Zq Z0.d (Zq hn (Zq h4 ha))) ?_; with_reducible intro _ _) | (refine Zp CP [0, 1, 2] (Zq Z0.d (Zq hn (Zq h4 ha))) ?_; with_reducible intro _ _) | (refine Zp CP [0, 1] (Zq Z0.d (Zq hn (Zq h4 ha))) ?_; with_reducible intro _ _) | (refine hN _ ?_; clear hN N) | (refine Zk hmk ?_; clear hmk mk) | refine Zt (Zq Z0.d (Zq hn (Zq h4 ha))) ?_ | fail)
         (first | (refine Zr (()) [0, 256, 257, 258] (Zq Z0.d (Zq hn (Zq h4 ha))) ?_) | (refine Zr (()) [0, 256, 257] (Zq Z0.d (Zq hn (Zq h4 ha))) ?_))
         trivial
end Go.Proofs.YtfccigmfcpimgaaDoor
end
