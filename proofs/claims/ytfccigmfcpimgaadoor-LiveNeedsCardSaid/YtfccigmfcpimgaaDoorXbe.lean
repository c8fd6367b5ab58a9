/- Own work (by an AI agent; no person has read it): part of a proof of the seat YtfccigmfcpimgaaDoor. -/
import Derived.Test.YtfccigmfcpimgaaDoorXba
set_option linter.unusedSimpArgs false
set_option linter.unusedVariables false
set_option maxRecDepth 100000
set_option maxHeartbeats 10000000
section
namespace Go.Proofs.YtfccigmfcpimgaaDoor
open Go.Ab
theorem a1t {x : Int} (h : 0 ≤ x ∧ x < 256) : IntKind.u8.wrap x = x := by simp [IntKind.wrap, IntKind.bits, IntKind.signed]; omega
def b3C := ZZ.mk (Zq @s8 (Zq @z8 (Zq @H4 (Zq @u7 (Zq @b8 (Zq @ne_eq.{1} (Zq @not_true_eq_false (Zq @decide_false (Zq @decide_true (Zq @Int.toNat_natCast (Zq @b5 @b6)))))))))))
def b3D := ZZ.mk (Zq @s8 (Zq @z8 (Zq @H4 (Zq @u7 (Zq @B4 (Zq @N9 (Zq @b8 (Zq @ne_eq.{1} (Zq @not_true_eq_false (Zq @decide_false (Zq @decide_true (Zq @Int.toNat_natCast (Zq @b5 @b6)))))))))))))
theorem b1n (L : List Int) (hL : A5 L) (z0 z1 : Int) (out : Bool) (hz : u8 z0 ∧ u8 z1) :
   e8 Tryd.prog 5 [.agg [.b7 false (dJ L)], .agg [.v (.int .u8 z0), .v (.int .u8 z1)], .v (.bool out)] (fun _ => .v (.bool true)) (fun _ => []) := by
 have hz0 : 0 ≤ z0 ∧ z0 < 256 := hz.1
 have hz2 : 0 ≤ z1 ∧ z1 < 256 := hz.2
 have CE := bW
 have CM := kT L hL
 obtain ⟨hc, h12⟩ := hZ L hL
 generalize lQ L = c at *
 have hcn := hc.n
 have hcr := hc.r
 have CF := gO c hc
 obtain ⟨l1, l2⟩ := U5 hc
 obtain ⟨k1, k2⟩ := aQ hc
 have q1 : M2 100 (liveF c).1 := fun z => S7 k1 hcr.1 (by omega) z
 have q2 : M2 100 (liveF c).2 := fun z => S7 k2 hcr.1 (by omega) z
 have hls := fun J Q (h : chkF c J Q = 0) => uR hc h
 obtain ⟨b, hz1, hb⟩ : ∃ b : Nat, z0.tmod (c.b.length : Int) = b ∧ b < c.b.length := by
   have h3 := Int.emod_nonneg z0 (show (c.b.length : Int) ≠ 0 by omega)
   have h4 := Int.emod_lt_of_pos z0 (show (0 : Int) < c.b.length by omega)
   exact ⟨(z0 % c.b.length).toNat, by rw [p7 _ _ hz.1.1]; omega, by omega⟩
 generalize (liveF c).1 = I at *
 generalize (liveF c).2 = O at *
 simp only [Code.av] at CM CF
 cases out
 · skip
   have hlL : ((I).getD b []).length ≤ 100 := q1 b
   obtain ⟨l, hl⟩ : ∃ l, (I).getD b [] = l := ⟨_, rfl⟩
   rw [hl] at hlL
   by_cases h0 : l = []
   · have hll : ((l.length : Int) = 0) = True := by simp [h0]
     refine Zf Tryd.func5 Tryd.ntmps5 ?_
     repeat' (first | refine Za ?_ | (with_reducible first | refine Zz.mk fun N hN mk hmk => ?_ | refine Zb.mk fun N hN => ?_ | refine Zi.mk fun h => ?_ | refine ⟨fun h => ?_, fun h => ?_⟩ | exact True.intro) | refine Zc CE ?_ | refine Zc CM ?_ | refine Zc CF ?_ | (refine hN _ ?_; clear hN N) | (refine Zk hmk ?_; clear hmk mk) | refine Zt (Zq b3C.d (Zq hll (Zq hz1 (Zq hl (Zq l1 l2))))) ?_ | fail)
   · have hpos : 0 < l.length := List.length_pos_iff.2 h0
     have hll : ((l.length : Int) = 0) = False := by simp [h0]
     obtain ⟨k, hk, hkl⟩ : ∃ k : Nat, z1.tmod (l.length : Int) = k ∧ k < l.length := by
       have h3 := Int.emod_nonneg z1 (show (l.length : Int) ≠ 0 by omega)
       have h4 := Int.emod_lt_of_pos z1 (show (0 : Int) < l.length by omega)
       exact ⟨(z1 % l.length).toNat, by rw [p7 _ _ hz.2.1]; omega, by omega⟩
     have hm : l.getD k 0 ∈ l := by rw [bK hkl]; exact List.getElem_mem hkl
     have hrb := (N8 k1 b).1 (l.getD k 0) (by rw [hl]; exact hm)
     obtain ⟨r, hr⟩ : ∃ r, l.getD k 0 = r := ⟨_, rfl⟩
     rw [hr] at hm hrb
     have CX := eQ c I O 0 b (r + 1) hc l1 l2 (by omega) (by omega) (by omega) (fun z => by have := q1 z; omega) (fun z => by have := q2 z; omega)
     obtain ⟨m1, m2⟩ := cE (c := c) (d0 := 0) (d1 := b) (d2 := r + 1) l1 l2
     obtain ⟨p1, p2⟩ := bH (c := c) (d0 := 0) (d1 := b) (d2 := r + 1) q1 q2
     have hch : chkF c (A8 c I O 0 b (r + 1)).1 (A8 c I O 0 b (r + 1)).2 = 100 := by
       rcases b0d c (A8 c I O 0 b (r + 1)).1 (A8 c I O 0 b (r + 1)).2 with h | h
       · exfalso
         have gD := hls _ _ h b
         have hB : nE c (b : Int) = b := by unfold nE; rw [Int.emod_eq_of_lt (by omega) (by omega), Int.toNat_natCast]
         have hN : wZ c (r + 1) = r := by unfold wZ; rw [Int.emod_eq_of_lt (by omega) (by omega)]; omega
         have hw : wY l r = l8 l r := by
           unfold wY
           rw [if_neg]
           intro e
           have e2 : l8 l r = l := by unfold l8 at e ⊢; exact List.filter_sublist.eq_of_length e
           exact (T7.1 (by rw [e2]; exact hm)).2 rfl
         have hnm : r ∉ (A8 c I O 0 b (r + 1)).1.getD b [] := by
           unfold A8
           rw [if_neg (by decide), hB, hN, hl, hw]
           show r ∉ (I.set b (l8 l r)).getD b []
           rw [z7, if_pos ⟨rfl, by omega⟩]
           intro hh
           exact (T7.1 hh).2 rfl
         exact hnm (gD.1 r (by rw [hl]; exact hm))
       · exact h
     generalize (A8 c I O 0 b (r + 1)).1 = J at *
     generalize (A8 c I O 0 b (r + 1)).2 = Q at *
     have CC := P7 c J Q hc (by omega) (fun z => by have := p1 z; omega) (by omega) (fun z => by have := p2 z; omega)
     rw [hch] at CC
     simp only [Code.av] at CX CC
     have hw1 : IntKind.u8.wrap (b : Int) = b := a1t (by omega)
     have hw2 : IntKind.u8.wrap (r + 1) = r + 1 := a1t (by omega)
     refine Zf Tryd.func5 Tryd.ntmps5 ?_
     repeat' (first | refine Za ?_ | (with_reducible first | refine Zz.mk fun N hN mk hmk => ?_ | refine Zb.mk fun N hN => ?_ | refine Zi.mk fun h => ?_ | refine ⟨fun h => ?_, fun h => ?_⟩ | exact True.intro) | refine Zc CE ?_ | refine Zc CM ?_ | refine Zc CF ?_ | refine Zc CX ?_ | refine Zc CC ?_ | (refine hN _ ?_; clear hN N) | (refine Zk hmk ?_; clear hmk mk) | refine Zt (Zq b3D.d (Zq hw1 (Zq hw2 (Zq hk (Zq hr (Zq hll (Zq hz1 (Zq hl (Zq l1 l2))))))))) ?_ | fail)
 · skip
   have hlL : ((O).getD b []).length ≤ 100 := q2 b
   obtain ⟨l, hl⟩ : ∃ l, (O).getD b [] = l := ⟨_, rfl⟩
   rw [hl] at hlL
   by_cases h0 : l = []
   · have hll : ((l.length : Int) = 0) = True := by simp [h0]
     refine Zf Tryd.func5 Tryd.ntmps5 ?_
     repeat' (first | refine Za ?_ | (with_reducible first | refine Zz.mk fun N hN mk hmk => ?_ | refine Zb.mk fun N hN => ?_ | refine Zi.mk fun h => ?_ | refine ⟨fun h => ?_, fun h => ?_⟩ | exact True.intro) | refine Zc CE ?_ | refine Zc CM ?_ | refine Zc CF ?_ | (refine hN _ ?_; clear hN N) | (refine Zk hmk ?_; clear hmk mk) | refine Zt (Zq b3C.d (Zq hll (Zq hz1 (Zq hl (Zq l1 l2))))) ?_ | fail)
   · have hpos : 0 < l.length := List.length_pos_iff.2 h0
     have hll : ((l.length : Int) = 0) = False := by simp [h0]
     obtain ⟨k, hk, hkl⟩ : ∃ k : Nat, z1.tmod (l.length : Int) = k ∧ k < l.length := by
       have h3 := Int.emod_nonneg z1 (show (l.length : Int) ≠ 0 by omega)
       have h4 := Int.emod_lt_of_pos z1 (show (0 : Int) < l.length by omega)
       exact ⟨(z1 % l.length).toNat, by rw [p7 _ _ hz.2.1]; omega, by omega⟩
     have hm : l.getD k 0 ∈ l := by rw [bK hkl]; exact List.getElem_mem hkl
     have hrb := (N8 k2 b).1 (l.getD k 0) (by rw [hl]; exact hm)
     obtain ⟨r, hr⟩ : ∃ r, l.getD k 0 = r := ⟨_, rfl⟩
     rw [hr] at hm hrb
     have CX := eQ c I O 1 b (r + 1) hc l1 l2 (by omega) (by omega) (by omega) (fun z => by have := q1 z; omega) (fun z => by have := q2 z; omega)
     obtain ⟨m1, m2⟩ := cE (c := c) (d0 := 1) (d1 := b) (d2 := r + 1) l1 l2
     obtain ⟨p1, p2⟩ := bH (c := c) (d0 := 1) (d1 := b) (d2 := r + 1) q1 q2
     have hch : chkF c (A8 c I O 1 b (r + 1)).1 (A8 c I O 1 b (r + 1)).2 = 100 := by
       rcases b0d c (A8 c I O 1 b (r + 1)).1 (A8 c I O 1 b (r + 1)).2 with h | h
       · exfalso
         have gD := hls _ _ h b
         have hB : nE c (b : Int) = b := by unfold nE; rw [Int.emod_eq_of_lt (by omega) (by omega), Int.toNat_natCast]
         have hN : wZ c (r + 1) = r := by unfold wZ; rw [Int.emod_eq_of_lt (by omega) (by omega)]; omega
         have hw : wY l r = l8 l r := by
           unfold wY
           rw [if_neg]
           intro e
           have e2 : l8 l r = l := by unfold l8 at e ⊢; exact List.filter_sublist.eq_of_length e
           exact (T7.1 (by rw [e2]; exact hm)).2 rfl
         have hnm : r ∉ (A8 c I O 1 b (r + 1)).2.getD b [] := by
           unfold A8
           rw [if_pos (by decide), hB, hN, hl, hw]
           show r ∉ (O.set b (l8 l r)).getD b []
           rw [z7, if_pos ⟨rfl, by omega⟩]
           intro hh
           exact (T7.1 hh).2 rfl
         exact hnm (gD.2 r (by rw [hl]; exact hm))
       · exact h
     generalize (A8 c I O 1 b (r + 1)).1 = J at *
     generalize (A8 c I O 1 b (r + 1)).2 = Q at *
     have CC := P7 c J Q hc (by omega) (fun z => by have := p1 z; omega) (by omega) (fun z => by have := p2 z; omega)
     rw [hch] at CC
     simp only [Code.av] at CX CC
     have hw1 : IntKind.u8.wrap (b : Int) = b := a1t (by omega)
     have hw2 : IntKind.u8.wrap (r + 1) = r + 1 := a1t (by omega)
     refine Zf Tryd.func5 Tryd.ntmps5 ?_
     repeat' (first | refine Za ?_ | (with_reducible first | refine Zz.mk fun N hN mk hmk => ?_ | refine Zb.mk fun N hN => ?_ | refine Zi.mk fun h => ?_ | refine ⟨fun h => ?_, fun h => ?_⟩ | exact True.intro) | refine Zc CE ?_ | refine Zc CM ?_ | refine Zc CF ?_ | refine Zc CX ?_ | refine Zc CC ?_ | (refine hN _ ?_; clear hN N) | (refine Zk hmk ?_; clear hmk mk) | refine Zt (Zq b3D.d (Zq hw1 (Zq hw2 (Zq hk (Zq hr (Zq hll (Zq hz1 (Zq hl (Zq l1 l2))))))))) ?_ | fail)
end Go.Proofs.YtfccigmfcpimgaaDoor
end
