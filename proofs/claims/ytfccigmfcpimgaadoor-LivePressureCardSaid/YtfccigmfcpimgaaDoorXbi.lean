/- Own work (by an AI agent; no person has read it): part of a proof of the seat YtfccigmfcpimgaaDoor. -/
import Derived.Test.YtfccigmfcpimgaaDoorXba
import Derived.Test.YtfccigmfcpimgaaDoorXbh
set_option linter.unusedSimpArgs false
set_option linter.unusedVariables false
set_option maxRecDepth 100000
set_option maxHeartbeats 10000000
section
namespace Go.Proofs.YtfccigmfcpimgaaDoor
open Go.Ab
def b3E := ZZ.mk (Zq @gt_iff_lt.{0} (Zq @s8 (Zq @b8 (Zq @ne_eq.{1} (Zq @not_true_eq_false (Zq @decide_false (Zq @b5 @b6)))))))
def b3F := ZZ.mk (Zq @gt_iff_lt.{0} (Zq @z8 (Zq @H4 (Zq @s7 (Zq @s8 (Zq @u7 (Zq @b8 (Zq @ne_eq.{1} (Zq @not_true_eq_false (Zq @decide_false (Zq @b5 @b6)))))))))))
theorem b1F (L : List Int) (hL : A5 L) (n : Int) (hn : 0 ≤ n ∧ n < 65536) :
   e8 Tryd.prog 6 [.agg [.b7 false (dJ L)], .v (.int .u16 n)] (fun _ => .v (.bool true)) (fun _ => []) := by
 have CE := bW
 have CM := kT L hL
 obtain ⟨hc, h12⟩ := hZ L hL
 generalize lQ L = c at *
 have hcn := hc.n
 have hcr := hc.r
 have CF := gO c hc
 obtain ⟨l1, l2⟩ := U5 hc
 obtain ⟨k1, k2⟩ := aQ hc
 have q1 : M2 100 (liveF c).1 := fun z => S7 k1 hcr.1 (by omega) z
 have q2 : M2 100 (liveF c).2 := fun z => S7 k2 hcr.1 (by omega) z
 have CM2 := vV c hc n (fun z => ⟨q1 z, q2 z⟩) ⟨l1, l2⟩
 rw [show V2 n c.r9.toNat (liveF c).1 c.b.length = moreI c n from rfl, show V2 n c.r9.toNat (liveF c).2 c.b.length = moreO c n from rfl] at CM2
 obtain ⟨ml1, ml2⟩ := iF hc n
 obtain ⟨mk1, mk2⟩ := eJ hc n
 have P1 := cD c _ _ hc h12 k1 k2 l1 l2
 have P3 := cD c _ _ hc h12 mk1 mk2 ml1 ml2
 obtain ⟨g1, g2, g3, g4⟩ := a5z hc n
 clear mk1 mk2 k1 k2 ml1 ml2
 generalize prF c (liveF c).1 (liveF c).2 c.b.length = p1 at *
 generalize prF c (moreI c n) (moreO c n) c.b.length = p2 at *
 generalize moreI c n = MI at *
 generalize moreO c n = MO at *
 generalize (liveF c).1 = I at *
 generalize (liveF c).2 = O at *
 simp only [Code.av] at CM CF CM2 P1 P3
 have t1 : (p1 < 0) = False := eq_false (by omega)
 have t2 : (p2 < p1) = False := eq_false (by omega)
 have t3 : (c.r9 < p2) = False := eq_false (by omega)
 refine Zf Tryd.func6 Tryd.ntmps6 ?_
 repeat' (first | refine Za ?_ | (with_reducible first | refine Zz.mk fun N hN mk hmk => ?_ | refine Zb.mk fun N hN => ?_ | refine Zi.mk fun h => ?_ | refine ⟨fun h => ?_, fun h => ?_⟩ | exact True.intro) | refine Zc CE ?_ | refine Zc CM ?_ | refine Zc CF ?_ | refine Zc CM2 ?_ | refine Zc P1 ?_ | refine Zc P3 ?_ | (refine hN _ ?_; clear hN N) | (refine Zk hmk ?_; clear hmk mk) | refine Zt (Zq b3E.d (Zq t1 (Zq t2 (Zq t3 (Zq l1 l2))))) ?_ | fail)
 refine l9 (fun i => ⟨[.dead, .dead, .dead, .dead, .v (.bool false), .v (.bool true), .ptr 0 0 0, .ptr 1 0 0, .dead, .v (.int .i64 p1), .dead, .v (.int .i64 i), .dead, .dead, .dead, .dead, .dead, .dead, .dead, .dead, .dead, .dead, .dead, .dead, .dead, .dead, .dead, .dead, .dead, .dead, .dead, .dead, .dead, .dead, .dead, .dead, .dead, .dead, .dead, .dead, .dead, .dead, .dead, .dead, .dead, .dead, .dead, .dead, .dead, .dead, .dead, .dead, .dead, .dead, .dead, .dead, .dead, .dead, .dead, .dead, .dead, .dead, .dead, .dead, .dead, .dead, .dead, .dead, .dead, .dead, .dead, .dead, .dead, .dead, .dead, .dead], [(0, .live ⟨8, [[.v (.int .i64 c.group), .v (.int .i64 c.sub), .v (.int .i64 c.r9), .v (.int .i64 c.L3), .v (.int .i64 c.params), .b7 false (Q5 c.D7), .b7 false (loops c.loops), .b7 false (E0 c.b)]], 0⟩), (1, .live ⟨2, [[.b7 false (lists I), .b7 false (lists O)]], 0⟩)], 2⟩) c.b.length (Zw [4,5,6,7,9,11] [64, 120] (Zq b3E.d (Zq t1 (Zq t2 (Zq t3 (Zq l1 l2))))) ?_) ?_
 · rfl
 · intro i hi
   dsimp only
   by_cases hib : i < c.b.length
   · obtain ⟨g5, g6⟩ := g4 i hib
     have t4 : (p1 < ((I.getD i []).length : Int)) = False := eq_false (by omega)
     have t5 : (p1 < ((O.getD i []).length : Int)) = False := eq_false (by omega)
     repeat' (first | refine Za ?_ | (with_reducible first | refine Zz.mk fun N hN mk hmk => ?_ | refine Zb.mk fun N hN => ?_ | refine Zi.mk fun h => ?_ | refine ⟨fun h => ?_, fun h => ?_⟩ | exact True.intro) | (refine hN _ ?_; clear hN N) | (refine Zk hmk ?_; clear hmk mk) | refine Zt (Zq b3F.d (Zq t4 (Zq t5 (Zq l1 l2)))) ?_ | fail)
     refine Zw [4,5,6,7,9,11] [0, 1] (Zq b3F.d (Zq t4 (Zq t5 (Zq l1 l2)))) ?_
     rfl
   ·
     repeat' (first | refine Za ?_ | (with_reducible first | refine Zz.mk fun N hN mk hmk => ?_ | refine Zb.mk fun N hN => ?_ | refine Zi.mk fun h => ?_ | refine ⟨fun h => ?_, fun h => ?_⟩ | exact True.intro) | (refine hN _ ?_; clear hN N) | (refine Zk hmk ?_; clear hmk mk) | refine Zt b2l.d ?_ | fail)
end Go.Proofs.YtfccigmfcpimgaaDoor
end
