/- Own work (by an AI agent; no person has read it): part of a proof of the seat YtfccigmfcpimgaaDoor. -/
import Derived.Test.YtfccigmfcpimgaaDoorXm
import Derived.Test.YtfccigmfcpimgaaDoorXw
import Derived.Test.YtfccigmfcpimgaaDoorXx
import Derived.Test.YtfccigmfcpimgaaDoorXy
set_option linter.unusedSimpArgs false
set_option linter.unusedVariables false
set_option maxRecDepth 100000
set_option maxHeartbeats 10000000
section
namespace Go.Proofs.YtfccigmfcpimgaaDoor
open Go.Ab
def nA := ZZ.mk (Zq @b8 (Zq @ne_eq.{1} (Zq @not_true_eq_false (Zq @decide_false (Zq @b5 @b6)))))
theorem a5H (L : List Int) (hL : A5 L) (d0 d1 d2 e0 e1 e2 n : Int) (hd0 : 0 ≤ d0 ∧ d0 < 256) (hd1 : 0 ≤ d1 ∧ d1 < 256) (hd2 : 0 ≤ d2 ∧ d2 < 256) (he0 : 0 ≤ e0 ∧ e0 < 256) (he1 : 0 ≤ e1 ∧ e1 < 256) (he2 : 0 ≤ e2 ∧ e2 < 256) (hn : 0 ≤ n ∧ n < 65536) :
   e8 Tryd.prog 3 [.agg [.b7 false (dJ L)], .agg [.v (.int .u8 d0), .v (.int .u8 d1), .v (.int .u8 d2), .v (.int .u8 e0), .v (.int .u8 e1), .v (.int .u8 e2)], .v (.int .u16 n)] (fun _ => .v (.bool true)) (fun _ => []) := by
 have CE := bW
 have CM := kT L hL
 obtain ⟨hc, h12⟩ := hZ L hL
 generalize lQ L = c at *
 have hcn := hc.n
 have hcr := hc.r
 have CF := gO c hc
 have CG := a32 c hc
 obtain ⟨l1, l2⟩ := U5 hc
 obtain ⟨k1, k2⟩ := aQ hc
 have q1 : M2 100 (liveF c).1 := fun z => S7 k1 hcr.1 (by omega) z
 have q2 : M2 100 (liveF c).2 := fun z => S7 k2 hcr.1 (by omega) z
 have CS := a0p (liveF c).1 (liveF c).2 (liveF c).1 (liveF c).2 (by omega) (by omega) (by omega) (by omega) (fun z => by have := q1 z; omega) (fun z => by have := q2 z; omega)
 rw [decide_eq_true ⟨rfl, rfl⟩] at CS
 have CX := eQ c (liveF c).1 (liveF c).2 d0 d1 d2 hc l1 l2 hd0 hd1 hd2 (fun z => by have := q1 z; omega) (fun z => by have := q2 z; omega)
 obtain ⟨m1, m2⟩ := cE (c := c) (d0 := d0) (d1 := d1) (d2 := d2) l1 l2
 obtain ⟨p1, p2⟩ := bH (c := c) (d0 := d0) (d1 := d1) (d2 := d2) q1 q2
 generalize (A8 c (liveF c).1 (liveF c).2 d0 d1 d2).1 = I1 at *
 generalize (A8 c (liveF c).1 (liveF c).2 d0 d1 d2).2 = O1 at *
 have CM2 := vV c hc n (fun z => ⟨q1 z, q2 z⟩) ⟨l1, l2⟩
 rw [show V2 n c.r9.toNat (liveF c).1 c.b.length = moreI c n from rfl, show V2 n c.r9.toNat (liveF c).2 c.b.length = moreO c n from rfl] at CM2
 obtain ⟨ml1, ml2⟩ := iF hc n
 obtain ⟨mk1, mk2⟩ := eJ hc n
 have mq1 : M2 100 (moreI c n) := fun z => S7 mk1 hcr.1 (by omega) z
 have mq2 : M2 100 (moreO c n) := fun z => S7 mk2 hcr.1 (by omega) z
 have P1 := cD c _ _ hc h12 k1 k2 l1 l2
 have P2 := oD c _ _ hc k1 k2 l1 l2
 have P3 := cD c _ _ hc h12 mk1 mk2 ml1 ml2
 have P4 := oD c _ _ hc mk1 mk2 ml1 ml2
 have CC3 := P7 c (moreI c n) (moreO c n) hc (by omega) (fun z => by have := mq1 z; omega) (by omega) (fun z => by have := mq2 z; omega)
 rw [b1j hc n] at CC3
 have CA := fun b i => a4Q c (moreI c n) (moreO c n) b i hc ml2 (eZ mk2 (by omega)) (fun z => by have := mq2 z; omega)
 have CB := fun b i => b3h c (moreI c n) (moreO c n) b i hc ml2 (fun z => by have := mq2 z; omega)
 have hal : ∀ b i, (atR c (moreO c n) b i).length ≤ 1000000 := fun b i => by
   unfold atR
   split
   · simp
   · have h1 := b06 (F3 c.b b.toNat) ((moreO c n).getD b.toNat []) i.toNat
     have h2 := (hc.b _ (W0 (bs := c.b) (b := b.toNat) (by omega))).l
     have h3 := mq2 b.toNat
     omega
 have CI := fun b i => oE (atR c (moreO c n) b i) (atR c (moreO c n) b i) (hal b i)
 have hsm : ∀ l : List Int, wD l l = true := fun l => decide_eq_true rfl
 simp only [hsm] at CI
 have CY := eQ c I1 O1 e0 e1 e2 hc m1 m2 he0 he1 he2 (fun z => by have := p1 z; omega) (fun z => by have := p2 z; omega)
 have CC1 := P7 c I1 O1 hc (by omega) (fun z => by have := p1 z; omega) (by omega) (fun z => by have := p2 z; omega)
 have CD1 := a0o c I1 O1 hc (by omega) (fun z => by have := p1 z; omega) (by omega) (fun z => by have := p2 z; omega)
 obtain ⟨m3, m4⟩ := cE (c := c) (d0 := e0) (d1 := e1) (d2 := e2) m1 m2
 obtain ⟨p3, p4⟩ := bH (c := c) (d0 := e0) (d1 := e1) (d2 := e2) p1 p2
 generalize (A8 c I1 O1 e0 e1 e2).1 = I2 at *
 generalize (A8 c I1 O1 e0 e1 e2).2 = O2 at *
 have CC2 := P7 c I2 O2 hc (by omega) (fun z => by have := p3 z; omega) (by omega) (fun z => by have := p4 z; omega)
 have CD2 := a0o c I2 O2 hc (by omega) (fun z => by have := p3 z; omega) (by omega) (fun z => by have := p4 z; omega)
 clear q1 q2 p1 p2 p3 p4 m1 m2 m3 m4 mq1 mq2 mk1 mk2 k1 k2 ml1 ml2 l1 l2 hal
 generalize prF c (liveF c).1 (liveF c).2 c.b.length = p1 at *
 generalize prF c (moreI c n) (moreO c n) c.b.length = p2 at *
 generalize (liveF c).1 = I at *
 generalize (liveF c).2 = O at *
 generalize chkF c I1 O1 = k1 at *
 generalize chkF c I2 O2 = k2 at *
 simp only [Code.av] at CM CF CG CX CM2 P1 P2 P3 P4 CC3 CA CB CY CC1 CD1 CC2 CD2
 generalize atR c (moreO c n) = at_ at *
 generalize moreI c n = MI at *
 generalize moreO c n = MO at *
 refine Zf Tryd.func3 Tryd.ntmps3 ?_
 repeat' (first | refine Za ?_ | (with_reducible first | refine Zz.mk fun N hN mk hmk => ?_ | refine Zb.mk fun N hN => ?_ | refine Zi.mk fun h => ?_ | refine ⟨fun h => ?_, fun h => ?_⟩ | exact True.intro) | refine Zc CE ?_ | refine Zc CM ?_ | refine Zc CF ?_ | refine Zc CG ?_ | refine Zc CS ?_ | refine Zc CX ?_ | refine Zc CY ?_ | refine Zc CM2 ?_ | refine Zc CC1 ?_ | refine Zc CC2 ?_ | refine Zc CC3 ?_ | refine Zc CD1 ?_ | refine Zc CD2 ?_ | refine Zc P1 ?_ | refine Zc P2 ?_ | refine Zc P3 ?_ | refine Zc P4 ?_ | (refine hN _ ?_; clear hN N) | (refine Zk hmk ?_; clear hmk mk) | refine Zt nA.d ?_ | fail)
 refine l9 (fun b => ⟨[.dead, .dead, .dead, .dead, .dead, .dead, .v (.bool false), .v (.bool true), .ptr 0 0 0, .dead, .dead, .dead, .ptr 1 0 0, .v (.int .i64 ((b : Int) - 1)), .dead, .dead, .dead, .dead, .dead, .dead, .dead, .dead, .dead, .dead, .dead, .dead, .dead, .dead, .dead, .dead, .dead, .dead, .dead, .dead, .dead, .dead, .dead, .dead, .dead, .dead, .dead, .dead, .dead, .dead, .dead, .dead, .dead, .dead, .dead, .dead, .dead, .dead, .dead, .dead, .dead, .dead, .dead, .dead, .dead, .dead, .dead, .dead, .dead, .dead, .dead, .dead, .dead, .dead, .dead, .dead, .dead, .dead, .dead, .dead, .dead, .dead, .dead, .dead, .dead, .dead, .dead, .dead, .dead, .dead, .dead, .dead, .dead, .dead, .dead, .dead, .dead, .dead, .dead, .dead, .dead, .dead, .dead, .dead, .dead, .dead, .dead, .dead], [(0, .live ⟨8, [[.v (.int .i64 c.group), .v (.int .i64 c.sub), .v (.int .i64 c.r9), .v (.int .i64 c.L3), .v (.int .i64 c.params), .b7 false (Q5 c.D7), .b7 false (loops c.loops), .b7 false (E0 c.b)]], 0⟩), (1, .live ⟨2, [[.b7 false (lists MI), .b7 false (lists MO)]], 0⟩)], 2⟩) (c.b.length + 2) (Zw [6,7,8,12,13] [72, 296] nA.d ?_) ?_
 · rfl
 · intro b hb
   dsimp only
   by_cases hbl : b < c.b.length + 2
   · obtain ⟨bz, hbz⟩ : ∃ bz : Int, (b : Int) - 1 = bz := ⟨_, rfl⟩
     have hbz2 : (((b + 1 : Nat) : Int) - 1) = bz + 1 := by omega
     rw [hbz, hbz2]
     repeat' (first | refine Za ?_ | (with_reducible first | refine Zz.mk fun N hN mk hmk => ?_ | refine Zb.mk fun N hN => ?_ | refine Zi.mk fun h => ?_ | refine ⟨fun h => ?_, fun h => ?_⟩ | exact True.intro) | (refine hN _ ?_; clear hN N) | (refine Zk hmk ?_; clear hmk mk) | refine Zt nA.d ?_ | fail)
     refine l9 (fun i => ⟨[.dead, .dead, .dead, .dead, .dead, .dead, .v (.bool false), .v (.bool true), .ptr 0 0 0, .dead, .dead, .dead, .ptr 1 0 0, .v (.int .i64 bz), .v (.int .i64 ((i : Int) - 1)), .dead, .dead, .dead, .dead, .dead, .dead, .dead, .dead, .dead, .dead, .dead, .dead, .dead, .dead, .dead, .dead, .dead, .dead, .dead, .dead, .dead, .dead, .dead, .dead, .dead, .dead, .dead, .dead, .dead, .dead, .dead, .dead, .dead, .dead, .dead, .dead, .dead, .dead, .dead, .dead, .dead, .dead, .dead, .dead, .dead, .dead, .dead, .dead, .dead, .dead, .dead, .dead, .dead, .dead, .dead, .dead, .dead, .dead, .dead, .dead, .dead, .dead, .dead, .dead, .dead, .dead, .dead, .dead, .dead, .dead, .dead, .dead, .dead, .dead, .dead, .dead, .dead, .dead, .dead, .dead, .dead, .dead, .dead, .dead, .dead, .dead, .dead], [(0, .live ⟨8, [[.v (.int .i64 c.group), .v (.int .i64 c.sub), .v (.int .i64 c.r9), .v (.int .i64 c.L3), .v (.int .i64 c.params), .b7 false (Q5 c.D7), .b7 false (loops c.loops), .b7 false (E0 c.b)]], 0⟩), (1, .live ⟨2, [[.b7 false (lists MI), .b7 false (lists MO)]], 0⟩)], 2⟩) 41 (Zw [6,7,8,12,13,14] [0, 1] nA.d ?_) ?_
     · rfl
     · intro i hi
       dsimp only
       obtain ⟨iz, hiz⟩ : ∃ iz : Int, (i : Int) - 1 = iz := ⟨_, rfl⟩
       by_cases hil : i < 41
       · have hiz2 : (((i + 1 : Nat) : Int) - 1) = iz + 1 := by omega
         rw [hiz, hiz2]
         have CA1 := CA bz iz
         have CB1 := CB bz iz
         have CI1 := CI bz iz
         repeat' (first | refine Za ?_ | (with_reducible first | refine Zz.mk fun N hN mk hmk => ?_ | refine Zb.mk fun N hN => ?_ | refine Zi.mk fun h => ?_ | refine ⟨fun h => ?_, fun h => ?_⟩ | exact True.intro) | refine Zc CA1 ?_ | refine Zc CB1 ?_ | refine Zc CI1 ?_ | (refine hN _ ?_; clear hN N) | (refine Zk hmk ?_; clear hmk mk) | refine Zt nA.d ?_ | fail)
         refine Zw [6,7,8,12,13,14] [0, 1] nA.d ?_
         rfl
       · rw [hiz]
         repeat' (first | refine Za ?_ | (with_reducible first | refine Zz.mk fun N hN mk hmk => ?_ | refine Zb.mk fun N hN => ?_ | refine Zi.mk fun h => ?_ | refine ⟨fun h => ?_, fun h => ?_⟩ | exact True.intro) | (refine hN _ ?_; clear hN N) | (refine Zk hmk ?_; clear hmk mk) | refine Zt nA.d ?_ | fail)
         refine Zw [6, 7, 8, 12, 13] [0, 1] nA.d ?_
         rfl
   · obtain ⟨bz, hbz⟩ : ∃ bz : Int, (b : Int) - 1 = bz := ⟨_, rfl⟩
     rw [hbz]
     repeat' (first | refine Za ?_ | (with_reducible first | refine Zz.mk fun N hN mk hmk => ?_ | refine Zb.mk fun N hN => ?_ | refine Zi.mk fun h => ?_ | refine ⟨fun h => ?_, fun h => ?_⟩ | exact True.intro) | (refine hN _ ?_; clear hN N) | (refine Zk hmk ?_; clear hmk mk) | refine Zt nA.d ?_ | fail)
end Go.Proofs.YtfccigmfcpimgaaDoor
end
