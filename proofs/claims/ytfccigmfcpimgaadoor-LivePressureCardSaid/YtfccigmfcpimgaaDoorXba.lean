/- Own work (by an AI agent; no person has read it): part of a proof of the seat YtfccigmfcpimgaaDoor. -/
import Derived.Test.YtfccigmfcpimgaaDoorXm
import Derived.Test.YtfccigmfcpimgaaDoorXw
import Derived.Test.YtfccigmfcpimgaaDoorXy
set_option linter.unusedSimpArgs false
set_option linter.unusedVariables false
set_option maxRecDepth 100000
set_option maxHeartbeats 10000000
section
namespace Go.Proofs.YtfccigmfcpimgaaDoor
open Go.Ab
abbrev Ch := Int × Int × Int
def chs (l : List Ch) : List (List AV) := l.map fun z => [.v (.int .u8 z.1), .v (.int .u8 z.2.1), .v (.int .u8 z.2.2)]
theorem rY (l : List Ch) : (chs l).length = l.length := by simp [chs]
theorem b6r (l : List Ch) : (∀ e ∈ chs l, e.length = 3) = True := by
 simp only [eq_iff_iff, iff_true, chs, List.mem_map]
 rintro e ⟨z, _, rfl⟩
 rfl
theorem b0e (l : List Ch) (z : Nat) (h : z < l.length) : (chs l)[z]? = some [.v (.int .u8 (l.getD z (0, 0, 0)).1), .v (.int .u8 (l.getD z (0, 0, 0)).2.1), .v (.int .u8 (l.getD z (0, 0, 0)).2.2)] := by simp [chs, h, List.getD_eq_getElem?_getD]
theorem a8i (l : List Ch) : ((chs l).all fun e => e.all AV.plain) = true := by simp [chs, AV.plain]
def u8 (x : Int) : Prop := 0 ≤ x ∧ x < 256
def b4U (zs : List Ch) : Prop := ∀ i, u8 (zs.getD i (0, 0, 0)).1 ∧ u8 (zs.getD i (0, 0, 0)).2.1 ∧ u8 (zs.getD i (0, 0, 0)).2.2
def jV (c : Code) (I O : List (List Int)) (zs : List Ch) : Nat → List (List Int) × List (List Int)
 | 0 => (I, O)
 | i + 1 => A8 c (jV c I O zs i).1 (jV c I O zs i).2 (zs.getD i (0, 0, 0)).1 (zs.getD i (0, 0, 0)).2.1 (zs.getD i (0, 0, 0)).2.2
theorem vK {c : Code} {I O : List (List Int)} {zs : List Ch} (h1 : I.length = c.b.length) (h2 : O.length = c.b.length) : ∀ i, (jV c I O zs i).1.length = c.b.length ∧ (jV c I O zs i).2.length = c.b.length
 | 0 => ⟨h1, h2⟩
 | i + 1 => cE (vK h1 h2 i).1 (vK h1 h2 i).2
theorem qA {c : Code} {I O : List (List Int)} {zs : List Ch} {m : Nat} (h1 : M2 m I) (h2 : M2 m O) : ∀ i, M2 (m + i) (jV c I O zs i).1 ∧ M2 (m + i) (jV c I O zs i).2
 | 0 => ⟨h1, h2⟩
 | i + 1 => bH (qA h1 h2 i).1 (qA h1 h2 i).2
def a6N := ZZ.mk (Zq @rY (Zq @b6r (Zq @b0e (Zq @a8i (Zq @b8 (Zq @s8 (Zq @ne_eq.{1} (Zq @not_true_eq_false (Zq @decide_false (Zq @b5 @b6))))))))))
def a6O := ZZ.mk (Zq @rY (Zq @b8 (Zq @s8 (Zq @ne_eq.{1} (Zq @not_true_eq_false (Zq @decide_false (Zq @b5 @b6)))))))
def zG := ZZ.mk (Zq @z8 (Zq @H4 (Zq @s7 (Zq @rY (Zq @b8 (Zq @s8 (Zq @ne_eq.{1} (Zq @not_true_eq_false (Zq @decide_false (Zq @b5 @b6))))))))))
def b3B := ZZ.mk (Zq @not_false_eq_true (Zq @decide_true (Zq @rY (Zq @b8 (Zq @s8 (Zq @ne_eq.{1} (Zq @b5 @b6)))))))
theorem b04 (L : List Int) (hL : A5 L) (zs : List Ch) (hz : b4U zs) (n : Int) (hn : 0 ≤ n ∧ n < 65536) :
   e8 Tryd.prog 4 [.agg [.b7 false (dJ L)], .b7 false (chs zs), .v (.int .u16 n)] (fun _ => .v (.bool true)) (fun _ => []) := by
 have CE := bW
 have CM := kT L hL
 obtain ⟨hc, h12⟩ := hZ L hL
 generalize lQ L = c at *
 have hcn := hc.n
 have hcr := hc.r
 have CF := gO c hc
 obtain ⟨l1, l2⟩ := U5 hc
 obtain ⟨k1, k2⟩ := aQ hc
 have q1 : M2 100 (liveF c).1 := fun z => S7 k1 hcr.1 (by omega) z
 have q2 : M2 100 (liveF c).2 := fun z => S7 k2 hcr.1 (by omega) z
 have CC := P7 c (liveF c).1 (liveF c).2 hc (by omega) (fun z => by have := q1 z; omega) (by omega) (fun z => by have := q2 z; omega)
 rw [a3B hc] at CC
 have CM2 := vV c hc n (fun z => ⟨q1 z, q2 z⟩) ⟨l1, l2⟩
 rw [show V2 n c.r9.toNat (liveF c).1 c.b.length = moreI c n from rfl, show V2 n c.r9.toNat (liveF c).2 c.b.length = moreO c n from rfl] at CM2
 obtain ⟨ml1, ml2⟩ := iF hc n
 obtain ⟨mk1, mk2⟩ := eJ hc n
 have mq1 : M2 100 (moreI c n) := fun z => S7 mk1 hcr.1 (by omega) z
 have mq2 : M2 100 (moreO c n) := fun z => S7 mk2 hcr.1 (by omega) z
 have ol := vK (zs := zs) ml1 ml2
 have oq := qA (c := c) (zs := zs) mq1 mq2
 have CX := fun i (hi : i ≤ 6) => eQ c (jV c (moreI c n) (moreO c n) zs i).1 (jV c (moreI c n) (moreO c n) zs i).2 _ _ _ hc (ol i).1 (ol i).2 (hz i).1 (hz i).2.1 (hz i).2.2 (fun z => by have := (oq i).1 z; omega) (fun z => by have := (oq i).2 z; omega)
 have CC2 := fun i (hi : i ≤ 6) => P7 c (jV c (moreI c n) (moreO c n) zs i).1 (jV c (moreI c n) (moreO c n) zs i).2 hc (by have := (ol i).1; omega) (fun z => by have := (oq i).1 z; omega) (by have := (ol i).2; omega) (fun z => by have := (oq i).2 z; omega)
 have hle := fun i (h : chkF c (jV c (moreI c n) (moreO c n) zs i).1 (jV c (moreI c n) (moreO c n) zs i).2 = 0) => uR hc h
 have hof : ∀ i, A8 c (jV c (moreI c n) (moreO c n) zs i).1 (jV c (moreI c n) (moreO c n) zs i).2 (zs.getD i (0, 0, 0)).1 (zs.getD i (0, 0, 0)).2.1 (zs.getD i (0, 0, 0)).2.2 = jV c (moreI c n) (moreO c n) zs (i + 1) := fun i => rfl
 simp only [hof] at CX
 have ho0 : jV c (moreI c n) (moreO c n) zs 0 = (moreI c n, moreO c n) := rfl
 generalize jV c (moreI c n) (moreO c n) zs = P at *
 generalize moreI c n = MI at *
 generalize moreO c n = MO at *
 generalize (liveF c).1 = I at *
 generalize (liveF c).2 = O at *
 simp only [Code.av] at CM CF CC CM2 CX CC2
 obtain ⟨nn, hnn⟩ : ∃ nn : Nat, nn = min zs.length 6 := ⟨_, rfl⟩
 refine Zf Tryd.func4 Tryd.ntmps4 ?_
 repeat' (first | refine Za ?_ | (with_reducible first | refine Zz.mk fun N hN mk hmk => ?_ | refine Zb.mk fun N hN => ?_ | refine Zi.mk fun h => ?_ | refine ⟨fun h => ?_, fun h => ?_⟩ | exact True.intro) | refine Zc CE ?_ | refine Zc CM ?_ | refine Zc CF ?_ | refine Zc CC ?_ | refine Zc CM2 ?_ | (refine hN _ ?_; clear hN N) | (refine Zk hmk ?_; clear hmk mk) | refine Zt (Zq a6N.d (Zq l1 l2)) ?_ | fail)
 refine l9 (fun i => ⟨[.dead, .b7 false (chs zs), .dead, .dead, .dead, .dead, .v (.bool false), .v (.bool true), .ptr 0 0 0, .ptr 1 0 0, .ptr 2 0 0, .v (.int .i64 i), .dead, .dead, .dead, .dead, .dead, .dead, .dead, .dead, .dead, .dead, .dead, .dead, .dead, .dead, .dead, .dead, .dead, .dead, .dead, .dead, .dead, .dead, .dead, .dead, .dead, .dead, .dead, .dead, .dead, .dead, .dead, .dead, .dead, .dead, .dead, .dead, .dead, .dead, .dead, .dead, .dead, .dead, .dead, .dead, .dead, .dead, .dead, .dead, .dead, .dead, .dead, .dead, .dead, .dead, .dead, .dead, .dead, .dead, .dead, .dead, .dead, .dead, .dead, .dead, .dead, .dead, .dead, .dead, .dead, .dead, .dead, .dead, .dead, .dead, .dead, .dead, .dead, .dead, .dead, .dead, .dead, .dead, .dead, .dead, .dead, .dead, .dead, .dead, .dead], [(0, .live ⟨8, [[.v (.int .i64 c.group), .v (.int .i64 c.sub), .v (.int .i64 c.r9), .v (.int .i64 c.L3), .v (.int .i64 c.params), .b7 false (Q5 c.D7), .b7 false (loops c.loops), .b7 false (E0 c.b)]], 0⟩), (1, .live ⟨2, [[.b7 false (lists I), .b7 false (lists O)]], 0⟩), (2, .live ⟨2, [[.b7 false (lists (P i).1), .b7 false (lists (P i).2)]], 0⟩)], 3⟩) nn (Zw [1,6,7,8,9,10,11] [64, 96, 312] (Zq a6N.d (Zq l1 l2)) ?_) ?_
 · rw [ho0]; rfl
 · intro i hi
   dsimp only
   by_cases hil : i < nn
   · have CX1 := CX i (by omega)
     have hA : ((i : Int) < (zs.length : Int)) = True := by simp; omega
     have hB : ((i : Int) < 6) = True := by simp; omega
     repeat' (first | refine Za ?_ | (with_reducible first | refine Zz.mk fun N hN mk hmk => ?_ | refine Zb.mk fun N hN => ?_ | refine Zi.mk fun h => ?_ | refine ⟨fun h => ?_, fun h => ?_⟩ | exact True.intro) | refine Zc CX1 ?_ | (refine hN _ ?_; clear hN N) | (refine Zk hmk ?_; clear hmk mk) | refine Zt (Zq a6N.d (Zq hA (Zq hB (Zq l1 l2)))) ?_ | fail)
     refine Zw [1,6,7,8,9,10,11] [0, 1, 2] (Zq a6N.d (Zq hA (Zq hB (Zq l1 l2)))) ?_
     rfl
   · have e : i = nn := by omega
     rw [e]
     have CC3 := CC2 nn (by omega)
     have hle2 := hle nn
     have o1 := ol nn
     have o2 := oq nn
     clear CX CC2 hle ol oq
     generalize P nn = p at *
     obtain ⟨J, Q⟩ := p
     simp only at CC3 hle2 o1 o2
     obtain ⟨o3, o4⟩ := o1
     obtain ⟨k, hk⟩ : ∃ k, chkF c J Q = k := ⟨_, rfl⟩
     rw [hk] at CC3 hle2
     by_cases hk0 : k = 0
     · subst hk0
       have hle3 := hle2 rfl
       by_cases hA0 : nn < zs.length
       · have hA : ((nn : Int) < (zs.length : Int)) = True := by simp; omega
         have hB : ((nn : Int) < 6) = False := by simp; omega
         repeat' (first | refine Za ?_ | (with_reducible first | refine Zz.mk fun N hN mk hmk => ?_ | refine Zb.mk fun N hN => ?_ | refine Zi.mk fun h => ?_ | refine ⟨fun h => ?_, fun h => ?_⟩ | exact True.intro) | refine Zc CC3 ?_ | (refine hN _ ?_; clear hN N) | (refine Zk hmk ?_; clear hmk mk) | refine Zt (Zq a6O.d (Zq hA (Zq hB (Zq l1 l2)))) ?_ | fail)
         refine l9 (fun i => ⟨[.dead, .dead, .dead, .dead, .dead, .dead, .v (.bool false), .v (.bool true), .ptr 0 0 0, .ptr 1 0 0, .ptr 2 0 0, .dead, .v (.int .i64 i), .dead, .dead, .dead, .dead, .dead, .dead, .dead, .dead, .dead, .dead, .dead, .dead, .dead, .dead, .dead, .dead, .dead, .dead, .dead, .dead, .dead, .dead, .dead, .dead, .dead, .dead, .dead, .dead, .dead, .dead, .dead, .dead, .dead, .dead, .dead, .dead, .dead, .dead, .dead, .dead, .dead, .dead, .dead, .dead, .dead, .dead, .dead, .dead, .dead, .dead, .dead, .dead, .dead, .dead, .dead, .dead, .dead, .dead, .dead, .dead, .dead, .dead, .dead, .dead, .dead, .dead, .dead, .dead, .dead, .dead, .dead, .dead, .dead, .dead, .dead, .dead, .dead, .dead, .dead, .dead, .dead, .dead, .dead, .dead, .dead, .dead, .dead, .dead], [(0, .live ⟨8, [[.v (.int .i64 c.group), .v (.int .i64 c.sub), .v (.int .i64 c.r9), .v (.int .i64 c.L3), .v (.int .i64 c.params), .b7 false (Q5 c.D7), .b7 false (loops c.loops), .b7 false (E0 c.b)]], 0⟩), (1, .live ⟨2, [[.b7 false (lists I), .b7 false (lists O)]], 0⟩), (2, .live ⟨2, [[.b7 false (lists J), .b7 false (lists Q)]], 0⟩)], 3⟩) c.b.length (Zw [6,7,8,9,10,12] [0, 1, 2] (Zq a6O.d (Zq hA (Zq hB (Zq l1 l2)))) ?_) ?_
         · rfl
         · intro i hi
           dsimp only
           by_cases hib : i < c.b.length
           · have W1 := cY (I.getD i []) (J.getD i []) (by have := q1 i; omega) (by have := o2.1 i; omega)
             have W2 := cY (O.getD i []) (Q.getD i []) (by have := q2 i; omega) (by have := o2.2 i; omega)
             rw [show eD (I.getD i []) (J.getD i []) = true from decide_eq_true (hle3 i).1] at W1
             rw [show eD (O.getD i []) (Q.getD i []) = true from decide_eq_true (hle3 i).2] at W2
             repeat' (first | refine Za ?_ | (with_reducible first | refine Zz.mk fun N hN mk hmk => ?_ | refine Zb.mk fun N hN => ?_ | refine Zi.mk fun h => ?_ | refine ⟨fun h => ?_, fun h => ?_⟩ | exact True.intro) | refine Zc W1 ?_ | refine Zc W2 ?_ | (refine hN _ ?_; clear hN N) | (refine Zk hmk ?_; clear hmk mk) | refine Zt (Zq zG.d (Zq o3 (Zq o4 (Zq l1 l2)))) ?_ | fail)
             refine Zw [6,7,8,9,10,12] [0, 1, 2] (Zq zG.d (Zq o3 (Zq o4 (Zq l1 l2)))) ?_
             rfl
           · repeat' (first | refine Za ?_ | (with_reducible first | refine Zz.mk fun N hN mk hmk => ?_ | refine Zb.mk fun N hN => ?_ | refine Zi.mk fun h => ?_ | refine ⟨fun h => ?_, fun h => ?_⟩ | exact True.intro) | (refine hN _ ?_; clear hN N) | (refine Zk hmk ?_; clear hmk mk) | refine Zt (Zq zG.d (Zq o3 (Zq o4 (Zq l1 l2)))) ?_ | fail)
       · have hA : ((nn : Int) < (zs.length : Int)) = False := by simp; omega
         repeat' (first | refine Za ?_ | (with_reducible first | refine Zz.mk fun N hN mk hmk => ?_ | refine Zb.mk fun N hN => ?_ | refine Zi.mk fun h => ?_ | refine ⟨fun h => ?_, fun h => ?_⟩ | exact True.intro) | refine Zc CC3 ?_ | (refine hN _ ?_; clear hN N) | (refine Zk hmk ?_; clear hmk mk) | refine Zt (Zq a6O.d (Zq hA (Zq l1 l2))) ?_ | fail)
         refine l9 (fun i => ⟨[.dead, .dead, .dead, .dead, .dead, .dead, .v (.bool false), .v (.bool true), .ptr 0 0 0, .ptr 1 0 0, .ptr 2 0 0, .dead, .v (.int .i64 i), .dead, .dead, .dead, .dead, .dead, .dead, .dead, .dead, .dead, .dead, .dead, .dead, .dead, .dead, .dead, .dead, .dead, .dead, .dead, .dead, .dead, .dead, .dead, .dead, .dead, .dead, .dead, .dead, .dead, .dead, .dead, .dead, .dead, .dead, .dead, .dead, .dead, .dead, .dead, .dead, .dead, .dead, .dead, .dead, .dead, .dead, .dead, .dead, .dead, .dead, .dead, .dead, .dead, .dead, .dead, .dead, .dead, .dead, .dead, .dead, .dead, .dead, .dead, .dead, .dead, .dead, .dead, .dead, .dead, .dead, .dead, .dead, .dead, .dead, .dead, .dead, .dead, .dead, .dead, .dead, .dead, .dead, .dead, .dead, .dead, .dead, .dead, .dead], [(0, .live ⟨8, [[.v (.int .i64 c.group), .v (.int .i64 c.sub), .v (.int .i64 c.r9), .v (.int .i64 c.L3), .v (.int .i64 c.params), .b7 false (Q5 c.D7), .b7 false (loops c.loops), .b7 false (E0 c.b)]], 0⟩), (1, .live ⟨2, [[.b7 false (lists I), .b7 false (lists O)]], 0⟩), (2, .live ⟨2, [[.b7 false (lists J), .b7 false (lists Q)]], 0⟩)], 3⟩) c.b.length (Zw [6,7,8,9,10,12] [0, 1, 2] (Zq a6O.d (Zq hA (Zq l1 l2))) ?_) ?_
         · rfl
         · intro i hi
           dsimp only
           by_cases hib : i < c.b.length
           · have W1 := cY (I.getD i []) (J.getD i []) (by have := q1 i; omega) (by have := o2.1 i; omega)
             have W2 := cY (O.getD i []) (Q.getD i []) (by have := q2 i; omega) (by have := o2.2 i; omega)
             rw [show eD (I.getD i []) (J.getD i []) = true from decide_eq_true (hle3 i).1] at W1
             rw [show eD (O.getD i []) (Q.getD i []) = true from decide_eq_true (hle3 i).2] at W2
             repeat' (first | refine Za ?_ | (with_reducible first | refine Zz.mk fun N hN mk hmk => ?_ | refine Zb.mk fun N hN => ?_ | refine Zi.mk fun h => ?_ | refine ⟨fun h => ?_, fun h => ?_⟩ | exact True.intro) | refine Zc W1 ?_ | refine Zc W2 ?_ | (refine hN _ ?_; clear hN N) | (refine Zk hmk ?_; clear hmk mk) | refine Zt (Zq zG.d (Zq o3 (Zq o4 (Zq l1 l2)))) ?_ | fail)
             refine Zw [6,7,8,9,10,12] [0, 1, 2] (Zq zG.d (Zq o3 (Zq o4 (Zq l1 l2)))) ?_
             rfl
           · repeat' (first | refine Za ?_ | (with_reducible first | refine Zz.mk fun N hN mk hmk => ?_ | refine Zb.mk fun N hN => ?_ | refine Zi.mk fun h => ?_ | refine ⟨fun h => ?_, fun h => ?_⟩ | exact True.intro) | (refine hN _ ?_; clear hN N) | (refine Zk hmk ?_; clear hmk mk) | refine Zt (Zq zG.d (Zq o3 (Zq o4 (Zq l1 l2)))) ?_ | fail)
     · have hk1 : (k = 0) = False := by simp [hk0]
       by_cases hA0 : nn < zs.length
       · have hA : ((nn : Int) < (zs.length : Int)) = True := by simp; omega
         have hB : ((nn : Int) < 6) = False := by simp; omega
         repeat' (first | refine Za ?_ | (with_reducible first | refine Zz.mk fun N hN mk hmk => ?_ | refine Zb.mk fun N hN => ?_ | refine Zi.mk fun h => ?_ | refine ⟨fun h => ?_, fun h => ?_⟩ | exact True.intro) | refine Zc CC3 ?_ | (refine hN _ ?_; clear hN N) | (refine Zk hmk ?_; clear hmk mk) | refine Zt (Zq b3B.d (Zq hA (Zq hB hk1))) ?_ | fail)
       · have hA : ((nn : Int) < (zs.length : Int)) = False := by simp; omega
         repeat' (first | refine Za ?_ | (with_reducible first | refine Zz.mk fun N hN mk hmk => ?_ | refine Zb.mk fun N hN => ?_ | refine Zi.mk fun h => ?_ | refine ⟨fun h => ?_, fun h => ?_⟩ | exact True.intro) | refine Zc CC3 ?_ | (refine hN _ ?_; clear hN N) | (refine Zk hmk ?_; clear hmk mk) | refine Zt (Zq b3B.d (Zq hA hk1)) ?_ | fail)
end Go.Proofs.YtfccigmfcpimgaaDoor
end
