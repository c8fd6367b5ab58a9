/- Own work (by an AI agent; no person has read it): part of a proof of the seat YtfccigmfcpimgaaDoor. -/
import Derived.Test.YtfccigmfcpimgaaDoorXba
import Derived.Test.YtfccigmfcpimgaaDoorXbk
set_option linter.unusedSimpArgs false
set_option linter.unusedVariables false
set_option maxRecDepth 100000
set_option maxHeartbeats 10000000
section
namespace Go.Proofs.YtfccigmfcpimgaaDoor
open Go.Ab
theorem a3q (l : List j9) (n : Nat) : (p8 l).take n = p8 (l.take n) := by simp [p8]
def b3G := ZZ.mk (Zq @s8 (Zq @b8 (Zq @ne_eq.{1} (Zq @not_true_eq_false (Zq @decide_false (Zq @b5 @b6))))))
def T6 := ZZ.mk (Zq @z8 (Zq @H4 (Zq @s7 (Zq @s8 (Zq @b8 (Zq @F7 (Zq @L9 (Zq @c9 (Zq @c5.av.eq_1 (Zq @u2.av.eq_1 (Zq @j9.av.eq_1 (Zq @m6 (Zq @cW (Zq @u4 (Zq @l0 (Zq @a3q (Zq @u7 (Zq @B4 (Zq @N9 (Zq @c6 (Zq @r6 (Zq @N7 (Zq @G7 (Zq @B1 (Zq @L4 (Zq @M6 (Zq @aM (Zq @E6 (Zq @Bool.not_true (Zq @Bool.not_false (Zq @gt_iff_lt.{0} (Zq @ge_iff_le.{0} (Zq @ne_eq.{1} (Zq @not_true_eq_false (Zq @not_false_eq_true (Zq @decide_false (Zq @decide_true (Zq @b5 @b6))))))))))))))))))))))))))))))))))))))
theorem a46 (L : List Int) (hL : A5 L) : e8 Tryd.prog 7 [.agg [.b7 false (dJ L)]] (fun _ => .v (.bool true)) (fun _ => []) := by
 have CE := bW
 have CM := kT L hL
 obtain ⟨hc, h12⟩ := hZ L hL
 generalize lQ L = c at *
 have hcn := hc.n
 have hcr := hc.r
 have CF := gO c hc
 have CR := iG c hc.succ (by omega)
 obtain ⟨l1, l2⟩ := U5 hc
 obtain ⟨k1, k2⟩ := aQ hc
 have q1 : M2 100 (liveF c).1 := fun z => S7 k1 hcr.1 (by omega) z
 have q2 : M2 100 (liveF c).2 := fun z => S7 k2 hcr.1 (by omega) z
 have hdef := fun b hb hr i hi => b09 hc (b := b) hb hr (i := i) hi
 have hnone := fun b hr => a8I hc (b := b) hr
 have hrl := M8 c.b
 have hra := fun b hb => T8 c.b (b := b) hb
 generalize (liveF c).1 = I at *
 generalize (liveF c).2 = O at *
 generalize reachF c.b = R at *
 simp only [Code.av] at CM CF CR
 refine Zf Tryd.func7 Tryd.ntmps7 ?_
 repeat' (first | refine Za ?_ | (with_reducible first | refine Zz.mk fun N hN mk hmk => ?_ | refine Zb.mk fun N hN => ?_ | refine Zi.mk fun h => ?_ | refine ⟨fun h => ?_, fun h => ?_⟩ | exact True.intro) | refine Zc CE ?_ | refine Zc CM ?_ | refine Zc CF ?_ | refine Zc CR ?_ | (refine hN _ ?_; clear hN N) | (refine Zk hmk ?_; clear hmk mk) | refine Zt (Zq b3G.d (Zq l1 l2)) ?_ | fail)
 refine l9 (fun b => ⟨[.dead, .dead, .v (.bool false), .v (.bool true), .ptr 0 0 0, .ptr 1 0 0, .b7 false (H0 R), .v (.int .i64 b), .dead, .dead, .dead, .dead, .dead, .dead, .dead, .dead, .dead, .dead, .dead, .dead, .dead, .dead, .dead, .dead, .dead, .dead, .dead, .dead, .dead, .dead, .dead, .dead, .dead, .dead, .dead, .dead, .dead, .dead, .dead, .dead, .dead, .dead, .dead, .dead, .dead, .dead, .dead, .dead, .dead, .dead, .dead, .dead, .dead, .dead, .dead, .dead, .dead, .dead, .dead, .dead, .dead, .dead, .dead, .dead, .dead, .dead, .dead, .dead, .dead, .dead, .dead, .dead, .dead, .dead, .dead, .dead, .dead, .dead, .dead, .dead, .dead, .dead, .dead, .dead, .dead, .dead, .dead, .dead, .dead, .dead, .dead, .dead, .dead, .dead, .dead, .dead, .dead, .dead, .dead, .dead, .dead, .dead, .dead, .dead, .dead, .dead, .dead, .dead, .dead, .dead, .dead, .dead, .dead, .dead, .dead, .dead, .dead, .dead, .dead, .dead, .dead, .dead, .dead, .dead, .dead, .dead, .dead, .dead, .dead, .dead, .dead, .dead, .dead, .dead, .dead, .dead, .dead, .dead, .dead, .dead, .dead, .dead, .dead, .dead, .dead, .dead, .dead, .dead, .dead, .dead, .dead, .dead, .dead, .dead, .dead], [(0, .live ⟨8, [[.v (.int .i64 c.group), .v (.int .i64 c.sub), .v (.int .i64 c.r9), .v (.int .i64 c.L3), .v (.int .i64 c.params), .b7 false (Q5 c.D7), .b7 false (loops c.loops), .b7 false (E0 c.b)]], 0⟩), (1, .live ⟨2, [[.b7 false (lists I), .b7 false (lists O)]], 0⟩)], 2⟩) c.b.length (Zw [2,3,4,5,6,7] [64, 112] (Zq b3G.d (Zq l1 l2)) ?_) ?_
 · rfl
 · intro b hb
   dsimp only
   by_cases hbl : b < c.b.length
   · have hblk := (hc.tH hbl).l
     have hdb := hdef b hbl
     have hno := hnone b
     have hrb := hra b hbl
     obtain ⟨B, hB⟩ : ∃ B, B = F3 c.b b := ⟨_, rfl⟩
     have hBi : c.b.getD b B0 = B := hB.symm
     rw [← hB] at hblk hdb
     cases hre : R.getD b false with
     | false =>
       have hnr : ¬ fF c.b (b : Int) := fun h => by rw [hrb.2 h] at hre; cases hre
       obtain ⟨e1, e2⟩ := hno hnr
       have e3 : (I.getD b []).length = 0 := by rw [e1]; rfl
       have e4 : (O.getD b []).length = 0 := by rw [e2]; rfl
       repeat' (first | refine Za ?_ | (with_reducible first | refine Zz.mk fun N hN mk hmk => ?_ | refine Zb.mk fun N hN => ?_ | refine Zi.mk fun h => ?_ | refine ⟨fun h => ?_, fun h => ?_⟩ | exact True.intro) | (refine hN _ ?_; clear hN N) | (refine Zk hmk ?_; clear hmk mk) | refine Zt (Zq T6.d (Zq hre (Zq e3 (Zq e4 (Zq hBi (Zq hrl (Zq l1 l2))))))) ?_ | fail)
       refine l9 (fun i => ⟨[.dead, .dead, .v (.bool false), .v (.bool true), .ptr 0 0 0, .ptr 1 0 0, .b7 false (H0 R), .v (.int .i64 b), .own 2 0 0, .v (.int .i64 i), .dead, .dead, .dead, .dead, .dead, .dead, .dead, .dead, .dead, .dead, .dead, .dead, .dead, .dead, .dead, .dead, .dead, .dead, .dead, .dead, .dead, .dead, .dead, .dead, .dead, .dead, .dead, .dead, .dead, .dead, .dead, .dead, .dead, .dead, .dead, .dead, .dead, .dead, .dead, .dead, .dead, .dead, .dead, .dead, .dead, .dead, .dead, .dead, .dead, .dead, .dead, .dead, .dead, .dead, .dead, .dead, .dead, .dead, .dead, .dead, .dead, .dead, .dead, .dead, .dead, .dead, .dead, .dead, .dead, .dead, .dead, .dead, .dead, .dead, .dead, .dead, .dead, .dead, .dead, .dead, .dead, .dead, .dead, .dead, .dead, .dead, .dead, .dead, .dead, .dead, .dead, .dead, .dead, .dead, .dead, .dead, .dead, .dead, .dead, .dead, .dead, .dead, .dead, .dead, .dead, .dead, .dead, .dead, .dead, .dead, .dead, .dead, .dead, .dead, .dead, .dead, .dead, .dead, .dead, .dead, .dead, .dead, .dead, .dead, .dead, .dead, .dead, .dead, .dead, .dead, .dead, .dead, .dead, .dead, .dead, .dead, .dead, .dead, .dead, .dead, .dead, .dead, .dead, .dead, .dead], [(0, .live ⟨8, [[.v (.int .i64 c.group), .v (.int .i64 c.sub), .v (.int .i64 c.r9), .v (.int .i64 c.L3), .v (.int .i64 c.params), .b7 false (Q5 c.D7), .b7 false (loops c.loops), .b7 false (E0 c.b)]], 0⟩), (1, .live ⟨2, [[.b7 false (lists I), .b7 false (lists O)]], 0⟩), (2, .live ⟨1, [], 0⟩)], 3⟩) 0 (Zw [2,3,4,5,6,7,8,9] [0, 1, 42] (Zq T6.d (Zq hre (Zq e3 (Zq e4 (Zq hBi (Zq hrl (Zq l1 l2))))))) ?_) ?_
       · rfl
       · intro i hi
         obtain rfl : i = 0 := by omega
         dsimp only
         repeat' (first | refine Za ?_ | (with_reducible first | refine Zz.mk fun N hN mk hmk => ?_ | refine Zb.mk fun N hN => ?_ | refine Zi.mk fun h => ?_ | refine ⟨fun h => ?_, fun h => ?_⟩ | exact True.intro) | (refine hN _ ?_; clear hN N) | (refine Zk hmk ?_; clear hmk mk) | refine Zt (Zq T6.d (Zq hre (Zq e3 (Zq e4 (Zq hBi (Zq hrl (Zq l1 l2))))))) ?_ | fail)
         all_goals refine Zw [2, 3, 4, 5, 6, 7] [0, 1] (Zq T6.d (Zq hre (Zq e3 (Zq e4 (Zq hBi (Zq hrl (Zq l1 l2))))))) ?_
         all_goals rfl
     | true =>
       have hrc := hrb.1 hre
       have hd2 := hdb hrc
       repeat' (first | refine Za ?_ | (with_reducible first | refine Zz.mk fun N hN mk hmk => ?_ | refine Zb.mk fun N hN => ?_ | refine Zi.mk fun h => ?_ | refine ⟨fun h => ?_, fun h => ?_⟩ | exact True.intro) | (refine hN _ ?_; clear hN N) | (refine Zk hmk ?_; clear hmk mk) | refine Zt (Zq T6.d (Zq hre (Zq hBi (Zq hrl (Zq l1 l2))))) ?_ | fail)
       refine l9 (fun i => ⟨[.dead, .dead, .v (.bool false), .v (.bool true), .ptr 0 0 0, .ptr 1 0 0, .b7 false (H0 R), .v (.int .i64 b), .own 2 0 (dL B.i i).length, .v (.int .i64 i), .dead, .dead, .dead, .dead, .dead, .dead, .dead, .dead, .dead, .dead, .dead, .dead, .dead, .dead, .dead, .dead, .dead, .dead, .dead, .dead, .dead, .dead, .dead, .dead, .dead, .dead, .dead, .dead, .dead, .dead, .dead, .dead, .dead, .dead, .dead, .dead, .dead, .dead, .dead, .dead, .dead, .dead, .dead, .dead, .dead, .dead, .dead, .dead, .dead, .dead, .dead, .dead, .dead, .dead, .dead, .dead, .dead, .dead, .dead, .dead, .dead, .dead, .dead, .dead, .dead, .dead, .dead, .dead, .dead, .dead, .dead, .dead, .dead, .dead, .dead, .dead, .dead, .dead, .dead, .dead, .dead, .dead, .dead, .dead, .dead, .dead, .dead, .dead, .dead, .dead, .dead, .dead, .dead, .dead, .dead, .dead, .dead, .dead, .dead, .dead, .dead, .dead, .dead, .dead, .dead, .dead, .dead, .dead, .dead, .dead, .dead, .dead, .dead, .dead, .dead, .dead, .dead, .dead, .dead, .dead, .dead, .dead, .dead, .dead, .dead, .dead, .dead, .dead, .dead, .dead, .dead, .dead, .dead, .dead, .dead, .dead, .dead, .dead, .dead, .dead, .dead, .dead, .dead, .dead, .dead], [(0, .live ⟨8, [[.v (.int .i64 c.group), .v (.int .i64 c.sub), .v (.int .i64 c.r9), .v (.int .i64 c.L3), .v (.int .i64 c.params), .b7 false (Q5 c.D7), .b7 false (loops c.loops), .b7 false (E0 c.b)]], 0⟩), (1, .live ⟨2, [[.b7 false (lists I), .b7 false (lists O)]], 0⟩), (2, .live ⟨1, e7 (dL B.i i), 0⟩)], 3⟩) B.i.length (Zw [2,3,4,5,6,7,8,9] [0, 1, 42] (Zq T6.d (Zq hre (Zq hBi (Zq hrl (Zq l1 l2))))) ?_) ?_
       · rfl
       · intro i hi
         dsimp only
         by_cases hil : i < B.i.length
         · obtain ⟨f1, f2⟩ := hd2 i hil
           have hdl := a23 B.i i
           have hds : dL B.i (i + 1) = if 0 ≤ O8 (B.i.getD i I0) ∧ O8 (B.i.getD i I0) ∉ dL B.i i then dL B.i i ++ [O8 (B.i.getD i I0)] else dL B.i i := rfl
           rw [hds]
           generalize dL B.i i = D at *
           obtain ⟨x, hx⟩ : ∃ x, B.i.getD i I0 = x := ⟨_, rfl⟩
           have CU := vX x
           have CD := a1l x
           have hul := jQ x
           rw [hx] at f1 f2 ⊢
           have hilT : ((i : Int) < (B.i.length : Int)) = True := eq_true (by omega)
           simp only [j9.av] at CU CD
           repeat' (first | refine Za ?_ | (with_reducible first | refine Zz.mk fun N hN mk hmk => ?_ | refine Zb.mk fun N hN => ?_ | refine Zi.mk fun h => ?_ | refine ⟨fun h => ?_, fun h => ?_⟩ | exact True.intro) | refine Zc CU ?_ | (refine hN _ ?_; clear hN N) | (refine Zk hmk ?_; clear hmk mk) | refine Zt (Zq T6.d (Zq hilT (Zq hx (Zq hre (Zq hBi (Zq hrl (Zq l1 l2))))))) ?_ | fail)
           refine l9 (fun k => ⟨[.dead, .dead, .v (.bool false), .v (.bool true), .ptr 0 0 0, .ptr 1 0 0, .b7 false (H0 R), .v (.int .i64 b), .own 2 0 D.length, .v (.int .i64 i), .b7 false (e7 (M4 x)), .v (.int .i64 k), .dead, .dead, .dead, .dead, .dead, .dead, .dead, .dead, .dead, .dead, .dead, .dead, .dead, .dead, .dead, .dead, .dead, .dead, .dead, .dead, .dead, .dead, .dead, .dead, .dead, .dead, .dead, .dead, .dead, .dead, .dead, .dead, .dead, .dead, .dead, .dead, .dead, .dead, .dead, .dead, .dead, .dead, .dead, .dead, .dead, .dead, .dead, .dead, .dead, .dead, .dead, .dead, .dead, .dead, .dead, .dead, .dead, .dead, .dead, .dead, .dead, .dead, .dead, .dead, .dead, .dead, .dead, .dead, .dead, .dead, .dead, .dead, .dead, .dead, .dead, .dead, .dead, .dead, .dead, .dead, .dead, .dead, .dead, .dead, .dead, .dead, .dead, .dead, .dead, .dead, .dead, .dead, .dead, .dead, .dead, .dead, .dead, .dead, .dead, .dead, .dead, .dead, .dead, .dead, .dead, .dead, .dead, .dead, .dead, .dead, .dead, .dead, .dead, .dead, .dead, .dead, .dead, .dead, .dead, .dead, .dead, .dead, .dead, .dead, .dead, .dead, .dead, .dead, .dead, .dead, .dead, .dead, .dead, .dead, .dead, .dead, .dead, .dead, .dead, .dead, .dead, .dead, .dead], [(0, .live ⟨8, [[.v (.int .i64 c.group), .v (.int .i64 c.sub), .v (.int .i64 c.r9), .v (.int .i64 c.L3), .v (.int .i64 c.params), .b7 false (Q5 c.D7), .b7 false (loops c.loops), .b7 false (E0 c.b)]], 0⟩), (1, .live ⟨2, [[.b7 false (lists I), .b7 false (lists O)]], 0⟩), (2, .live ⟨1, e7 D, 0⟩)], 3⟩) (M4 x).length (Zw [2,3,4,5,6,7,8,9,10,11] [0, 1, 2] (Zq T6.d (Zq hilT (Zq hx (Zq hre (Zq hBi (Zq hrl (Zq l1 l2))))))) ?_) ?_
           · rfl
           · intro k hk
             dsimp only
             have hD0 : List.take D.length (e7 D) = e7 D := B1 D
             by_cases hku : k < (M4 x).length
             · obtain ⟨u, hu⟩ : ∃ u, (M4 x).getD k 0 = u := ⟨_, rfl⟩
               have hum : u ∈ M4 x := by rw [← hu, bK hku]; exact List.getElem_mem hku
               have CH1 := dC D u (by omega)
               have CH2 := dC (I.getD b []) u (by have := q1 b; omega)
               by_cases hud : u ∈ D
               · rw [decide_eq_true hud] at CH1
                 repeat' (first | refine Za ?_ | (with_reducible first | refine Zz.mk fun N hN mk hmk => ?_ | refine Zb.mk fun N hN => ?_ | refine Zi.mk fun h => ?_ | refine ⟨fun h => ?_, fun h => ?_⟩ | exact True.intro) | (refine aA CH1 rfl ?_ rfl ?_; (next => (simp (disch := omega) only [T6.d, hu, hx, hre, hBi, hrl, l1, l2, D8, Nat.reduceBEq, AV.plain, Nat.reduceAdd, Nat.reduceLeDiff, Nat.reduceLT, ↓reduceIte, sF] <;> first | done | rfl))) | (refine X3 CH1 rfl ?_ rfl ?_; (next => (simp (disch := omega) only [T6.d, hu, hx, hre, hBi, hrl, l1, l2, D8, Nat.reduceBEq, AV.plain, Nat.reduceAdd, Nat.reduceLeDiff, Nat.reduceLT, ↓reduceIte, sF] <;> first | done | rfl))) | refine Zc CH2 ?_ | (refine hN _ ?_; clear hN N) | (refine Zk hmk ?_; clear hmk mk) | refine Zt (Zq T6.d (Zq hu (Zq hx (Zq hre (Zq hBi (Zq hrl (Zq l1 l2))))))) ?_ | fail)
                 refine Zw [2,3,4,5,6,7,8,9,10,11] [0, 1, 2] (Zq T6.d (Zq hu (Zq hx (Zq hre (Zq hBi (Zq hrl (Zq l1 l2))))))) ?_
                 rfl
               · rw [decide_eq_false hud] at CH1
                 rw [decide_eq_true (f1 u hum hud)] at CH2
                 repeat' (first | refine Za ?_ | (with_reducible first | refine Zz.mk fun N hN mk hmk => ?_ | refine Zb.mk fun N hN => ?_ | refine Zi.mk fun h => ?_ | refine ⟨fun h => ?_, fun h => ?_⟩ | exact True.intro) | (refine aA CH1 rfl ?_ rfl ?_; (next => (simp (disch := omega) only [T6.d, hu, hx, hre, hBi, hrl, l1, l2, D8, Nat.reduceBEq, AV.plain, Nat.reduceAdd, Nat.reduceLeDiff, Nat.reduceLT, ↓reduceIte, sF] <;> first | done | rfl))) | (refine X3 CH1 rfl ?_ rfl ?_; (next => (simp (disch := omega) only [T6.d, hu, hx, hre, hBi, hrl, l1, l2, D8, Nat.reduceBEq, AV.plain, Nat.reduceAdd, Nat.reduceLeDiff, Nat.reduceLT, ↓reduceIte, sF] <;> first | done | rfl))) | refine Zc CH2 ?_ | (refine hN _ ?_; clear hN N) | (refine Zk hmk ?_; clear hmk mk) | refine Zt (Zq T6.d (Zq hu (Zq hx (Zq hre (Zq hBi (Zq hrl (Zq l1 l2))))))) ?_ | fail)
                 refine Zw [2,3,4,5,6,7,8,9,10,11] [0, 1, 2] (Zq T6.d (Zq hu (Zq hx (Zq hre (Zq hBi (Zq hrl (Zq l1 l2))))))) ?_
                 rfl
             · obtain ⟨d, hd⟩ : ∃ d, O8 x = d := ⟨_, rfl⟩
               rw [hd] at CD f2
               rw [hd]
               have CH1 := dC D d (by omega)
               have CH2 := dC (I.getD b []) d (by have := q1 b; omega)
               have CT := b3t (B.i.take (i + 1)) d (by rw [List.length_take]; omega)
               by_cases h0 : 0 ≤ d
               · have h0t : (0 ≤ d) = True := eq_true h0
                 by_cases hdd : d ∈ D
                 · rw [decide_eq_true hdd] at CH1
                   rw [if_neg fun h => h.2 hdd]
                   repeat' (first | refine Za ?_ | (with_reducible first | refine Zz.mk fun N hN mk hmk => ?_ | refine Zb.mk fun N hN => ?_ | refine Zi.mk fun h => ?_ | refine ⟨fun h => ?_, fun h => ?_⟩ | exact True.intro) | refine Zc CD ?_ | (refine aA CH1 rfl ?_ rfl ?_; (next => (simp (disch := omega) only [T6.d, h0t, hx, hre, hBi, hrl, l1, l2, D8, Nat.reduceBEq, AV.plain, Nat.reduceAdd, Nat.reduceLeDiff, Nat.reduceLT, ↓reduceIte, sF] <;> first | done | rfl))) | (refine X3 CH1 rfl ?_ rfl ?_; (next => (simp (disch := omega) only [T6.d, h0t, hx, hre, hBi, hrl, l1, l2, D8, Nat.reduceBEq, AV.plain, Nat.reduceAdd, Nat.reduceLeDiff, Nat.reduceLT, ↓reduceIte, sF] <;> first | done | rfl))) | (refine hN _ ?_; clear hN N) | (refine Zk hmk ?_; clear hmk mk) | refine Zt (Zq T6.d (Zq h0t (Zq hx (Zq hre (Zq hBi (Zq hrl (Zq l1 l2))))))) ?_ | fail)
                   refine Zw [2, 3, 4, 5, 6, 7, 8, 9] [0, 1, 2] (Zq T6.d (Zq h0t (Zq hx (Zq hre (Zq hBi (Zq hrl (Zq l1 l2))))))) ?_
                   rfl
                 · rw [decide_eq_false hdd] at CH1
                   rw [if_pos ⟨h0, hdd⟩]
                   by_cases hdi : d ∈ I.getD b []
                   · rw [decide_eq_true hdi] at CH2
                     rw [decide_eq_true (f2 hdi)] at CT
                     repeat' (first | refine Za ?_ | (with_reducible first | refine Zz.mk fun N hN mk hmk => ?_ | refine Zb.mk fun N hN => ?_ | refine Zi.mk fun h => ?_ | refine ⟨fun h => ?_, fun h => ?_⟩ | exact True.intro) | refine Zc CD ?_ | (refine aA CH1 rfl ?_ rfl ?_; (next => (simp (disch := omega) only [T6.d, h0t, hx, hre, hBi, hrl, l1, l2, D8, Nat.reduceBEq, AV.plain, Nat.reduceAdd, Nat.reduceLeDiff, Nat.reduceLT, ↓reduceIte, sF] <;> first | done | rfl))) | (refine X3 CH1 rfl ?_ rfl ?_; (next => (simp (disch := omega) only [T6.d, h0t, hx, hre, hBi, hrl, l1, l2, D8, Nat.reduceBEq, AV.plain, Nat.reduceAdd, Nat.reduceLeDiff, Nat.reduceLT, ↓reduceIte, sF] <;> first | done | rfl))) | refine Zc CH2 ?_ | refine Zc CT ?_ | (refine hN _ ?_; clear hN N) | (refine Zk hmk ?_; clear hmk mk) | refine Zt (Zq T6.d (Zq h0t (Zq hx (Zq hre (Zq hBi (Zq hrl (Zq l1 l2))))))) ?_ | fail)
                     refine Zw [2, 3, 4, 5, 6, 7, 8, 9] [0, 1, 379] (Zq T6.d (Zq h0t (Zq hx (Zq hre (Zq hBi (Zq hrl (Zq l1 l2))))))) ?_
                     rfl
                   · rw [decide_eq_false hdi] at CH2
                     repeat' (first | refine Za ?_ | (with_reducible first | refine Zz.mk fun N hN mk hmk => ?_ | refine Zb.mk fun N hN => ?_ | refine Zi.mk fun h => ?_ | refine ⟨fun h => ?_, fun h => ?_⟩ | exact True.intro) | refine Zc CD ?_ | (refine aA CH1 rfl ?_ rfl ?_; (next => (simp (disch := omega) only [T6.d, h0t, hx, hre, hBi, hrl, l1, l2, D8, Nat.reduceBEq, AV.plain, Nat.reduceAdd, Nat.reduceLeDiff, Nat.reduceLT, ↓reduceIte, sF] <;> first | done | rfl))) | (refine X3 CH1 rfl ?_ rfl ?_; (next => (simp (disch := omega) only [T6.d, h0t, hx, hre, hBi, hrl, l1, l2, D8, Nat.reduceBEq, AV.plain, Nat.reduceAdd, Nat.reduceLeDiff, Nat.reduceLT, ↓reduceIte, sF] <;> first | done | rfl))) | refine Zc CH2 ?_ | (refine hN _ ?_; clear hN N) | (refine Zk hmk ?_; clear hmk mk) | refine Zt (Zq T6.d (Zq h0t (Zq hx (Zq hre (Zq hBi (Zq hrl (Zq l1 l2))))))) ?_ | fail)
                     refine Zw [2, 3, 4, 5, 6, 7, 8, 9] [0, 1, 283] (Zq T6.d (Zq h0t (Zq hx (Zq hre (Zq hBi (Zq hrl (Zq l1 l2))))))) ?_
                     rfl
               · have h0t : (0 ≤ d) = False := eq_false h0
                 rw [if_neg fun h => h0 h.1]
                 repeat' (first | refine Za ?_ | (with_reducible first | refine Zz.mk fun N hN mk hmk => ?_ | refine Zb.mk fun N hN => ?_ | refine Zi.mk fun h => ?_ | refine ⟨fun h => ?_, fun h => ?_⟩ | exact True.intro) | refine Zc CD ?_ | (refine hN _ ?_; clear hN N) | (refine Zk hmk ?_; clear hmk mk) | refine Zt (Zq T6.d (Zq h0t (Zq hx (Zq hre (Zq hBi (Zq hrl (Zq l1 l2))))))) ?_ | fail)
                 refine Zw [2, 3, 4, 5, 6, 7, 8, 9] [0, 1, 2] (Zq T6.d (Zq h0t (Zq hx (Zq hre (Zq hBi (Zq hrl (Zq l1 l2))))))) ?_
                 rfl
         · have hilT : ((i : Int) < (B.i.length : Int)) = False := eq_false (by omega)
           repeat' (first | refine Za ?_ | (with_reducible first | refine Zz.mk fun N hN mk hmk => ?_ | refine Zb.mk fun N hN => ?_ | refine Zi.mk fun h => ?_ | refine ⟨fun h => ?_, fun h => ?_⟩ | exact True.intro) | (refine hN _ ?_; clear hN N) | (refine Zk hmk ?_; clear hmk mk) | refine Zt (Zq T6.d (Zq hilT (Zq hre (Zq hBi (Zq hrl (Zq l1 l2)))))) ?_ | fail)
           all_goals refine Zw [2, 3, 4, 5, 6, 7] [0, 1] (Zq T6.d (Zq hilT (Zq hre (Zq hBi (Zq hrl (Zq l1 l2)))))) ?_
           all_goals rfl
   ·
     repeat' (first | refine Za ?_ | (with_reducible first | refine Zz.mk fun N hN mk hmk => ?_ | refine Zb.mk fun N hN => ?_ | refine Zi.mk fun h => ?_ | refine ⟨fun h => ?_, fun h => ?_⟩ | exact True.intro) | (refine hN _ ?_; clear hN N) | (refine Zk hmk ?_; clear hmk mk) | refine Zt b2l.d ?_ | fail)
end Go.Proofs.YtfccigmfcpimgaaDoor
end
