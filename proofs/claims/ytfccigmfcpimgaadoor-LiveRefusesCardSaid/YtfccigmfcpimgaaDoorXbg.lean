/- Own work (by an AI agent; no person has read it): part of a proof of the seat YtfccigmfcpimgaaDoor. -/
import Derived.Test.YtfccigmfcpimgaaDoorXba
set_option linter.unusedSimpArgs false
set_option linter.unusedVariables false
set_option maxRecDepth 100000
set_option maxHeartbeats 10000000
section
namespace Go.Proofs.YtfccigmfcpimgaaDoor
open Go.Ab
theorem a3A (l : List (List Int)) (n : Nat) : (lists l).take n = lists (l.take n) := by simp [lists]
theorem wL (a b : List Int) : (e7 (a ++ b)).take (a.length + b.length) = e7 (a ++ b) := by rw [← List.length_append, B1]
theorem a57 (a : List Int) (x : Int) : (e7 (a ++ [x])).take (a.length + 1) = e7 (a ++ [x]) := wL a [x]
theorem a4p (n : Int) : (e7 [n, n]).take 2 = e7 [n, n] := rfl
theorem b6B (n : Int) : [[AV.v (.int .i64 n)], [AV.v (.int .i64 n)]] = e7 [n, n] := rfl
def cB := ZZ.mk (Zq @Int.sub_zero (Zq @uZ (Zq @a08 (Zq @a3F (Zq @uM (Zq @a3E (Zq @b1b (Zq @a3D (Zq @qX (Zq @a0i (Zq @a3A (Zq @qW (Zq @List.length_set.{0} (Zq @List.length_take.{0} (Zq @s8 (Zq @s7 (Zq @E3 (Zq @H4 (Zq @a0g (Zq @z8 (Zq @b8 (Zq @u7 (Zq @B4 (Zq @N9 (Zq @c6 (Zq @r6 (Zq @N7 (Zq @G7 (Zq @nN (Zq @B1 (Zq @wL (Zq @a57 (Zq @List.length_append.{0} (Zq @ne_eq.{1} (Zq @not_true_eq_false (Zq @not_false_eq_true (Zq @decide_false (Zq @decide_true (Zq @Int.toNat_natCast (Zq @b5 @b6))))))))))))))))))))))))))))))))))))))))
theorem a5P (L : List Int) (hL : A5 L) (z n : Int) (hz : 0 ≤ z ∧ z < 256) (hn : -9223372036854775808 ≤ n ∧ n < 9223372036854775808) :
   e8 Tryd.prog 8 [.agg [.b7 false (dJ L)], .v (.int .u8 z), .v (.int .i64 n)] (fun _ => .v (.bool true)) (fun _ => []) := by
 have CE := bW
 have CM := kT L hL
 obtain ⟨hc, h12⟩ := hZ L hL
 generalize lQ L = c at *
 have hcn := hc.n
 have hcr := hc.r
 have CF := a32 c hc
 obtain ⟨l1, l2⟩ := U5 hc
 obtain ⟨k1, k2⟩ := aQ hc
 have q1 : M2 100 (liveF c).1 := fun z => S7 k1 hcr.1 (by omega) z
 have q2 : M2 100 (liveF c).2 := fun z => S7 k2 hcr.1 (by omega) z
 have CC0 := P7 c (liveF c).1 (liveF c).2 hc (by omega) (fun z => by have := q1 z; omega) (by omega) (fun z => by have := q2 z; omega)
 rw [a3B hc] at CC0
 obtain ⟨b, hbz, hb⟩ : ∃ b : Nat, z.tmod (c.b.length : Int) = b ∧ b < c.b.length := by
   have h3 := Int.emod_nonneg z (show (c.b.length : Int) ≠ 0 by omega)
   have h4 := Int.emod_lt_of_pos z (show (0 : Int) < c.b.length by omega)
   exact ⟨(z % c.b.length).toNat, by rw [p7 _ _ hz.1]; omega, by omega⟩
 generalize (liveF c).1 = I at *
 generalize (liveF c).2 = O at *
 have CC1 := P7 c (I.take b) O hc (by rw [List.length_take]; omega) (fun z => by
   have := q1 z
   rw [List.getD_eq_getElem?_getD, List.getElem?_take]
   split
   · rw [← List.getD_eq_getElem?_getD]; omega
   · simp) (by omega) (fun z => by have := q2 z; omega)
 rw [aZ (fun h => by have := h.1.2; rw [List.length_take] at this; omega)] at CC1
 obtain ⟨l, hlI⟩ : ∃ l, I.getD b [] = l := ⟨_, rfl⟩
 obtain ⟨m, hlO⟩ : ∃ l, O.getD b [] = l := ⟨_, rfl⟩
 have hl100 : l.length ≤ 100 := by rw [← hlI]; exact q1 b
 have hm100 : m.length ≤ 100 := by rw [← hlO]; exact q2 b
 have hset : ∀ (X : List (List Int)) (hX : X.length = c.b.length) (v : List Int), (X.set b v).getD b [] = v := fun X hX v => by rw [z7, if_pos ⟨rfl, by omega⟩]
 have hlenS : ∀ (X : List (List Int)) (v : List Int), M2 100 X → v.length ≤ 900 → ∀ i, ((X.set b v).getD i []).length ≤ 1000 := fun X v hX hv i => by
   rw [z7]
   split
   · omega
   · have := hX i; omega
 have CC2 := P7 c (I.set b (l ++ l)) O hc (by rw [List.length_set]; omega) (hlenS I _ q1 (by rw [List.length_append]; omega)) (by omega) (fun z => by have := q2 z; omega)
 have hk2 : l ≠ [] → chkF c (I.set b (l ++ l)) O = 100 := fun hne => aZ fun h => by
   have h3 := (N8 h.1.1 b).2
   rw [hset I l1] at h3
   cases l with
   | nil => exact hne rfl
   | cons x l =>
     have := (List.pairwise_append.1 h3).2.2 x (by simp) x (by simp)
     omega
 have CC3 := fun v (hv : v.length ≤ 900) => P7 c I (O.set b v) hc (by omega) (fun z => by have := q1 z; omega) (by rw [List.length_set]; omega) (hlenS O v q2 hv)
 have hk3 : ∀ v, ¬ (RB c.r9 v ∧ K8 v) → chkF c I (O.set b v) = 100 := fun v hv => aZ fun h => by
   have h3 := N8 h.2.1.1 b
   rw [hset O l2] at h3
   exact hv h3
 have hbT : (b < c.b.length) = True := by simp [hb]
 have plI := fun id n => iU I b id n (by omega)
 have reI := fun id n r => oA I b id n r (by omega)
 have plO := fun id n => iU O b id n (by omega)
 have reO := fun id n r => oA O b id n r (by omega)
 simp only [Code.av] at CM CF CC0 CC1 CC2 CC3
 refine Zf Tryd.func8 Tryd.ntmps8 ?_
 repeat' (first | (guard_target =~ AK Tryd.prog (Go.Code.seq (Go.Code.region 10 _ _) _) _ _ _; refine jB ?_) | refine Za ?_ | (with_reducible first | refine Zz.mk fun N hN mk hmk => ?_ | refine Zb.mk fun N hN => ?_ | refine Zi.mk fun h => ?_ | refine ⟨fun h => ?_, fun h => ?_⟩ | exact True.intro) | refine Zc CE ?_ | refine Zc CM ?_ | refine Zc CF ?_ | (refine hN _ ?_; clear hN N) | (refine Zk hmk ?_; clear hmk mk) | refine Zt (Zq cB.d (Zq hbz (Zq hlI (Zq hlO (Zq plI (Zq plO (Zq reI (Zq reO (Zq l1 l2))))))))) ?_ | fail)
 refine fD ?_
 refine w7 (L5 296 0 0 6 (.own 264 0 c.b.length) (.b7 false (lists (I.set b (l ++ l)))) rfl rfl (by simp (maxSteps := 10000000) (disch := omega) only [hbT, cB.d, hbz, hlI, hlO, plI, plO, reI, reO, l1, l2, r7, Z3, A2, H3, x9, u6, AV.kept, l7, n6, A3, I6, y7, x5, Go.MapKept.IsKey, r8, B8, AV.plain, rd, D8, a8, Z2, w6, AV.j8, AV.aS, AV.I5, AV.V7, AV.scalar, bC, y8, H6, H9, I3, H8, x4, H5, bD, y9, H7, G9, m9, bB, o9, F2, F1, Z8, F9, o6, TD.isRow, A1, n8, o8, n4, L8, Value.oneCell', ↓reduceIte, Int.reduceNe, Int.reduceEq, Nat.reduceAdd, Nat.reduceLT, Nat.reduceLeDiff, Nat.reduceSub, Nat.reduceMul, Nat.reduceBEq, Nat.reduceEqDiff, reduceCtorEq, Int.reduceToNat, ← decide_not, ← Bool.decide_and, sA, sN])) ?_
 simp (maxSteps := 10000000) (disch := omega) only [a8, n6, A9, L8, cB.d, hbz, hlI, hlO, plI, plO, reI, reO, l1, l2, r7, Z3, A2, H3, x9, u6, AV.kept, l7, n6, A3, I6, y7, x5, Go.MapKept.IsKey, r8, B8, AV.plain, rd, D8, a8, Z2, w6, AV.j8, AV.aS, AV.I5, AV.V7, AV.scalar, bC, y8, H6, H9, I3, H8, x4, H5, bD, y9, H7, G9, m9, bB, o9, F2, F1, Z8, F9, o6, TD.isRow, A1, n8, o8, n4, L8, Value.oneCell', ↓reduceIte, Int.reduceNe, Int.reduceEq, Nat.reduceAdd, Nat.reduceLT, Nat.reduceLeDiff, Nat.reduceSub, Nat.reduceMul, Nat.reduceBEq, Nat.reduceEqDiff, reduceCtorEq, Int.reduceToNat, ← decide_not, ← Bool.decide_and, sA, sN]
 repeat' (first | (guard_target =~ AK Tryd.prog (Go.Code.seq (Go.Code.region 12 _ _) _) _ _ _; refine jB ?_) | refine Za ?_ | (with_reducible first | refine Zz.mk fun N hN mk hmk => ?_ | refine Zb.mk fun N hN => ?_ | refine Zi.mk fun h => ?_ | refine ⟨fun h => ?_, fun h => ?_⟩ | exact True.intro) | (refine hN _ ?_; clear hN N) | (refine Zk hmk ?_; clear hmk mk) | refine Zt (Zq cB.d (Zq hbz (Zq hlI (Zq hlO (Zq plI (Zq plO (Zq reI (Zq reO (Zq l1 l2))))))))) ?_ | fail)
 refine fD ?_
 by_cases hr : 0 ≤ n ∧ n < c.r9
 · have CC4 := CC3 [n, n] (by simp)
   rw [hk3 [n, n] (fun h => by have := List.pairwise_cons.1 h.2; have := this.1 n (by simp); omega)] at CC4
   have hA : (0 ≤ n) = True := by simp [hr.1]
   have hB : (n < c.r9) = True := by simp [hr.2]
   repeat' (first | (guard_target =~ AK Tryd.prog (Go.Code.seq (Go.Code.region 14 _ _) _) _ _ _; refine jB ?_) | refine Za ?_ | (with_reducible first | refine Zz.mk fun N hN mk hmk => ?_ | refine Zb.mk fun N hN => ?_ | refine Zi.mk fun h => ?_ | refine ⟨fun h => ?_, fun h => ?_⟩ | exact True.intro) | (refine hN _ ?_; clear hN N) | (refine Zk hmk ?_; clear hmk mk) | refine Zt (Zq cB.d (Zq hA (Zq hB (Zq hbz (Zq hlI (Zq hlO (Zq plI (Zq plO (Zq reI (Zq reO (Zq l1 l2))))))))))) ?_ | fail)
   refine fD ?_
   refine w7 (L5 512 0 1 6 (.own 496 0 c.b.length) (.b7 false (lists (O.set b [n, n]))) rfl rfl (by simp (maxSteps := 10000000) (disch := omega) only [b6B, a4p, hbT, cB.d, hA, hB, hbz, hlI, hlO, plI, plO, reI, reO, l1, l2, r7, Z3, A2, H3, x9, u6, AV.kept, l7, n6, A3, I6, y7, x5, Go.MapKept.IsKey, r8, B8, AV.plain, rd, D8, a8, Z2, w6, AV.j8, AV.aS, AV.I5, AV.V7, AV.scalar, bC, y8, H6, H9, I3, H8, x4, H5, bD, y9, H7, G9, m9, bB, o9, F2, F1, Z8, F9, o6, TD.isRow, A1, n8, o8, n4, L8, Value.oneCell', ↓reduceIte, Int.reduceNe, Int.reduceEq, Nat.reduceAdd, Nat.reduceLT, Nat.reduceLeDiff, Nat.reduceSub, Nat.reduceMul, Nat.reduceBEq, Nat.reduceEqDiff, reduceCtorEq, Int.reduceToNat, ← decide_not, ← Bool.decide_and, sA, sN])) ?_
   simp (maxSteps := 10000000) (disch := omega) only [a8, n6, A9, L8, cB.d, hA, hB, hbz, hlI, hlO, plI, plO, reI, reO, l1, l2, r7, Z3, A2, H3, x9, u6, AV.kept, l7, n6, A3, I6, y7, x5, Go.MapKept.IsKey, r8, B8, AV.plain, rd, D8, a8, Z2, w6, AV.j8, AV.aS, AV.I5, AV.V7, AV.scalar, bC, y8, H6, H9, I3, H8, x4, H5, bD, y9, H7, G9, m9, bB, o9, F2, F1, Z8, F9, o6, TD.isRow, A1, n8, o8, n4, L8, Value.oneCell', ↓reduceIte, Int.reduceNe, Int.reduceEq, Nat.reduceAdd, Nat.reduceLT, Nat.reduceLeDiff, Nat.reduceSub, Nat.reduceMul, Nat.reduceBEq, Nat.reduceEqDiff, reduceCtorEq, Int.reduceToNat, ← decide_not, ← Bool.decide_and, sA, sN]
   by_cases hl0 : l = []
   · have hll : ((l.length : Int) = 0) = True := by simp [hl0]
     repeat' (first | refine Za ?_ | (with_reducible first | refine Zz.mk fun N hN mk hmk => ?_ | refine Zb.mk fun N hN => ?_ | refine Zi.mk fun h => ?_ | refine ⟨fun h => ?_, fun h => ?_⟩ | exact True.intro) | refine Zc CC1 ?_ | refine Zc CC4 ?_ | refine Zc CC0 ?_ | (refine hN _ ?_; clear hN N) | (refine Zk hmk ?_; clear hmk mk) | refine Zt (Zq cB.d (Zq hll (Zq hbz (Zq hlI (Zq hlO (Zq plI (Zq plO (Zq reI (Zq reO (Zq l1 l2)))))))))) ?_ | fail)
   · rw [hk2 hl0] at CC2
     have hll : ((l.length : Int) = 0) = False := by simp [hl0]
     repeat' (first | refine Za ?_ | (with_reducible first | refine Zz.mk fun N hN mk hmk => ?_ | refine Zb.mk fun N hN => ?_ | refine Zi.mk fun h => ?_ | refine ⟨fun h => ?_, fun h => ?_⟩ | exact True.intro) | refine Zc CC1 ?_ | refine Zc CC2 ?_ | refine Zc CC4 ?_ | refine Zc CC0 ?_ | (refine hN _ ?_; clear hN N) | (refine Zk hmk ?_; clear hmk mk) | refine Zt (Zq cB.d (Zq hll (Zq hbz (Zq hlI (Zq hlO (Zq plI (Zq plO (Zq reI (Zq reO (Zq l1 l2)))))))))) ?_ | fail)
 · have CC4 := CC3 (m ++ [n]) (by rw [List.length_append]; simp; omega)
   rw [hk3 (m ++ [n]) (fun h => by have := h.1 n (by simp); omega)] at CC4
   have hA : (0 ≤ n ∧ n < c.r9) = False := by simp only [hr]
   by_cases h0n : 0 ≤ n
   · have hA : (0 ≤ n) = True := by simp [h0n]
     have hB : (n < c.r9) = False := by simp; omega
     repeat' (first | (guard_target =~ AK Tryd.prog (Go.Code.seq (Go.Code.region 14 _ _) _) _ _ _; refine jB ?_) | refine Za ?_ | (with_reducible first | refine Zz.mk fun N hN mk hmk => ?_ | refine Zb.mk fun N hN => ?_ | refine Zi.mk fun h => ?_ | refine ⟨fun h => ?_, fun h => ?_⟩ | exact True.intro) | (refine hN _ ?_; clear hN N) | (refine Zk hmk ?_; clear hmk mk) | refine Zt (Zq cB.d (Zq hA (Zq hB (Zq hbz (Zq hlI (Zq hlO (Zq plI (Zq plO (Zq reI (Zq reO (Zq l1 l2))))))))))) ?_ | fail)
     refine fD ?_
     refine w7 (L5 512 0 1 6 (.own 496 0 c.b.length) (.b7 false (lists (O.set b (m ++ [n])))) rfl rfl (by simp (maxSteps := 10000000) (disch := omega) only [hbT, cB.d, hA, hB, hbz, hlI, hlO, plI, plO, reI, reO, l1, l2, r7, Z3, A2, H3, x9, u6, AV.kept, l7, n6, A3, I6, y7, x5, Go.MapKept.IsKey, r8, B8, AV.plain, rd, D8, a8, Z2, w6, AV.j8, AV.aS, AV.I5, AV.V7, AV.scalar, bC, y8, H6, H9, I3, H8, x4, H5, bD, y9, H7, G9, m9, bB, o9, F2, F1, Z8, F9, o6, TD.isRow, A1, n8, o8, n4, L8, Value.oneCell', ↓reduceIte, Int.reduceNe, Int.reduceEq, Nat.reduceAdd, Nat.reduceLT, Nat.reduceLeDiff, Nat.reduceSub, Nat.reduceMul, Nat.reduceBEq, Nat.reduceEqDiff, reduceCtorEq, Int.reduceToNat, ← decide_not, ← Bool.decide_and, sA, sN])) ?_
     simp (maxSteps := 10000000) (disch := omega) only [a8, n6, A9, L8, cB.d, hA, hB, hbz, hlI, hlO, plI, plO, reI, reO, l1, l2, r7, Z3, A2, H3, x9, u6, AV.kept, l7, n6, A3, I6, y7, x5, Go.MapKept.IsKey, r8, B8, AV.plain, rd, D8, a8, Z2, w6, AV.j8, AV.aS, AV.I5, AV.V7, AV.scalar, bC, y8, H6, H9, I3, H8, x4, H5, bD, y9, H7, G9, m9, bB, o9, F2, F1, Z8, F9, o6, TD.isRow, A1, n8, o8, n4, L8, Value.oneCell', ↓reduceIte, Int.reduceNe, Int.reduceEq, Nat.reduceAdd, Nat.reduceLT, Nat.reduceLeDiff, Nat.reduceSub, Nat.reduceMul, Nat.reduceBEq, Nat.reduceEqDiff, reduceCtorEq, Int.reduceToNat, ← decide_not, ← Bool.decide_and, sA, sN]
     by_cases hl0 : l = []
     · have hll : ((l.length : Int) = 0) = True := by simp [hl0]
       repeat' (first | refine Za ?_ | (with_reducible first | refine Zz.mk fun N hN mk hmk => ?_ | refine Zb.mk fun N hN => ?_ | refine Zi.mk fun h => ?_ | refine ⟨fun h => ?_, fun h => ?_⟩ | exact True.intro) | refine Zc CC1 ?_ | refine Zc CC4 ?_ | refine Zc CC0 ?_ | (refine hN _ ?_; clear hN N) | (refine Zk hmk ?_; clear hmk mk) | refine Zt (Zq cB.d (Zq hll (Zq hbz (Zq hlI (Zq hlO (Zq plI (Zq plO (Zq reI (Zq reO (Zq l1 l2)))))))))) ?_ | fail)
     · rw [hk2 hl0] at CC2
       have hll : ((l.length : Int) = 0) = False := by simp [hl0]
       repeat' (first | refine Za ?_ | (with_reducible first | refine Zz.mk fun N hN mk hmk => ?_ | refine Zb.mk fun N hN => ?_ | refine Zi.mk fun h => ?_ | refine ⟨fun h => ?_, fun h => ?_⟩ | exact True.intro) | refine Zc CC1 ?_ | refine Zc CC2 ?_ | refine Zc CC4 ?_ | refine Zc CC0 ?_ | (refine hN _ ?_; clear hN N) | (refine Zk hmk ?_; clear hmk mk) | refine Zt (Zq cB.d (Zq hll (Zq hbz (Zq hlI (Zq hlO (Zq plI (Zq plO (Zq reI (Zq reO (Zq l1 l2)))))))))) ?_ | fail)
   · have hA : (0 ≤ n) = False := by simp [h0n]
     repeat' (first | (guard_target =~ AK Tryd.prog (Go.Code.seq (Go.Code.region 14 _ _) _) _ _ _; refine jB ?_) | refine Za ?_ | (with_reducible first | refine Zz.mk fun N hN mk hmk => ?_ | refine Zb.mk fun N hN => ?_ | refine Zi.mk fun h => ?_ | refine ⟨fun h => ?_, fun h => ?_⟩ | exact True.intro) | (refine hN _ ?_; clear hN N) | (refine Zk hmk ?_; clear hmk mk) | refine Zt (Zq cB.d (Zq hA (Zq hbz (Zq hlI (Zq hlO (Zq plI (Zq plO (Zq reI (Zq reO (Zq l1 l2)))))))))) ?_ | fail)
     refine fD ?_
     refine w7 (L5 512 0 1 6 (.own 496 0 c.b.length) (.b7 false (lists (O.set b (m ++ [n])))) rfl rfl (by simp (maxSteps := 10000000) (disch := omega) only [hbT, cB.d, hA, hbz, hlI, hlO, plI, plO, reI, reO, l1, l2, r7, Z3, A2, H3, x9, u6, AV.kept, l7, n6, A3, I6, y7, x5, Go.MapKept.IsKey, r8, B8, AV.plain, rd, D8, a8, Z2, w6, AV.j8, AV.aS, AV.I5, AV.V7, AV.scalar, bC, y8, H6, H9, I3, H8, x4, H5, bD, y9, H7, G9, m9, bB, o9, F2, F1, Z8, F9, o6, TD.isRow, A1, n8, o8, n4, L8, Value.oneCell', ↓reduceIte, Int.reduceNe, Int.reduceEq, Nat.reduceAdd, Nat.reduceLT, Nat.reduceLeDiff, Nat.reduceSub, Nat.reduceMul, Nat.reduceBEq, Nat.reduceEqDiff, reduceCtorEq, Int.reduceToNat, ← decide_not, ← Bool.decide_and, sA, sN])) ?_
     simp (maxSteps := 10000000) (disch := omega) only [a8, n6, A9, L8, cB.d, hA, hbz, hlI, hlO, plI, plO, reI, reO, l1, l2, r7, Z3, A2, H3, x9, u6, AV.kept, l7, n6, A3, I6, y7, x5, Go.MapKept.IsKey, r8, B8, AV.plain, rd, D8, a8, Z2, w6, AV.j8, AV.aS, AV.I5, AV.V7, AV.scalar, bC, y8, H6, H9, I3, H8, x4, H5, bD, y9, H7, G9, m9, bB, o9, F2, F1, Z8, F9, o6, TD.isRow, A1, n8, o8, n4, L8, Value.oneCell', ↓reduceIte, Int.reduceNe, Int.reduceEq, Nat.reduceAdd, Nat.reduceLT, Nat.reduceLeDiff, Nat.reduceSub, Nat.reduceMul, Nat.reduceBEq, Nat.reduceEqDiff, reduceCtorEq, Int.reduceToNat, ← decide_not, ← Bool.decide_and, sA, sN]
     by_cases hl0 : l = []
     · have hll : ((l.length : Int) = 0) = True := by simp [hl0]
       repeat' (first | refine Za ?_ | (with_reducible first | refine Zz.mk fun N hN mk hmk => ?_ | refine Zb.mk fun N hN => ?_ | refine Zi.mk fun h => ?_ | refine ⟨fun h => ?_, fun h => ?_⟩ | exact True.intro) | refine Zc CC1 ?_ | refine Zc CC4 ?_ | refine Zc CC0 ?_ | (refine hN _ ?_; clear hN N) | (refine Zk hmk ?_; clear hmk mk) | refine Zt (Zq cB.d (Zq hll (Zq hbz (Zq hlI (Zq hlO (Zq plI (Zq plO (Zq reI (Zq reO (Zq l1 l2)))))))))) ?_ | fail)
     · rw [hk2 hl0] at CC2
       have hll : ((l.length : Int) = 0) = False := by simp [hl0]
       repeat' (first | refine Za ?_ | (with_reducible first | refine Zz.mk fun N hN mk hmk => ?_ | refine Zb.mk fun N hN => ?_ | refine Zi.mk fun h => ?_ | refine ⟨fun h => ?_, fun h => ?_⟩ | exact True.intro) | refine Zc CC1 ?_ | refine Zc CC2 ?_ | refine Zc CC4 ?_ | refine Zc CC0 ?_ | (refine hN _ ?_; clear hN N) | (refine Zk hmk ?_; clear hmk mk) | refine Zt (Zq cB.d (Zq hll (Zq hbz (Zq hlI (Zq hlO (Zq plI (Zq plO (Zq reI (Zq reO (Zq l1 l2)))))))))) ?_ | fail)
end Go.Proofs.YtfccigmfcpimgaaDoor
end
