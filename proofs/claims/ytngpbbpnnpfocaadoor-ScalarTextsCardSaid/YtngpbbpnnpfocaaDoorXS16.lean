/- Own work (by an AI agent; no person has read it): part of a proof of the seat YtngpbbpnnpfocaaDoor. -/
import Derived.Test.YtngpbbpnnpfocaaDoorXS15
set_option linter.unusedSimpArgs false
set_option linter.unusedVariables false
set_option maxRecDepth 100000
set_option maxHeartbeats 1000000
namespace Go.Proofs.YtngpbbpnnpfocaaDoor
open Go.Ab

theorem rbits_ok (op a b : Int) (ha : I32 a) (hb : I32 b) (ho : op = 17 ∨ op = 18 ∨ op = 19) : CallOK Tryd.prog 31 [.v (.int .i64 op), .v (.int .i32 a), .v (.int .i32 b)] (fun _ => .v (.int .i32 (binF op a b).1)) (fun _ => []) := by
  rcases ho with rfl | rfl | rfl
  · rw [b17]; exact rbits_and a b ha hb
  · rw [b18]; exact rbits_or a b ha hb
  · rw [b19]; exact rbits_xor a b ha hb
theorem whole_bin (op a b : Int) (ha : I32 a) (hb : I32 b) (h1 : 10 ≤ op) (h2 : op < 24) (h3 : op ≠ 17) (h4 : op ≠ 18) (h5 : op ≠ 19) : w32 (wholeF op a b) = (binF op a b).1 ∧ (binF op a b).2 = 0 := by
  have hs : 0 ≤ b % 32 ∧ b % 32 < 32 := by omega
  have hm := m31_mod b
  rcases (by omega : op = 10 ∨ op = 11 ∨ op = 12 ∨ op = 13 ∨ op = 14 ∨ op = 15 ∨ op = 16 ∨ op = 20 ∨ op = 21 ∨ op = 22 ∨ op = 23) with rfl | rfl | rfl | rfl | rfl | rfl | rfl | rfl | rfl | rfl | rfl
  · exact ⟨rfl, rfl⟩
  · exact ⟨rfl, rfl⟩
  · exact ⟨rfl, rfl⟩
  · refine ⟨?_, rfl⟩
    rw [b13]; show w32 (if b = 0 then 0 else w64 (a.tdiv b)) = if b = 0 then 0 else w32 (a.tdiv b)
    split
    · decide
    · exact w32_w64 _
  · refine ⟨?_, rfl⟩
    rw [b14]; show w32 (w64 (a - w64 (b * (if b = 0 then 0 else w64 (a.tdiv b))))) = if b = 0 then a else w32 (a.tmod b)
    rw [w32_w64]
    by_cases h0 : b = 0
    · rw [if_pos h0, if_pos h0, Int.mul_zero, show w64 0 = 0 by decide, Int.sub_zero]; exact w32_of ha.1 ha.2
    · rw [if_neg h0, if_neg h0]
      unfold I32 at ha hb
      have hq := tdiv_in (a := a) (b := b) (by omega)
      have e := Int.mul_tdiv_add_tmod a b
      obtain ⟨_, _, t3, t4⟩ := tmod_lt a b h0
      have ht : -2147483648 < a.tmod b ∧ a.tmod b < 2147483648 := by
        rcases Int.lt_or_gt_of_ne h0 with h | h
        · have := t4 h; omega
        · have := t3 h; omega
      rw [w64_of (n := a.tdiv b) (by omega) (by omega), w64_of (by omega) (by omega)]
      congr 1; omega
  · refine ⟨?_, rfl⟩
    rw [b15, fd]; rfl
  · refine ⟨?_, ?_⟩
    · rw [b16]; show w32 (if b = 0 then 0 else belF (a * 65536) b) = _
      split
      · decide
      · rfl
    · show (if b = 0 then ((0 : Int), (0 : Int)) else (w32 (belF (a * 65536) b), 0)).2 = 0
      split <;> rfl
  · refine ⟨?_, rfl⟩
    rw [b20, hm, shl_pw hs]; exact w32_w64 _
  · refine ⟨?_, rfl⟩
    rw [b21, hm, shr_pw hs]
    have := down_in a (pw (b % 32)) ha (pw_bound hs).1
    exact w32_of this.1 this.2
  · refine ⟨?_, rfl⟩
    rw [b22]; show w32 (if b < a then b else a) = _
    split
    · exact w32_of hb.1 hb.2
    · exact w32_of ha.1 ha.2
  · refine ⟨?_, rfl⟩
    rw [b23]; show w32 (if a < b then b else a) = _
    split
    · exact w32_of hb.1 hb.2
    · exact w32_of ha.1 ha.2
theorem cmp_bin (op a b : Int) (h1 : 24 ≤ op) (h2 : op ≤ 29) : truthF (if op = 24 then decide (a = b) else if op = 25 then decide (a ≠ b) else if op = 26 then decide (a < b) else if op = 27 then decide (a ≤ b) else if op = 28 then decide (b < a) else decide (b ≤ a)) = (binF op a b).1 ∧ (binF op a b).2 = 0 := by
  rcases (by omega : op = 24 ∨ op = 25 ∨ op = 26 ∨ op = 27 ∨ op = 28 ∨ op = 29) with rfl | rfl | rfl | rfl | rfl | rfl <;> exact ⟨rfl, rfl⟩
theorem none_bin (op a b : Int) (h : op < 10 ∨ 29 < op) : binF op a b = (0, 1) := by
  unfold binF cmpF
  repeat rw [if_neg (by omega)]
theorem bit_bin (op a b : Int) (ho : op = 17 ∨ op = 18 ∨ op = 19) : (binF op a b).2 = 0 := by
  rcases ho with rfl | rfl | rfl <;> rfl

theorem rbinIn_ok (op a b : Int) (ha : I32 a) (hb : I32 b) : CallOK Tryd.prog 15 [.v (.int .i64 op), .v (.int .i32 a), .v (.int .i32 b)] (fun _ => .agg [.v (.int .i32 (binF op a b).1), .v (.int .i64 (binF op a b).2)]) (fun _ => []) := by
  have ha' := ha
  have hb' := hb
  have w1 := none_bin op a b
  have w2 := cmp_bin op a b
  have w3 := whole_bin op a b ha hb
  have w4 := bit_bin op a b
  unfold I32 at ha hb
  have k1 : Keep (w64 a = a) := ⟨w64_of (by omega) (by omega)⟩
  have k2 : Keep (w64 b = b) := ⟨w64_of (by omega) (by omega)⟩
  
  (refine callOK_frz Tryd.func15 rfl (by kernel_rfl) ?_; rw [initL_eq Tryd.ntmps15]; simp only [List.replicate_succ, List.replicate_zero, List.cons_append, List.nil_append, List.length_cons, List.length_nil, Nat.reduceAdd, Nat.reduceSub]; refine ak_start ?_)
  repeat' (first | refine ak_seq ?_ | refine ak_block ?_ | refine ak_skip ?_ | refine ak_exit ?_ | refine ak_ret ?_ | refine ak_reg fun N hN => ?_ | refine ak_regD (by kernel_rfl) (by kernel_rfl) fun N hN mk hmk => ?_ | (refine hN _ ?_; clear hN N) | refine ak_cond_t rfl ?_ | refine ak_cond_f rfl ?_ | (refine ak_cond_p rfl (fun h => ?_) (fun h => ?_)) | refine ak_cond rfl (fun h => ?_) (fun h => ?_) | refine callF_fix (rcmp_ok _ _ _ (by omega)) rfl ?_ | refine callF_intro (rcmp_ok _ _ _ (by omega)) rfl rfl ?_ | refine callFD_fix (rcmp_ok _ _ _ (by omega)) rfl ?_ | refine callF_fix (rtruth_ok _) rfl ?_ | refine callF_intro (rtruth_ok _) rfl rfl ?_ | refine callFD_fix (rtruth_ok _) rfl ?_ | refine callF_fix (rbits_ok _ _ _ ha' hb' (by omega)) rfl ?_ | refine callF_intro (rbits_ok _ _ _ ha' hb' (by omega)) rfl rfl ?_ | refine callFD_fix (rbits_ok _ _ _ ha' hb' (by omega)) rfl ?_ | refine callF_fix (rwhole_ok _ _ _ ha' hb') rfl ?_ | refine callF_intro (rwhole_ok _ _ _ ha' hb') rfl rfl ?_ | refine callFD_fix (rwhole_ok _ _ _ ha' hb') rfl ?_ | refine callF_fix (rwrap_ok _) rfl ?_ | refine callF_intro (rwrap_ok _) rfl rfl ?_ | refine callFD_fix (rwrap_ok _) rfl ?_ | (with_reducible refine And.intro (fun h => ?_) (fun h => ?_)) | ((with_reducible refine And.intro (?_ : checkL _ _ = true) ?_); (rw [← hmk]; first | rfl | kernel_rfl); clear hmk mk) | refine (show retFrz _ _ _ _ _ from ⟨trivial, ?_⟩) | simp (maxSteps := 10000000) only [Tryd.results15, k1.out, k2.out, w32_eq, w64_eq, not_false_eq_true, not_true_eq_false, runD_nil, runD_cons, goD, endD, gdD_b, gdD_und, gdT_tt, gdT_ff, gdT_tf, gdT_ft, gdT_t, gdT_f, callD, kont_nil, kont_seq_n, kont_seq_r, kont_seq_e, kont_block_n, kont_block_r, kont_block_e, thenA_n, thenA_r, thenA_e, inlK, findG, goneG, backT, keptT, AV.kept, freshG, ne_eq, not_false_eq_true, LS.toSt, resA, resV, rd, frz, frzIds, plainRows, AV.plain, exists_eq_left', AV.v.injEq, Value.bool.injEq, Value.int.injEq, List.flatMap_cons, List.flatMap_nil, tabOf_nil, tabOf_cons, runC_nil, runC_cons, goC, endC, gdC_b, gdC_und, gdS_tt, gdS_ff, gdS_tf, gdS_ft, gdS_t, gdS_f, dstC, stepC, LS.ev, LS.tf, LS.hf, AV.cellsA, one_v, one_dead, one_agg, one_tup, one_anyb, one_imm, one_iat, one_own, one_ptr, one_ptx, one_fn, AV.ofV, AV.ofC, AV.toV, AV.scalar, rdC, addrC, partC, idxC, intB, slcC, srcC, appC, lenV, packA, binV, unV, convV, idxV, sliV, boundV, mmV, nilCmp, eqAV, scAV, scB, eqOp, fillA, setA, placeA, splice, TD.isRow, callC, footOf, metaFp, readFp, wrL, killL, froL_nil, newL, heapL_new, heapL_pure, heapL_wr, heapL_kill, heapL_call, app_some, app_none, put_some, put_none, Value.oneCell', List.lookup_cons, List.lookup_nil, List.length_cons, List.length_nil, List.getD_cons_zero, List.getD_cons_succ, List.set_cons_zero, List.set_cons_succ, List.map_cons, List.map_nil, List.mapM_cons, List.mapM_nil, List.take_succ_cons, List.take_zero, List.take_nil, List.drop_succ_cons, List.drop_zero, List.drop_nil, List.nil_append, List.cons_append, List.append_nil, List.all_cons, List.all_nil, List.modify_zero_cons, List.modify_succ_cons, List.getElem?_cons_zero, List.getElem?_cons_succ, List.getElem?_nil, List.replicate_succ, List.replicate_zero, List.forall_mem_cons, List.not_mem_nil, Option.map_some, Option.map_none, Option.bind_some, Option.bind_none, Option.bind_eq_bind, Option.pure_def, Option.getD_some, Option.getD_none, Bool.and_true, Bool.true_and, Bool.not_true, Bool.not_false, true_and, and_true, if_true, if_false, reduceIte, Int.reduceNe, Int.reduceEq, Nat.reduceAdd, Nat.reduceLT, Nat.reduceLeDiff, Nat.reduceSub, Nat.reduceMul, Nat.reduceBEq, Nat.reduceEqDiff, Nat.add_zero, Nat.zero_add, Int.toNat_natCast, Nat.le_refl, Nat.zero_le, Option.some.injEq, forall_const, false_implies, implies_true, and_self, beq_self_eq_true, reduceCtorEq, Bool.false_eq_true, forall_eq, decide_true, decide_false, Int.reduceToNat, List.size_toArray, Nat.not_lt_zero, Nat.lt_irrefl, List.length_append, ← decide_not, ← Bool.decide_and, ti_1, T1_size, T1_agg, T1_bytes, T1_zero, ti_2, T2_size, T2_agg, T2_bytes, T2_zero, ti_3, T3_size, T3_agg, T3_bytes, T3_zero, ti_4, T4_size, T4_agg, T4_bytes, T4_zero, ti_5, T5_size, T5_agg, T5_bytes, T5_zero, ti_9, T9_size, T9_agg, T9_bytes, T9_zero, ti_21, T21_size, T21_agg, T21_bytes, T21_zero, ti_23, T23_size, T23_agg, T23_bytes, T23_zero, ti_25, T25_size, T25_agg, T25_bytes, T25_zero, ti_31, T31_size, T31_agg, T31_bytes, T31_zero, ti_33, T33_size, T33_agg, T33_bytes, T33_zero, ti_36, T36_size, T36_agg, T36_bytes, T36_zero, ti_41, T41_size, T41_agg, T41_bytes, T41_zero, ti_42, T42_size, T42_agg, T42_bytes, T42_zero, ti_44, T44_size, T44_agg, T44_bytes, T44_zero, ti_67, T67_size, T67_agg, T67_bytes, T67_zero, ti_68, T68_size, T68_agg, T68_bytes, T68_zero, ti_75, T75_size, T75_agg, T75_bytes, T75_zero, td_1, td_2, td_3, td_4, td_5, td_9, td_21, td_23, td_25, td_31, td_33, td_36, td_41, td_42, td_44, td_67, td_68, td_75, isb_4, pl_25, pl_36, pl_41, pl_42, pl_44] | ((refine gdS_tb (fun h => ?_) (fun h => ?_)) <;> try simp only [h]) | ((refine gdS_fb (fun h => ?_) (fun h => ?_)) <;> try simp only [h]) | ((refine gdT_tb (fun h => ?_) (fun h => ?_)) <;> try simp only [h]) | ((refine gdT_fb (fun h => ?_) (fun h => ?_)) <;> try simp only [h]))
  all_goals first
    | (rw [w1 (by omega)]; done)
    | (obtain ⟨e1, e2⟩ := w2 (by omega) (by omega); rw [e1, e2]; done)
    | (rw [w4 (by omega)]; done)
    | (obtain ⟨e1, e2⟩ := w3 (by omega) (by omega) (by omega) (by omega) (by omega); rw [e1, e2]; done)
end Go.Proofs.YtngpbbpnnpfocaaDoor
