/- Own work (by an AI agent; no person has read it): part of a proof of the seat YtngpbbpnnpfocaaDoor. -/
import Derived.Test.YtngpbbpnnpfocaaDoorXS4
set_option linter.unusedSimpArgs false
set_option linter.unusedVariables false
set_option maxRecDepth 100000
set_option maxHeartbeats 10000000
namespace Go.Proofs.YtngpbbpnnpfocaaDoor
open Go.Ab

theorem fd (x : Int) : x.fdiv 65536 = x / 65536 := Int.fdiv_eq_ediv_of_nonneg _ (by decide)
theorem w64_mulw {a b : Int} (h1 : -2147483648 ≤ a) (h2 : a < 2147483648) (h3 : -2147483648 ≤ b) (h4 : b ≤ 2147483648) : w64 (a * b) = a * b := by
  rcases Int.lt_or_eq_of_le h4 with h | h
  · exact w64_mul h1 h2 h3 h
  · subst h; exact w64_of (by omega) (by omega)
/-- the quotient below, for a positive divisor's sign brought forward -/
theorem bel_pos (x b : Int) (hx : -9223372036854775807 ≤ x ∧ x < 9223372036854775807) (hb : 0 < b) : belF x b * b ≤ x ∧ x - b < belF x b * b := by
  have e := Int.mul_tdiv_add_tmod x b
  obtain ⟨t1, t2, t3, t4⟩ := tmod_lt x b (by omega)
  have t3 := t3 hb
  have hq : -9223372036854775807 ≤ x.tdiv b ∧ x.tdiv b ≤ 9223372036854775807 := by
    have := Int.natAbs_tdiv_le_natAbs x b
    omega
  have hm : b * (x.tdiv b - 1) = b * x.tdiv b - b := by rw [Int.mul_sub, Int.mul_one]
  unfold belF
  split
  · rename_i h
    rw [w64_of (by omega) (by omega), Int.mul_comm, hm]; omega
  · rename_i h
    rw [w64_of (by omega) (by omega), Int.mul_comm]
    by_cases h0 : x.tmod b = 0
    · omega
    · have : (x.tmod b < 0 ↔ b < 0) := by
        by_cases h' : (x.tmod b < 0 ↔ b < 0)
        · exact h'
        · exact absurd ⟨h0, h'⟩ h
      omega
theorem bel_neg (x b : Int) (hx : -9223372036854775807 ≤ x ∧ x < 9223372036854775807) (hb : b < 0) : belF x b * (-b) ≤ -x ∧ -x + b < belF x b * (-b) := by
  have e := Int.mul_tdiv_add_tmod x b
  obtain ⟨t1, t2, t3, t4⟩ := tmod_lt x b (by omega)
  have t4 := t4 hb
  have hq : -9223372036854775807 ≤ x.tdiv b ∧ x.tdiv b ≤ 9223372036854775807 := by
    have := Int.natAbs_tdiv_le_natAbs x b
    omega
  have hm : b * (x.tdiv b - 1) = b * x.tdiv b - b := by rw [Int.mul_sub, Int.mul_one]
  unfold belF
  split
  · rename_i h
    rw [w64_of (by omega) (by omega), Int.mul_neg, Int.mul_comm, hm]; omega
  · rename_i h
    rw [w64_of (by omega) (by omega), Int.mul_neg, Int.mul_comm]
    by_cases h0 : x.tmod b = 0
    · omega
    · have : (x.tmod b < 0 ↔ b < 0) := by
        by_cases h' : (x.tmod b < 0 ↔ b < 0)
        · exact h'
        · exact absurd ⟨h0, h'⟩ h
      omega
theorem q_in {q s x : Int} (hs : 0 < s) (h1 : q * s ≤ x) (h2 : x - s < q * s) (h3 : x < s * 2147483647) (h4 : -(s * 2147483647) < x) : I32 q := by
  constructor
  · have : -2147483648 * s < q * s := by omega
    have := Int.lt_of_mul_lt_mul_right this (Int.le_of_lt hs)
    omega
  · have : q * s < 2147483647 * s := by omega
    have := Int.lt_of_mul_lt_mul_right this (Int.le_of_lt hs)
    omega

theorem div_pos (a b : Int) (ha : I32 a) (hb : 0 < b) : a * 65536 < b * 2147483647 ∧ -(b * 2147483647) < a * 65536 → w32 (belF (a * 65536) b) * b ≤ a * 65536 ∧ a * 65536 - b < w32 (belF (a * 65536) b) * b := by
  rintro ⟨h1, h2⟩
  unfold I32 at ha
  obtain ⟨g1, g2⟩ := bel_pos (a * 65536) b (by omega) hb
  have := q_in hb g1 g2 h1 h2
  rw [w32_of this.1 this.2]; exact ⟨g1, g2⟩
theorem div_neg (a b : Int) (ha : I32 a) (hb : b < 0) : -(a * 65536) < -b * 2147483647 ∧ -(-b * 2147483647) < -(a * 65536) → w32 (belF (a * 65536) b) * (-b) ≤ -(a * 65536) ∧ -(a * 65536) + b < w32 (belF (a * 65536) b) * (-b) := by
  rintro ⟨h1, h2⟩
  unfold I32 at ha
  obtain ⟨g1, g2⟩ := bel_neg (a * 65536) b (by omega) hb
  have := q_in (by omega : 0 < -b) g1 (by omega) h1 h2
  rw [w32_of this.1 this.2]; exact ⟨g1, g2⟩
theorem div_unit (a : Int) (ha : I32 a) : w32 (belF (a * 65536) 65536) = a := by
  unfold I32 at ha
  obtain ⟨g1, g2⟩ := bel_pos (a * 65536) 65536 (by omega) (by omega)
  have : belF (a * 65536) 65536 = a := by omega
  rw [this]; exact w32_of ha.1 ha.2

theorem fixed_ok0 (hex : CallOK Tryd.prog 11 [] (fun _ => .v (.bool true)) (fun _ => [])) (a n : Int) (ha : I32 a) (hn : -32768 ≤ n ∧ n < 32768) : CallOK Tryd.prog 6 [.v (.int .i32 a), .v (.int .i32 0), .v (.int .i16 n)] (fun _ => .v (.bool true)) (fun _ => []) := by
  have ha' := ha
  have r1 := Keep.mk (div_unit a ha)
  have hn32 : I32 n := by unfold I32; omega
  have hf : Keep (w32 (n * 65536) = n * 65536) := ⟨w32_of (by omega) (by omega)⟩
  have hi : I32 (n * 65536) := by unfold I32; omega
  have r2 : Keep (w32 (a * 65536 / 65536) = a) := ⟨by unfold I32 at ha; rw [show a * 65536 / 65536 = a by omega]; exact w32_of ha.1 ha.2⟩
  unfold I32 at ha
  have e1 : Keep (w64 a = a) := ⟨w64_of (by omega) (by omega)⟩
  have e2 : w64 0 = 0 := by decide
  have e2' : w32 0 = 0 := by decide
  have e7 : Keep (w64 (65536 * a) = 65536 * a) := ⟨w64_of (by omega) (by omega)⟩
  have e18 : Keep (w64 n = n) := ⟨w64_of (by omega) (by omega)⟩
  have e19 : Keep (w64 (65536 * n) = 65536 * n) := ⟨w64_of (by omega) (by omega)⟩
  have e20 : Keep (w64 (n * 65536) = n * 65536) := ⟨w64_of (by omega) (by omega)⟩
  have e21 : Keep (w64 (a / 65536) = a / 65536) := ⟨w64_of (by omega) (by omega)⟩
  have e22 : Keep (w64 (65536 * (a / 65536)) = 65536 * (a / 65536)) := ⟨w64_of (by omega) (by omega)⟩
  have e23 : Keep (w64 (a - 65536) = a - 65536) := ⟨w64_of (by omega) (by omega)⟩
  have e24 : Keep (w32 n = n) := ⟨w32_of (by omega) (by omega)⟩
  have e25 : Keep (n * 65536 / 65536 = n) := ⟨by omega⟩
  have g1 : Keep ((65536 * (a / 65536) ≤ a) = True) := ⟨eq_true (by omega)⟩
  have g2 : Keep ((a - 65536 < 65536 * (a / 65536)) = True) := ⟨eq_true (by omega)⟩
  have g3 : Keep ((n * 65536 = 65536 * n) = True) := ⟨eq_true (by omega)⟩
  have z1 : (0 : Int) / 65536 = 0 := by decide
  have z2 : w64 (65536 * 0) = 0 := by decide
  have z3 : w64 (0 - 65536) = -65536 := by decide
  have z4 : (0 < (0 : Int)) = False := by simp
  have z5 : ((0 : Int) ≤ -65536) = False := by simp
  
  (refine callOK_frz Tryd.func6 rfl (by kernel_rfl) ?_; rw [initL_eq Tryd.ntmps6]; simp only [List.replicate_succ, List.replicate_zero, List.cons_append, List.nil_append, List.length_cons, List.length_nil, Nat.reduceAdd, Nat.reduceSub]; refine ak_start ?_)
  repeat' (first | refine ak_seq ?_ | refine ak_block ?_ | refine ak_skip ?_ | refine ak_exit ?_ | refine ak_ret ?_ | refine ak_reg fun N hN => ?_ | refine ak_regD (by kernel_rfl) (by kernel_rfl) fun N hN mk hmk => ?_ | (refine hN _ ?_; clear hN N) | refine ak_cond_t rfl ?_ | refine ak_cond_f rfl ?_ | (refine ak_cond_p rfl (fun h => ?_) (fun h => ?_)) | refine ak_cond rfl (fun h => ?_) (fun h => ?_) | refine callF_fix (hex) rfl ?_ | refine callF_intro (hex) rfl rfl ?_ | refine callFD_fix (hex) rfl ?_ | refine callF_fix (lbin_ok _ _ _ (by first | assumption | exact lit_in (by omega)) (by first | assumption | exact lit_in (by omega))) rfl ?_ | refine callF_intro (lbin_ok _ _ _ (by first | assumption | exact lit_in (by omega)) (by first | assumption | exact lit_in (by omega))) rfl rfl ?_ | refine callFD_fix (lbin_ok _ _ _ (by first | assumption | exact lit_in (by omega)) (by first | assumption | exact lit_in (by omega))) rfl ?_ | refine callF_fix (lun_ok _ _ ha') rfl ?_ | refine callF_intro (lun_ok _ _ ha') rfl rfl ?_ | refine callFD_fix (lun_ok _ _ ha') rfl ?_ | refine callF_fix (lun_ok _ _ hn32) rfl ?_ | refine callF_intro (lun_ok _ _ hn32) rfl rfl ?_ | refine callFD_fix (lun_ok _ _ hn32) rfl ?_ | refine callF_fix (lun_ok _ _ hi) rfl ?_ | refine callF_intro (lun_ok _ _ hi) rfl rfl ?_ | refine callFD_fix (lun_ok _ _ hi) rfl ?_ | (with_reducible refine And.intro (fun h => ?_) (fun h => ?_)) | ((with_reducible refine And.intro (?_ : checkL _ _ = true) ?_); (rw [← hmk]; first | rfl | kernel_rfl); clear hmk mk) | refine (show retFrz _ _ _ _ _ from ⟨trivial, ?_⟩) | simp (maxSteps := 10000000) only [Tryd.results6, Int.mul_zero, z1, z2, z3, z4, z5, e2, e2', b15, b16, u4, u5, fd, w32_eq, w64_eq, w32_w64, eq_self, not_true_eq_false, not_false_eq_true, hf.out, r1.out, r2.out, e1.out, e7.out, e18.out, e19.out, e20.out, e21.out, e22.out, e23.out, e24.out, e25.out, g1.out, g2.out, g3.out, runD_nil, runD_cons, goD, endD, gdD_b, gdD_und, gdT_tt, gdT_ff, gdT_tf, gdT_ft, gdT_t, gdT_f, callD, kont_nil, kont_seq_n, kont_seq_r, kont_seq_e, kont_block_n, kont_block_r, kont_block_e, thenA_n, thenA_r, thenA_e, inlK, findG, goneG, backT, keptT, AV.kept, freshG, ne_eq, not_false_eq_true, LS.toSt, resA, resV, rd, frz, frzIds, plainRows, AV.plain, exists_eq_left', AV.v.injEq, Value.bool.injEq, Value.int.injEq, List.flatMap_cons, List.flatMap_nil, tabOf_nil, tabOf_cons, runC_nil, runC_cons, goC, endC, gdC_b, gdC_und, gdS_tt, gdS_ff, gdS_tf, gdS_ft, gdS_t, gdS_f, dstC, stepC, LS.ev, LS.tf, LS.hf, AV.cellsA, one_v, one_dead, one_agg, one_tup, one_anyb, one_imm, one_iat, one_own, one_ptr, one_ptx, one_fn, AV.ofV, AV.ofC, AV.toV, AV.scalar, rdC, addrC, partC, idxC, intB, slcC, srcC, appC, lenV, packA, binV, unV, convV, idxV, sliV, boundV, mmV, nilCmp, eqAV, scAV, scB, eqOp, fillA, setA, placeA, splice, TD.isRow, callC, footOf, metaFp, readFp, wrL, killL, froL_nil, newL, heapL_new, heapL_pure, heapL_wr, heapL_kill, heapL_call, app_some, app_none, put_some, put_none, Value.oneCell', List.lookup_cons, List.lookup_nil, List.length_cons, List.length_nil, List.getD_cons_zero, List.getD_cons_succ, List.set_cons_zero, List.set_cons_succ, List.map_cons, List.map_nil, List.mapM_cons, List.mapM_nil, List.take_succ_cons, List.take_zero, List.take_nil, List.drop_succ_cons, List.drop_zero, List.drop_nil, List.nil_append, List.cons_append, List.append_nil, List.all_cons, List.all_nil, List.modify_zero_cons, List.modify_succ_cons, List.getElem?_cons_zero, List.getElem?_cons_succ, List.getElem?_nil, List.replicate_succ, List.replicate_zero, List.forall_mem_cons, List.not_mem_nil, Option.map_some, Option.map_none, Option.bind_some, Option.bind_none, Option.bind_eq_bind, Option.pure_def, Option.getD_some, Option.getD_none, Bool.and_true, Bool.true_and, Bool.not_true, Bool.not_false, true_and, and_true, if_true, if_false, reduceIte, Int.reduceNe, Int.reduceEq, Nat.reduceAdd, Nat.reduceLT, Nat.reduceLeDiff, Nat.reduceSub, Nat.reduceMul, Nat.reduceBEq, Nat.reduceEqDiff, Nat.add_zero, Nat.zero_add, Int.toNat_natCast, Nat.le_refl, Nat.zero_le, Option.some.injEq, forall_const, false_implies, implies_true, and_self, beq_self_eq_true, reduceCtorEq, Bool.false_eq_true, forall_eq, decide_true, decide_false, Int.reduceToNat, List.size_toArray, Nat.not_lt_zero, Nat.lt_irrefl, List.length_append, ← decide_not, ← Bool.decide_and, ti_1, T1_size, T1_agg, T1_bytes, T1_zero, ti_2, T2_size, T2_agg, T2_bytes, T2_zero, ti_3, T3_size, T3_agg, T3_bytes, T3_zero, ti_4, T4_size, T4_agg, T4_bytes, T4_zero, ti_5, T5_size, T5_agg, T5_bytes, T5_zero, ti_6, T6_size, T6_agg, T6_bytes, T6_zero, ti_7, T7_size, T7_agg, T7_bytes, T7_zero, ti_8, T8_size, T8_agg, T8_bytes, T8_zero, ti_9, T9_size, T9_agg, T9_bytes, T9_zero, ti_10, T10_size, T10_agg, T10_bytes, T10_zero, ti_11, T11_size, T11_agg, T11_bytes, T11_zero, ti_12, T12_size, T12_agg, T12_bytes, T12_zero, ti_13, T13_size, T13_agg, T13_bytes, T13_zero, ti_14, T14_size, T14_agg, T14_bytes, T14_zero, ti_15, T15_size, T15_agg, T15_bytes, T15_zero, ti_16, T16_size, T16_agg, T16_bytes, T16_zero, ti_17, T17_size, T17_agg, T17_bytes, T17_zero, ti_18, T18_size, T18_agg, T18_bytes, T18_zero, ti_19, T19_size, T19_agg, T19_bytes, T19_zero, ti_20, T20_size, T20_agg, T20_bytes, T20_zero, ti_21, T21_size, T21_agg, T21_bytes, T21_zero, ti_22, T22_size, T22_agg, T22_bytes, T22_zero, ti_23, T23_size, T23_agg, T23_bytes, T23_zero, ti_24, T24_size, T24_agg, T24_bytes, T24_zero, ti_25, T25_size, T25_agg, T25_bytes, T25_zero, ti_26, T26_size, T26_agg, T26_bytes, T26_zero, ti_27, T27_size, T27_agg, T27_bytes, T27_zero, ti_28, T28_size, T28_agg, T28_bytes, T28_zero, ti_29, T29_size, T29_agg, T29_bytes, T29_zero, ti_30, T30_size, T30_agg, T30_bytes, T30_zero, ti_31, T31_size, T31_agg, T31_bytes, T31_zero, ti_32, T32_size, T32_agg, T32_bytes, T32_zero, ti_33, T33_size, T33_agg, T33_bytes, T33_zero, ti_34, T34_size, T34_agg, T34_bytes, T34_zero, ti_35, T35_size, T35_agg, T35_bytes, T35_zero, ti_36, T36_size, T36_agg, T36_bytes, T36_zero, ti_37, T37_size, T37_agg, T37_bytes, T37_zero, ti_38, T38_size, T38_agg, T38_bytes, T38_zero, ti_39, T39_size, T39_agg, T39_bytes, T39_zero, ti_40, T40_size, T40_agg, T40_bytes, T40_zero, ti_41, T41_size, T41_agg, T41_bytes, T41_zero, ti_42, T42_size, T42_agg, T42_bytes, T42_zero, ti_43, T43_size, T43_agg, T43_bytes, T43_zero, ti_44, T44_size, T44_agg, T44_bytes, T44_zero, ti_45, T45_size, T45_agg, T45_bytes, T45_zero, ti_46, T46_size, T46_agg, T46_bytes, T46_zero, ti_47, T47_size, T47_agg, T47_bytes, T47_zero, ti_49, T49_size, T49_agg, T49_bytes, T49_zero, ti_50, T50_size, T50_agg, T50_bytes, T50_zero, ti_51, T51_size, T51_agg, T51_bytes, T51_zero, ti_52, T52_size, T52_agg, T52_bytes, T52_zero, ti_53, T53_size, T53_agg, T53_bytes, T53_zero, ti_54, T54_size, T54_agg, T54_bytes, T54_zero, ti_55, T55_size, T55_agg, T55_bytes, T55_zero, ti_56, T56_size, T56_agg, T56_bytes, T56_zero, ti_58, T58_size, T58_agg, T58_bytes, T58_zero, ti_59, T59_size, T59_agg, T59_bytes, T59_zero, ti_60, T60_size, T60_agg, T60_bytes, T60_zero, ti_61, T61_size, T61_agg, T61_bytes, T61_zero, ti_62, T62_size, T62_agg, T62_bytes, T62_zero, ti_64, T64_size, T64_agg, T64_bytes, T64_zero, ti_65, T65_size, T65_agg, T65_bytes, T65_zero, ti_66, T66_size, T66_agg, T66_bytes, T66_zero, ti_67, T67_size, T67_agg, T67_bytes, T67_zero, ti_68, T68_size, T68_agg, T68_bytes, T68_zero, ti_70, T70_size, T70_agg, T70_bytes, T70_zero, ti_71, T71_size, T71_agg, T71_bytes, T71_zero, ti_72, T72_size, T72_agg, T72_bytes, T72_zero, ti_73, T73_size, T73_agg, T73_bytes, T73_zero, ti_74, T74_size, T74_agg, T74_bytes, T74_zero, ti_75, T75_size, T75_agg, T75_bytes, T75_zero, ti_77, T77_size, T77_agg, T77_bytes, T77_zero, ti_78, T78_size, T78_agg, T78_bytes, T78_zero, ti_80, T80_size, T80_agg, T80_bytes, T80_zero, ti_81, T81_size, T81_agg, T81_bytes, T81_zero, ti_82, T82_size, T82_agg, T82_bytes, T82_zero, ti_83, T83_size, T83_agg, T83_bytes, T83_zero, ti_84, T84_size, T84_agg, T84_bytes, T84_zero, ti_85, T85_size, T85_agg, T85_bytes, T85_zero, ti_86, T86_size, T86_agg, T86_bytes, T86_zero, ti_88, T88_size, T88_agg, T88_bytes, T88_zero, ti_89, T89_size, T89_agg, T89_bytes, T89_zero, ti_90, T90_size, T90_agg, T90_bytes, T90_zero, ti_91, T91_size, T91_agg, T91_bytes, T91_zero, ti_93, T93_size, T93_agg, T93_bytes, T93_zero, ti_95, T95_size, T95_agg, T95_bytes, T95_zero, ti_97, T97_size, T97_agg, T97_bytes, T97_zero, ti_98, T98_size, T98_agg, T98_bytes, T98_zero, ti_99, T99_size, T99_agg, T99_bytes, T99_zero, ti_100, T100_size, T100_agg, T100_bytes, T100_zero, ti_101, T101_size, T101_agg, T101_bytes, T101_zero, ti_102, T102_size, T102_agg, T102_bytes, T102_zero, ti_103, T103_size, T103_agg, T103_bytes, T103_zero, ti_104, T104_size, T104_agg, T104_bytes, T104_zero, ti_105, T105_size, T105_agg, T105_bytes, T105_zero, ti_107, T107_size, T107_agg, T107_bytes, T107_zero, ti_108, T108_size, T108_agg, T108_bytes, T108_zero, ti_109, T109_size, T109_agg, T109_bytes, T109_zero, ti_110, T110_size, T110_agg, T110_bytes, T110_zero, ti_111, T111_size, T111_agg, T111_bytes, T111_zero, ti_112, T112_size, T112_agg, T112_bytes, T112_zero, ti_113, T113_size, T113_agg, T113_bytes, T113_zero, ti_114, T114_size, T114_agg, T114_bytes, T114_zero, ti_115, T115_size, T115_agg, T115_bytes, T115_zero, ti_116, T116_size, T116_agg, T116_bytes, T116_zero, ti_117, T117_size, T117_agg, T117_bytes, T117_zero, ti_118, T118_size, T118_agg, T118_bytes, T118_zero, ti_119, T119_size, T119_agg, T119_bytes, T119_zero, ti_120, T120_size, T120_agg, T120_bytes, T120_zero, ti_122, T122_size, T122_agg, T122_bytes, T122_zero, ti_123, T123_size, T123_agg, T123_bytes, T123_zero, ti_124, T124_size, T124_agg, T124_bytes, T124_zero, ti_125, T125_size, T125_agg, T125_bytes, T125_zero, ti_126, T126_size, T126_agg, T126_bytes, T126_zero, ti_127, T127_size, T127_agg, T127_bytes, T127_zero, ti_129, T129_size, T129_agg, T129_bytes, T129_zero, ti_130, T130_size, T130_agg, T130_bytes, T130_zero, ti_131, T131_size, T131_agg, T131_bytes, T131_zero, ti_132, T132_size, T132_agg, T132_bytes, T132_zero, ti_133, T133_size, T133_agg, T133_bytes, T133_zero, ti_137, T137_size, T137_agg, T137_bytes, T137_zero, ti_138, T138_size, T138_agg, T138_bytes, T138_zero, ti_139, T139_size, T139_agg, T139_bytes, T139_zero, ti_140, T140_size, T140_agg, T140_bytes, T140_zero, ti_141, T141_size, T141_agg, T141_bytes, T141_zero, ti_142, T142_size, T142_agg, T142_bytes, T142_zero, ti_143, T143_size, T143_agg, T143_bytes, T143_zero, ti_144, T144_size, T144_agg, T144_bytes, T144_zero, td_1, td_2, td_3, td_4, td_5, td_6, td_7, td_8, td_9, td_10, td_11, td_12, td_13, td_14, td_15, td_16, td_17, td_18, td_19, td_20, td_21, td_22, td_23, td_24, td_25, td_26, td_27, td_28, td_29, td_30, td_31, td_32, td_33, td_34, td_35, td_36, td_37, td_38, td_39, td_40, td_41, td_42, td_43, td_44, td_45, td_46, td_47, td_49, td_50, td_51, td_52, td_53, td_54, td_55, td_56, td_58, td_59, td_60, td_61, td_62, td_64, td_65, td_66, td_67, td_68, td_70, td_71, td_72, td_73, td_74, td_75, td_77, td_78, td_80, td_81, td_82, td_83, td_84, td_85, td_86, td_88, td_89, td_90, td_91, td_93, td_95, td_97, td_98, td_99, td_100, td_101, td_102, td_103, td_104, td_105, td_107, td_109, td_110, td_111, td_112, td_113, td_114, td_115, td_116, td_117, td_118, td_119, td_120, td_121, td_122, td_123, td_124, td_125, td_126, td_127, td_129, td_130, td_131, td_132, td_133, td_134, td_137, td_138, td_139, td_140, td_141, td_142, td_143, td_144, isb_4, pl_25, pl_36, pl_41, pl_42, pl_44, pl_103, pl_120, pl_130, pl_131] | ((refine gdS_tb (fun h => ?_) (fun h => ?_)) <;> try simp only [h]) | ((refine gdS_fb (fun h => ?_) (fun h => ?_)) <;> try simp only [h]) | ((refine gdT_tb (fun h => ?_) (fun h => ?_)) <;> try simp only [h]) | ((refine gdT_fb (fun h => ?_) (fun h => ?_)) <;> try simp only [h]))
end Go.Proofs.YtngpbbpnnpfocaaDoor
