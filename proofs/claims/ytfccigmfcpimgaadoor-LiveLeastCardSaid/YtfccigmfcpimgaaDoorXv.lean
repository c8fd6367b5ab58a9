/- Own work (by an AI agent; no person has read it): part of a proof of the seat YtfccigmfcpimgaaDoor. -/
import Derived.Test.YtfccigmfcpimgaaDoorXu
set_option linter.unusedSimpArgs false
set_option linter.unusedVariables false
set_option maxRecDepth 100000
set_option maxHeartbeats 10000000
section
namespace Go.Proofs.YtfccigmfcpimgaaDoor
open Go.Ab
def N3 := ZZ.mk (Zq @aR (Zq @sH (Zq @nZ (Zq @aL (Zq @qK (Zq @wP (Zq @B9 (Zq @B6 (Zq @b9 (Zq @jN (Zq @nC (Zq @gM (Zq @kH (Zq @jC (Zq @E4 (Zq @a6Y (Zq @J8.av.eq_1 (Zq @E4 (Zq @v7 (Zq @w9 (Zq @b8 (Zq @m6 (Zq @u4 (Zq @l0 (Zq @c9 (Zq @m7 (Zq @y0 (Zq @p0 (Zq @o7 (Zq @y3 (Zq @n5 (Zq @y5 (Zq @y4 (Zq @x8 (Zq @x7 (Zq @o5 (Zq @b5 (Zq @b6 (Zq @A7 (Zq @J5 (Zq @v8 (Zq @u9 @p7))))))))))))))))))))))))))))))))))))))))))
theorem b2V (L : List Int) (at_ g su re sl pa : Int) (ar : List fL) (bs : List c5) (t : u2) (h : gI ⟨L, at_, g, su, re, sl, pa, ar, .nil, bs, .nil, t⟩ 600000) (hb : bs.length ≤ 800) (hl : ([] : List Loop).length ≤ 100) : B2 Tryd.prog 33 [.ptr 0 0 0] (MS.rows ⟨L, at_, g, su, re, sl, pa, ar, .nil, bs, .nil, t⟩) 1 (fun _ : Unit => True) (fun _ => .Q8 []) (fun _ => MS.jD ⟨L, at_, g, su, re, sl, pa, ar, .nil, bs, .nil, t⟩) := by
 obtain ⟨hL, h0, hb0, hi, ha, hal⟩ := h
 simp only [j4.l] at hL h0 hi ha hal
 clear hb0
 have hx := j0 hL h0.1
 have CN := p9 L at_ (by omega) hL
 obtain ⟨n, hn⟩ : ∃ n : Int, n = 6 + 2 * (([] : List Loop).length : Int) := ⟨_, rfl⟩
 obtain ⟨R, hR⟩ : ∃ R, R = MS.jD ⟨L, at_, g, su, re, sl, pa, ar, .nil, bs, .nil, t⟩ := ⟨_, rfl⟩
 rw [← hR]
 simp only [MS.jD, MS.loop, MS.X4, MS.gZ, MS.uV, MS.block, MS.put, MS.L6, MS.cH, MS.eV, j4.cell, j4.rows, j4.l, j4.k, s6.cell, s6.rows, s6.l, List.cons_append, List.nil_append, List.append_nil] at hR
 simp only [← hn] at hR
 obtain ⟨hh, hhh⟩ : ∃ hh : Int, hh = ((bs.length + 1 : Nat) : Int) := ⟨_, rfl⟩
 obtain ⟨bo, hbo⟩ : ∃ bo : Int, bo = 1 + a6 L at_ % 3 := ⟨_, rfl⟩
 obtain ⟨b1, hb1⟩ : ∃ b1 : c5, b1 = ⟨[li1 n], U0 ((bs.length + 1 : Nat) : Int)⟩ := ⟨_, rfl⟩
 obtain ⟨b2, hb2⟩ : ∃ b2 : c5, b2 = ⟨[li2 n (1 + a6 L at_ % 3)], E5 (O5 (n + 1)) (((bs.length + 1 : Nat) : Int) + 1) (((bs.length + 1 : Nat) : Int) + 2)⟩ := ⟨_, rfl⟩
 obtain ⟨ll2, hll2⟩ : ∃ ll2 : List Loop, ll2 = [⟨((bs.length + 1 : Nat) : Int), n, 1 + a6 L at_ % 3⟩] := ⟨_, rfl⟩
 have CP1 := U1 ⟨L, at_ + 1, g, su, n + 2, sl, pa, ar, .nil, bs, .nil, t⟩ (li1 n) (by show bs.length ≤ 1000; omega) (by show ([] : List j9).length ≤ 1000000; (try simp only [List.length_nil]); omega)
 have CB1 := E8 ⟨L, at_ + 1, g, su, n + 2, sl, pa, ar, .own ll2, bs, .own ([li1 n]), U0 ((bs.length + 1 : Nat) : Int)⟩ (by show bs.length ≤ 1000; omega)
 have CP2 := U1 ⟨L, at_ + 1, g, su, n + 2, sl, pa, ar, .own ll2, bs ++ [b1], .nil, U4⟩ (li2 n (1 + a6 L at_ % 3)) (by show (bs ++ [b1]).length ≤ 1000; rw [b9]; omega) (by show ([] : List j9).length ≤ 1000000; simp)
 have CB2 := E8 ⟨L, at_ + 1, g, su, n + 2, sl, pa, ar, .own ll2, bs ++ [b1], .own [li2 n (1 + a6 L at_ % 3)], E5 (O5 (n + 1)) (((bs.length + 1 : Nat) : Int) + 1) (((bs.length + 1 : Nat) : Int) + 2)⟩ (by show (bs ++ [b1]).length ≤ 1000; rw [b9]; omega)
 have CP3 := U1 ⟨L, at_ + 1, g, su, n + 2, sl, pa, ar, .own ll2, bs ++ [b1] ++ [b2], .nil, U4⟩ (lP n) (by show (bs ++ [b1] ++ [b2]).length ≤ 1000; rw [b9, b9]; omega) (by show ([] : List j9).length ≤ 1000000; simp)
 have CI := bL ⟨L, at_ + 1, g, su, n + 2, sl, pa, ar, .own ll2, bs ++ [b1] ++ [b2], .own [lP n], U4⟩ ⟨hL, by show 0 ≤ at_ + 1 ∧ at_ + 1 ≤ _; omega, by show (bs ++ [b1] ++ [b2]).length ≤ _; rw [b9, b9]; omega, by show (([lP n] : List j9).length : Int) ≤ _; simp, ha, hal⟩
 obtain ⟨a, l, f, f1, f2, f3⟩ := gV ⟨L, at_ + 1, g, su, n + 2, sl, pa, ar, .own ll2, bs ++ [b1] ++ [b2], .own [lP n], U4⟩ [lP n] rfl hL (by show 0 ≤ at_ + 1; omega)
 have f1 : at_ + 1 + 1 ≤ a := f1
 have f2 : a ≤ at_ + 1 + 33 := f2
 rw [f] at CI
 rw [← hll2, ← hb1, ← hb2, f] at hR
 clear f f3
 have CN2 := p9 L a (by omega) hL
 have CR := Y8 L (a + 1) (by omega) hL
 have hy := j0 hL (show 0 ≤ a by omega)
 have RN := dD n
 have RN1 := dD (n + 1)
 have RC0 := Q0 0
 have RC1 := Q0 1
 have RCb := Q0 (1 + a6 L at_ % 3)
 simp only [MS.uW] at hR
 have hR1 : ¬ a6 L a % 3 = 0 → R = _ := fun hp => hR.trans (congrArg MS.rows (if_neg hp))
 have hR2 : a6 L a % 3 = 0 → R = _ := fun hp => hR.trans (congrArg MS.rows (if_pos hp))
 simp only [MS.rows, MS.put, MS.block, j4.cell, j4.rows, j4.l, j4.k, s6.cell, s6.rows, s6.l, List.cons_append, List.nil_append, List.append_nil] at CP1 CB1 CP2 CB2 CP3 CI hR1 hR2
 rw [← hb1] at CB1
 rw [← hb2] at CB2
 have hnb : 6 ≤ n ∧ n ≤ 206 := by omega
 have hn2 : 6 + 2 * ((0 : Nat) : Int) = n := hn.symm
 have hl2 : [[.v (.int .i64 ((bs.length + 1 : Nat) : Int)), .v (.int .i64 n), .v (.int .i64 (1 + a6 L at_ % 3))]] = loops ll2 := by rw [hll2]; rfl
 have hl3 : ll2.length = 1 := by rw [hll2]; simp
 clear hR f1 f2 hhh hbo hb1 hb2 hll2
 generalize a6 L at_ = x at *
 generalize a6 L a = y at *
 generalize G8 L (a + 1) = d at *
 obtain ⟨dk, dn, dv⟩ := d
 simp only [hl3, ← hl2] at CB1 CP2 CB2 CP3 CI hR1 hR2
 simp only [a05, a06, a07, B9, kQ, iM, O5, B7, J8.av, b9, List.length_append, List.length_cons, List.length_nil, Nat.zero_add, Nat.reduceAdd, jC] at CP1 CB1 CP2 CB2 CP3 CI RN RN1 RC0 RC1 RCb CR
 simp only [B9, nP, iN, b9, List.length_append, List.length_cons, List.length_nil, Nat.zero_add, Nat.reduceAdd, jC] at hR1 hR2
 simp only [MS.rows, j4.cell, j4.rows, j4.l, j4.k, s6.cell, s6.rows, s6.l, List.cons_append, List.nil_append, List.append_nil]; refine Zf Tryd.func33 Tryd.ntmps33 ?_
 repeat' (first | (guard_target =~ AK Tryd.prog (Go.Code.seq (Go.Code.region 13 _ _) _) _ _ _; (try refine Zs (Zq N3.d hn2) ?_); guard_target =~ AK Tryd.prog (Go.Code.seq (Go.Code.region 13 _ _) _) _ (Go.Ab.LS.mk _ _ 21) _; refine w7 (Zw [0, 4] [0, 13, 14, 15] (Zq N3.d hn2) rfl) ?_) | (guard_target =~ AK Tryd.prog (Go.Code.seq (Go.Code.region 12 _ _) _) _ _ _; (try refine Zs (Zq N3.d hn2) ?_); guard_target =~ AK Tryd.prog (Go.Code.seq (Go.Code.region 12 _ _) _) _ (Go.Ab.LS.mk _ _ 68) _; refine w7 (Zw [0, 4] [0, 60, 61, 62] (Zq N3.d hn2) rfl) ?_) | (guard_target =~ AK Tryd.prog (Go.Code.seq (Go.Code.region 11 _ _) _) _ _ _; (try refine Zs (Zq N3.d hn2) ?_); guard_target =~ AK Tryd.prog (Go.Code.seq (Go.Code.region 11 _ _) _) _ (Go.Ab.LS.mk _ _ 165) _; refine w7 (Zw [0, 2, 4] [0, 157, 158] (Zq N3.d hn2) rfl) ?_) | (guard_target =~ AK Tryd.prog (Go.Code.seq (Go.Code.region 9 _ _) _) _ _ _; (try refine Zs (Zq N3.d hn2) ?_); guard_target =~ AK Tryd.prog (Go.Code.seq (Go.Code.region 9 _ _) _) _ (Go.Ab.LS.mk _ _ 92) _; refine w7 (Zw [0, 2, 4] [0, 84, 85, 86] (Zq N3.d hn2) rfl) ?_) | (guard_target =~ AK Tryd.prog (Go.Code.seq (Go.Code.region 8 _ _) _) _ _ _; (try refine Zs (Zq N3.d hn2) ?_); guard_target =~ AK Tryd.prog (Go.Code.seq (Go.Code.region 8 _ _) _) _ (Go.Ab.LS.mk _ _ 252) _; refine w7 (Zw [0, 2, 3, 4] [0, 244, 245] (Zq N3.d hn2) rfl) ?_) | (guard_target =~ AK Tryd.prog (Go.Code.seq (Go.Code.region 5 _ _) _) _ _ _; (try refine Zs (Zq N3.d hn2) ?_); guard_target =~ AK Tryd.prog (Go.Code.seq (Go.Code.region 5 _ _) _) _ (Go.Ab.LS.mk _ _ 280) _; refine w7 (Zw [0, 2, 3, 4] [0, 272, 273] (Zq N3.d hn2) rfl) ?_) | refine Zl ?_ | (with_reducible first | refine Zz.mk fun N hN mk hmk => ?_ | refine Zb.mk fun N hN => ?_ | refine Zi.mk fun h => ?_ | refine ⟨fun h => ?_, fun h => ?_⟩ | exact True.intro) | refine Ze CN ?_ | refine Zc RN ?_ | refine Zc RN1 ?_ | refine Zc RC0 ?_ | refine Zc RC1 ?_ | refine Zc RCb ?_ | refine Ze CN2 ?_ | refine Ze CR ?_ | (refine Zp CP1 [0, 1] (Zq N3.d hn2) ?_; with_reducible intro _ _) | (refine Zp CB1 [0, 1, 2, 196] (Zq N3.d hn2) ?_; with_reducible intro _ _) | (refine Zp CP2 [0, 1, 2] (Zq N3.d hn2) ?_; with_reducible intro _ _) | (refine Zp CB2 [0, 1, 2, 3] (Zq N3.d hn2) ?_; with_reducible intro _ _) | (refine Zp CP3 [0, 1, 2] (Zq N3.d hn2) ?_; with_reducible intro _ _) | (refine Zp CI [0, 1, 2, 3] (Zq N3.d hn2) ?_; with_reducible intro _ _) | (refine hN _ ?_; clear hN N) | (refine Zk hmk ?_; clear hmk mk) | refine Zt (Zq N3.d hn2) ?_ | fail)
 · rw [hR2 (by assumption)]
   refine Zr (()) [0, 1, 2, 3] (Zq N3.d hn2) ?_
   trivial
 · rw [hR1 (by assumption)]
   refine Zr (()) [0, 1, 2, 3] (Zq N3.d hn2) ?_
   trivial
def N4 := ZZ.mk (Zq @aR (Zq @sH (Zq @nZ (Zq @aL (Zq @qK (Zq @wP (Zq @B9 (Zq @B6 (Zq @b9 (Zq @jN (Zq @nC (Zq @gM (Zq @kH (Zq @jC (Zq @E4 (Zq @a6Y (Zq @J8.av.eq_1 (Zq @E4 (Zq @v7 (Zq @w9 (Zq @b8 (Zq @m6 (Zq @u4 (Zq @l0 (Zq @c9 (Zq @m7 (Zq @y0 (Zq @p0 (Zq @o7 (Zq @y3 (Zq @n5 (Zq @y5 (Zq @y4 (Zq @x8 (Zq @x7 (Zq @o5 (Zq @b5 (Zq @b6 (Zq @A7 (Zq @J5 (Zq @v8 (Zq @u9 @p7))))))))))))))))))))))))))))))))))))))))))
theorem b2W (L : List Int) (at_ g su re sl pa : Int) (ar : List fL) (li : List j9) (bs : List c5) (t : u2) (h : gI ⟨L, at_, g, su, re, sl, pa, ar, .nil, bs, (.own li), t⟩ 600000) (hb : bs.length ≤ 800) (hl : ([] : List Loop).length ≤ 100) : B2 Tryd.prog 33 [.ptr 0 0 0] (MS.rows ⟨L, at_, g, su, re, sl, pa, ar, .nil, bs, (.own li), t⟩) 1 (fun _ : Unit => True) (fun _ => .Q8 []) (fun _ => MS.jD ⟨L, at_, g, su, re, sl, pa, ar, .nil, bs, (.own li), t⟩) := by
 obtain ⟨hL, h0, hb0, hi, ha, hal⟩ := h
 simp only [j4.l] at hL h0 hi ha hal
 clear hb0
 have hx := j0 hL h0.1
 have CN := p9 L at_ (by omega) hL
 obtain ⟨n, hn⟩ : ∃ n : Int, n = 6 + 2 * (([] : List Loop).length : Int) := ⟨_, rfl⟩
 obtain ⟨R, hR⟩ : ∃ R, R = MS.jD ⟨L, at_, g, su, re, sl, pa, ar, .nil, bs, (.own li), t⟩ := ⟨_, rfl⟩
 rw [← hR]
 simp only [MS.jD, MS.loop, MS.X4, MS.gZ, MS.uV, MS.block, MS.put, MS.L6, MS.cH, MS.eV, j4.cell, j4.rows, j4.l, j4.k, s6.cell, s6.rows, s6.l, List.cons_append, List.nil_append, List.append_nil] at hR
 simp only [← hn] at hR
 obtain ⟨hh, hhh⟩ : ∃ hh : Int, hh = ((bs.length + 1 : Nat) : Int) := ⟨_, rfl⟩
 obtain ⟨bo, hbo⟩ : ∃ bo : Int, bo = 1 + a6 L at_ % 3 := ⟨_, rfl⟩
 obtain ⟨b1, hb1⟩ : ∃ b1 : c5, b1 = ⟨li ++ [li1 n], U0 ((bs.length + 1 : Nat) : Int)⟩ := ⟨_, rfl⟩
 obtain ⟨b2, hb2⟩ : ∃ b2 : c5, b2 = ⟨[li2 n (1 + a6 L at_ % 3)], E5 (O5 (n + 1)) (((bs.length + 1 : Nat) : Int) + 1) (((bs.length + 1 : Nat) : Int) + 2)⟩ := ⟨_, rfl⟩
 obtain ⟨ll2, hll2⟩ : ∃ ll2 : List Loop, ll2 = [⟨((bs.length + 1 : Nat) : Int), n, 1 + a6 L at_ % 3⟩] := ⟨_, rfl⟩
 have CP1 := U1 ⟨L, at_ + 1, g, su, n + 2, sl, pa, ar, .nil, bs, (.own li), t⟩ (li1 n) (by show bs.length ≤ 1000; omega) (by show li.length ≤ 1000000; (try simp only [List.length_nil]); omega)
 have CB1 := E8 ⟨L, at_ + 1, g, su, n + 2, sl, pa, ar, .own ll2, bs, .own (li ++ [li1 n]), U0 ((bs.length + 1 : Nat) : Int)⟩ (by show bs.length ≤ 1000; omega)
 have CP2 := U1 ⟨L, at_ + 1, g, su, n + 2, sl, pa, ar, .own ll2, bs ++ [b1], .nil, U4⟩ (li2 n (1 + a6 L at_ % 3)) (by show (bs ++ [b1]).length ≤ 1000; rw [b9]; omega) (by show ([] : List j9).length ≤ 1000000; simp)
 have CB2 := E8 ⟨L, at_ + 1, g, su, n + 2, sl, pa, ar, .own ll2, bs ++ [b1], .own [li2 n (1 + a6 L at_ % 3)], E5 (O5 (n + 1)) (((bs.length + 1 : Nat) : Int) + 1) (((bs.length + 1 : Nat) : Int) + 2)⟩ (by show (bs ++ [b1]).length ≤ 1000; rw [b9]; omega)
 have CP3 := U1 ⟨L, at_ + 1, g, su, n + 2, sl, pa, ar, .own ll2, bs ++ [b1] ++ [b2], .nil, U4⟩ (lP n) (by show (bs ++ [b1] ++ [b2]).length ≤ 1000; rw [b9, b9]; omega) (by show ([] : List j9).length ≤ 1000000; simp)
 have CI := bL ⟨L, at_ + 1, g, su, n + 2, sl, pa, ar, .own ll2, bs ++ [b1] ++ [b2], .own [lP n], U4⟩ ⟨hL, by show 0 ≤ at_ + 1 ∧ at_ + 1 ≤ _; omega, by show (bs ++ [b1] ++ [b2]).length ≤ _; rw [b9, b9]; omega, by show (([lP n] : List j9).length : Int) ≤ _; simp, ha, hal⟩
 obtain ⟨a, l, f, f1, f2, f3⟩ := gV ⟨L, at_ + 1, g, su, n + 2, sl, pa, ar, .own ll2, bs ++ [b1] ++ [b2], .own [lP n], U4⟩ [lP n] rfl hL (by show 0 ≤ at_ + 1; omega)
 have f1 : at_ + 1 + 1 ≤ a := f1
 have f2 : a ≤ at_ + 1 + 33 := f2
 rw [f] at CI
 rw [← hll2, ← hb1, ← hb2, f] at hR
 clear f f3
 have CN2 := p9 L a (by omega) hL
 have CR := Y8 L (a + 1) (by omega) hL
 have hy := j0 hL (show 0 ≤ a by omega)
 have RN := dD n
 have RN1 := dD (n + 1)
 have RC0 := Q0 0
 have RC1 := Q0 1
 have RCb := Q0 (1 + a6 L at_ % 3)
 simp only [MS.uW] at hR
 have hR1 : ¬ a6 L a % 3 = 0 → R = _ := fun hp => hR.trans (congrArg MS.rows (if_neg hp))
 have hR2 : a6 L a % 3 = 0 → R = _ := fun hp => hR.trans (congrArg MS.rows (if_pos hp))
 simp only [MS.rows, MS.put, MS.block, j4.cell, j4.rows, j4.l, j4.k, s6.cell, s6.rows, s6.l, List.cons_append, List.nil_append, List.append_nil] at CP1 CB1 CP2 CB2 CP3 CI hR1 hR2
 rw [← hb1] at CB1
 rw [← hb2] at CB2
 have hnb : 6 ≤ n ∧ n ≤ 206 := by omega
 have hn2 : 6 + 2 * ((0 : Nat) : Int) = n := hn.symm
 have hl2 : [[.v (.int .i64 ((bs.length + 1 : Nat) : Int)), .v (.int .i64 n), .v (.int .i64 (1 + a6 L at_ % 3))]] = loops ll2 := by rw [hll2]; rfl
 have hl3 : ll2.length = 1 := by rw [hll2]; simp
 clear hR f1 f2 hhh hbo hb1 hb2 hll2
 generalize a6 L at_ = x at *
 generalize a6 L a = y at *
 generalize G8 L (a + 1) = d at *
 obtain ⟨dk, dn, dv⟩ := d
 simp only [hl3, ← hl2] at CB1 CP2 CB2 CP3 CI hR1 hR2
 simp only [a05, a06, a07, B9, kQ, iM, O5, B7, J8.av, b9, List.length_append, List.length_cons, List.length_nil, Nat.zero_add, Nat.reduceAdd, jC] at CP1 CB1 CP2 CB2 CP3 CI RN RN1 RC0 RC1 RCb CR
 simp only [B9, nP, iN, b9, List.length_append, List.length_cons, List.length_nil, Nat.zero_add, Nat.reduceAdd, jC] at hR1 hR2
 simp only [MS.rows, j4.cell, j4.rows, j4.l, j4.k, s6.cell, s6.rows, s6.l, List.cons_append, List.nil_append, List.append_nil]; refine Zf Tryd.func33 Tryd.ntmps33 ?_
 repeat' (first | (guard_target =~ AK Tryd.prog (Go.Code.seq (Go.Code.region 13 _ _) _) _ _ _; (try refine Zs (Zq N4.d hn2) ?_); guard_target =~ AK Tryd.prog (Go.Code.seq (Go.Code.region 13 _ _) _) _ (Go.Ab.LS.mk _ _ 21) _; refine w7 (Zw [0, 4] [0, 13, 14, 15] (Zq N4.d hn2) rfl) ?_) | (guard_target =~ AK Tryd.prog (Go.Code.seq (Go.Code.region 12 _ _) _) _ _ _; (try refine Zs (Zq N4.d hn2) ?_); guard_target =~ AK Tryd.prog (Go.Code.seq (Go.Code.region 12 _ _) _) _ (Go.Ab.LS.mk _ _ 68) _; refine w7 (Zw [0, 4] [0, 60, 61, 62] (Zq N4.d hn2) rfl) ?_) | (guard_target =~ AK Tryd.prog (Go.Code.seq (Go.Code.region 11 _ _) _) _ _ _; (try refine Zs (Zq N4.d hn2) ?_); guard_target =~ AK Tryd.prog (Go.Code.seq (Go.Code.region 11 _ _) _) _ (Go.Ab.LS.mk _ _ 165) _; refine w7 (Zw [0, 2, 4] [0, 157, 158] (Zq N4.d hn2) rfl) ?_) | (guard_target =~ AK Tryd.prog (Go.Code.seq (Go.Code.region 9 _ _) _) _ _ _; (try refine Zs (Zq N4.d hn2) ?_); guard_target =~ AK Tryd.prog (Go.Code.seq (Go.Code.region 9 _ _) _) _ (Go.Ab.LS.mk _ _ 92) _; refine w7 (Zw [0, 2, 4] [0, 84, 85, 86] (Zq N4.d hn2) rfl) ?_) | (guard_target =~ AK Tryd.prog (Go.Code.seq (Go.Code.region 8 _ _) _) _ _ _; (try refine Zs (Zq N4.d hn2) ?_); guard_target =~ AK Tryd.prog (Go.Code.seq (Go.Code.region 8 _ _) _) _ (Go.Ab.LS.mk _ _ 252) _; refine w7 (Zw [0, 2, 3, 4] [0, 244, 245] (Zq N4.d hn2) rfl) ?_) | (guard_target =~ AK Tryd.prog (Go.Code.seq (Go.Code.region 5 _ _) _) _ _ _; (try refine Zs (Zq N4.d hn2) ?_); guard_target =~ AK Tryd.prog (Go.Code.seq (Go.Code.region 5 _ _) _) _ (Go.Ab.LS.mk _ _ 280) _; refine w7 (Zw [0, 2, 3, 4] [0, 272, 273] (Zq N4.d hn2) rfl) ?_) | refine Zl ?_ | (with_reducible first | refine Zz.mk fun N hN mk hmk => ?_ | refine Zb.mk fun N hN => ?_ | refine Zi.mk fun h => ?_ | refine ⟨fun h => ?_, fun h => ?_⟩ | exact True.intro) | refine Ze CN ?_ | refine Zc RN ?_ | refine Zc RN1 ?_ | refine Zc RC0 ?_ | refine Zc RC1 ?_ | refine Zc RCb ?_ | refine Ze CN2 ?_ | refine Ze CR ?_ | (refine Zp CP1 [0, 1, 2] (Zq N4.d hn2) ?_; with_reducible intro _ _) | (refine Zp CB1 [0, 1, 2, 196] (Zq N4.d hn2) ?_; with_reducible intro _ _) | (refine Zp CP2 [0, 1, 2] (Zq N4.d hn2) ?_; with_reducible intro _ _) | (refine Zp CB2 [0, 1, 2, 3] (Zq N4.d hn2) ?_; with_reducible intro _ _) | (refine Zp CP3 [0, 1, 2] (Zq N4.d hn2) ?_; with_reducible intro _ _) | (refine Zp CI [0, 1, 2, 3] (Zq N4.d hn2) ?_; with_reducible intro _ _) | (refine hN _ ?_; clear hN N) | (refine Zk hmk ?_; clear hmk mk) | refine Zt (Zq N4.d hn2) ?_ | fail)
 · rw [hR2 (by assumption)]
   refine Zr (()) [0, 1, 2, 3] (Zq N4.d hn2) ?_
   trivial
 · rw [hR1 (by assumption)]
   refine Zr (()) [0, 1, 2, 3] (Zq N4.d hn2) ?_
   trivial
def N5 := ZZ.mk (Zq @aR (Zq @sH (Zq @nZ (Zq @aL (Zq @qK (Zq @wP (Zq @B9 (Zq @B6 (Zq @b9 (Zq @jN (Zq @nC (Zq @gM (Zq @kH (Zq @jC (Zq @E4 (Zq @a6Y (Zq @J8.av.eq_1 (Zq @E4 (Zq @v7 (Zq @w9 (Zq @b8 (Zq @m6 (Zq @u4 (Zq @l0 (Zq @c9 (Zq @m7 (Zq @y0 (Zq @p0 (Zq @o7 (Zq @y3 (Zq @n5 (Zq @y5 (Zq @y4 (Zq @x8 (Zq @x7 (Zq @o5 (Zq @b5 (Zq @b6 (Zq @A7 (Zq @J5 (Zq @v8 (Zq @u9 @p7))))))))))))))))))))))))))))))))))))))))))
theorem b2X (L : List Int) (at_ g su re sl pa : Int) (ar : List fL) (ll : List Loop) (bs : List c5) (t : u2) (h : gI ⟨L, at_, g, su, re, sl, pa, ar, (.own ll), bs, .nil, t⟩ 600000) (hb : bs.length ≤ 800) (hl : ll.length ≤ 100) : B2 Tryd.prog 33 [.ptr 0 0 0] (MS.rows ⟨L, at_, g, su, re, sl, pa, ar, (.own ll), bs, .nil, t⟩) 1 (fun _ : Unit => True) (fun _ => .Q8 []) (fun _ => MS.jD ⟨L, at_, g, su, re, sl, pa, ar, (.own ll), bs, .nil, t⟩) := by
 obtain ⟨hL, h0, hb0, hi, ha, hal⟩ := h
 simp only [j4.l] at hL h0 hi ha hal
 clear hb0
 have hx := j0 hL h0.1
 have CN := p9 L at_ (by omega) hL
 obtain ⟨n, hn⟩ : ∃ n : Int, n = 6 + 2 * (ll.length : Int) := ⟨_, rfl⟩
 obtain ⟨R, hR⟩ : ∃ R, R = MS.jD ⟨L, at_, g, su, re, sl, pa, ar, (.own ll), bs, .nil, t⟩ := ⟨_, rfl⟩
 rw [← hR]
 simp only [MS.jD, MS.loop, MS.X4, MS.gZ, MS.uV, MS.block, MS.put, MS.L6, MS.cH, MS.eV, j4.cell, j4.rows, j4.l, j4.k, s6.cell, s6.rows, s6.l, List.cons_append, List.nil_append, List.append_nil] at hR
 simp only [← hn] at hR
 obtain ⟨hh, hhh⟩ : ∃ hh : Int, hh = ((bs.length + 1 : Nat) : Int) := ⟨_, rfl⟩
 obtain ⟨bo, hbo⟩ : ∃ bo : Int, bo = 1 + a6 L at_ % 3 := ⟨_, rfl⟩
 obtain ⟨b1, hb1⟩ : ∃ b1 : c5, b1 = ⟨[li1 n], U0 ((bs.length + 1 : Nat) : Int)⟩ := ⟨_, rfl⟩
 obtain ⟨b2, hb2⟩ : ∃ b2 : c5, b2 = ⟨[li2 n (1 + a6 L at_ % 3)], E5 (O5 (n + 1)) (((bs.length + 1 : Nat) : Int) + 1) (((bs.length + 1 : Nat) : Int) + 2)⟩ := ⟨_, rfl⟩
 obtain ⟨ll2, hll2⟩ : ∃ ll2 : List Loop, ll2 = ll ++ [⟨((bs.length + 1 : Nat) : Int), n, 1 + a6 L at_ % 3⟩] := ⟨_, rfl⟩
 have CP1 := U1 ⟨L, at_ + 1, g, su, n + 2, sl, pa, ar, (.own ll), bs, .nil, t⟩ (li1 n) (by show bs.length ≤ 1000; omega) (by show ([] : List j9).length ≤ 1000000; (try simp only [List.length_nil]); omega)
 have CB1 := E8 ⟨L, at_ + 1, g, su, n + 2, sl, pa, ar, .own ll2, bs, .own ([li1 n]), U0 ((bs.length + 1 : Nat) : Int)⟩ (by show bs.length ≤ 1000; omega)
 have CP2 := U1 ⟨L, at_ + 1, g, su, n + 2, sl, pa, ar, .own ll2, bs ++ [b1], .nil, U4⟩ (li2 n (1 + a6 L at_ % 3)) (by show (bs ++ [b1]).length ≤ 1000; rw [b9]; omega) (by show ([] : List j9).length ≤ 1000000; simp)
 have CB2 := E8 ⟨L, at_ + 1, g, su, n + 2, sl, pa, ar, .own ll2, bs ++ [b1], .own [li2 n (1 + a6 L at_ % 3)], E5 (O5 (n + 1)) (((bs.length + 1 : Nat) : Int) + 1) (((bs.length + 1 : Nat) : Int) + 2)⟩ (by show (bs ++ [b1]).length ≤ 1000; rw [b9]; omega)
 have CP3 := U1 ⟨L, at_ + 1, g, su, n + 2, sl, pa, ar, .own ll2, bs ++ [b1] ++ [b2], .nil, U4⟩ (lP n) (by show (bs ++ [b1] ++ [b2]).length ≤ 1000; rw [b9, b9]; omega) (by show ([] : List j9).length ≤ 1000000; simp)
 have CI := bL ⟨L, at_ + 1, g, su, n + 2, sl, pa, ar, .own ll2, bs ++ [b1] ++ [b2], .own [lP n], U4⟩ ⟨hL, by show 0 ≤ at_ + 1 ∧ at_ + 1 ≤ _; omega, by show (bs ++ [b1] ++ [b2]).length ≤ _; rw [b9, b9]; omega, by show (([lP n] : List j9).length : Int) ≤ _; simp, ha, hal⟩
 obtain ⟨a, l, f, f1, f2, f3⟩ := gV ⟨L, at_ + 1, g, su, n + 2, sl, pa, ar, .own ll2, bs ++ [b1] ++ [b2], .own [lP n], U4⟩ [lP n] rfl hL (by show 0 ≤ at_ + 1; omega)
 have f1 : at_ + 1 + 1 ≤ a := f1
 have f2 : a ≤ at_ + 1 + 33 := f2
 rw [f] at CI
 rw [← hll2, ← hb1, ← hb2, f] at hR
 clear f f3
 have CN2 := p9 L a (by omega) hL
 have CR := Y8 L (a + 1) (by omega) hL
 have hy := j0 hL (show 0 ≤ a by omega)
 have RN := dD n
 have RN1 := dD (n + 1)
 have RC0 := Q0 0
 have RC1 := Q0 1
 have RCb := Q0 (1 + a6 L at_ % 3)
 simp only [MS.uW] at hR
 have hR1 : ¬ a6 L a % 3 = 0 → R = _ := fun hp => hR.trans (congrArg MS.rows (if_neg hp))
 have hR2 : a6 L a % 3 = 0 → R = _ := fun hp => hR.trans (congrArg MS.rows (if_pos hp))
 simp only [MS.rows, MS.put, MS.block, j4.cell, j4.rows, j4.l, j4.k, s6.cell, s6.rows, s6.l, List.cons_append, List.nil_append, List.append_nil] at CP1 CB1 CP2 CB2 CP3 CI hR1 hR2
 rw [← hb1] at CB1
 rw [← hb2] at CB2
 have hnb : 6 ≤ n ∧ n ≤ 206 := by omega
 have hn2 : 6 + 2 * ((ll.length : Nat) : Int) = n := hn.symm
 have hl2 : loops ll ++ [[.v (.int .i64 ((bs.length + 1 : Nat) : Int)), .v (.int .i64 n), .v (.int .i64 (1 + a6 L at_ % 3))]] = loops ll2 := by rw [hll2]; rw [uY]
 have hl3 : ll2.length = ll.length + 1 := by rw [hll2]; simp
 clear hR f1 f2 hhh hbo hb1 hb2 hll2
 generalize a6 L at_ = x at *
 generalize a6 L a = y at *
 generalize G8 L (a + 1) = d at *
 obtain ⟨dk, dn, dv⟩ := d
 simp only [hl3] at CB1 CP2 CB2 CP3 CI hR1 hR2
 simp only [a05, a06, a07, B9, kQ, iM, O5, B7, J8.av, b9, List.length_append, List.length_cons, List.length_nil, Nat.zero_add, Nat.reduceAdd, jC] at CP1 CB1 CP2 CB2 CP3 CI RN RN1 RC0 RC1 RCb CR
 simp only [B9, nP, iN, b9, List.length_append, List.length_cons, List.length_nil, Nat.zero_add, Nat.reduceAdd, jC] at hR1 hR2
 simp only [MS.rows, j4.cell, j4.rows, j4.l, j4.k, s6.cell, s6.rows, s6.l, List.cons_append, List.nil_append, List.append_nil]; refine Zf Tryd.func33 Tryd.ntmps33 ?_
 repeat' (first | (guard_target =~ AK Tryd.prog (Go.Code.seq (Go.Code.region 13 _ _) _) _ _ _; (try refine Zs (Zq N5.d (Zq hn2 hl2)) ?_); guard_target =~ AK Tryd.prog (Go.Code.seq (Go.Code.region 13 _ _) _) _ (Go.Ab.LS.mk _ _ 21) _; refine w7 (Zw [0, 4] [0, 13, 14, 15] (Zq N5.d (Zq hn2 hl2)) rfl) ?_) | (guard_target =~ AK Tryd.prog (Go.Code.seq (Go.Code.region 12 _ _) _) _ _ _; (try refine Zs (Zq N5.d (Zq hn2 hl2)) ?_); guard_target =~ AK Tryd.prog (Go.Code.seq (Go.Code.region 12 _ _) _) _ (Go.Ab.LS.mk _ _ 68) _; refine w7 (Zw [0, 4] [0, 60, 61, 62] (Zq N5.d (Zq hn2 hl2)) rfl) ?_) | (guard_target =~ AK Tryd.prog (Go.Code.seq (Go.Code.region 11 _ _) _) _ _ _; (try refine Zs (Zq N5.d (Zq hn2 hl2)) ?_); guard_target =~ AK Tryd.prog (Go.Code.seq (Go.Code.region 11 _ _) _) _ (Go.Ab.LS.mk _ _ 165) _; refine w7 (Zw [0, 2, 4] [0, 157, 158] (Zq N5.d (Zq hn2 hl2)) rfl) ?_) | (guard_target =~ AK Tryd.prog (Go.Code.seq (Go.Code.region 9 _ _) _) _ _ _; (try refine Zs (Zq N5.d (Zq hn2 hl2)) ?_); guard_target =~ AK Tryd.prog (Go.Code.seq (Go.Code.region 9 _ _) _) _ (Go.Ab.LS.mk _ _ 92) _; refine w7 (Zw [0, 2, 4] [0, 84, 85, 86] (Zq N5.d (Zq hn2 hl2)) rfl) ?_) | (guard_target =~ AK Tryd.prog (Go.Code.seq (Go.Code.region 8 _ _) _) _ _ _; (try refine Zs (Zq N5.d (Zq hn2 hl2)) ?_); guard_target =~ AK Tryd.prog (Go.Code.seq (Go.Code.region 8 _ _) _) _ (Go.Ab.LS.mk _ _ 253) _; refine w7 (Zw [0, 2, 3, 4] [0, 245, 246] (Zq N5.d (Zq hn2 hl2)) rfl) ?_) | (guard_target =~ AK Tryd.prog (Go.Code.seq (Go.Code.region 5 _ _) _) _ _ _; (try refine Zs (Zq N5.d (Zq hn2 hl2)) ?_); guard_target =~ AK Tryd.prog (Go.Code.seq (Go.Code.region 5 _ _) _) _ (Go.Ab.LS.mk _ _ 280) _; refine w7 (Zw [0, 2, 3, 4] [0, 272, 273, 274] (Zq N5.d (Zq hn2 hl2)) rfl) ?_) | refine Zl ?_ | (with_reducible first | refine Zz.mk fun N hN mk hmk => ?_ | refine Zb.mk fun N hN => ?_ | refine Zi.mk fun h => ?_ | refine ⟨fun h => ?_, fun h => ?_⟩ | exact True.intro) | refine Ze CN ?_ | refine Zc RN ?_ | refine Zc RN1 ?_ | refine Zc RC0 ?_ | refine Zc RC1 ?_ | refine Zc RCb ?_ | refine Ze CN2 ?_ | refine Ze CR ?_ | (refine Zp CP1 [0, 1, 2] (Zq N5.d (Zq hn2 hl2)) ?_; with_reducible intro _ _) | (refine Zp CB1 [0, 1, 2, 197] (Zq N5.d (Zq hn2 hl2)) ?_; with_reducible intro _ _) | (refine Zp CP2 [0, 1, 2] (Zq N5.d (Zq hn2 hl2)) ?_; with_reducible intro _ _) | (refine Zp CB2 [0, 1, 2, 3] (Zq N5.d (Zq hn2 hl2)) ?_; with_reducible intro _ _) | (refine Zp CP3 [0, 1, 2] (Zq N5.d (Zq hn2 hl2)) ?_; with_reducible intro _ _) | (refine Zp CI [0, 1, 2, 3] (Zq N5.d (Zq hn2 hl2)) ?_; with_reducible intro _ _) | (refine hN _ ?_; clear hN N) | (refine Zk hmk ?_; clear hmk mk) | refine Zt (Zq N5.d (Zq hn2 hl2)) ?_ | fail)
 · rw [hR2 (by assumption)]
   refine Zr (()) [0, 1, 2, 3] (Zq N5.d (Zq hn2 hl2)) ?_
   trivial
 · rw [hR1 (by assumption)]
   refine Zr (()) [0, 1, 2, 3] (Zq N5.d (Zq hn2 hl2)) ?_
   trivial
def N6 := ZZ.mk (Zq @aR (Zq @sH (Zq @nZ (Zq @aL (Zq @qK (Zq @wP (Zq @B9 (Zq @B6 (Zq @b9 (Zq @jN (Zq @nC (Zq @gM (Zq @kH (Zq @jC (Zq @E4 (Zq @a6Y (Zq @J8.av.eq_1 (Zq @E4 (Zq @v7 (Zq @w9 (Zq @b8 (Zq @m6 (Zq @u4 (Zq @l0 (Zq @c9 (Zq @m7 (Zq @y0 (Zq @p0 (Zq @o7 (Zq @y3 (Zq @n5 (Zq @y5 (Zq @y4 (Zq @x8 (Zq @x7 (Zq @o5 (Zq @b5 (Zq @b6 (Zq @A7 (Zq @J5 (Zq @v8 (Zq @u9 @p7))))))))))))))))))))))))))))))))))))))))))
theorem b2Y (L : List Int) (at_ g su re sl pa : Int) (ar : List fL) (ll : List Loop) (li : List j9) (bs : List c5) (t : u2) (h : gI ⟨L, at_, g, su, re, sl, pa, ar, (.own ll), bs, (.own li), t⟩ 600000) (hb : bs.length ≤ 800) (hl : ll.length ≤ 100) : B2 Tryd.prog 33 [.ptr 0 0 0] (MS.rows ⟨L, at_, g, su, re, sl, pa, ar, (.own ll), bs, (.own li), t⟩) 1 (fun _ : Unit => True) (fun _ => .Q8 []) (fun _ => MS.jD ⟨L, at_, g, su, re, sl, pa, ar, (.own ll), bs, (.own li), t⟩) := by
 obtain ⟨hL, h0, hb0, hi, ha, hal⟩ := h
 simp only [j4.l] at hL h0 hi ha hal
 clear hb0
 have hx := j0 hL h0.1
 have CN := p9 L at_ (by omega) hL
 obtain ⟨n, hn⟩ : ∃ n : Int, n = 6 + 2 * (ll.length : Int) := ⟨_, rfl⟩
 obtain ⟨R, hR⟩ : ∃ R, R = MS.jD ⟨L, at_, g, su, re, sl, pa, ar, (.own ll), bs, (.own li), t⟩ := ⟨_, rfl⟩
 rw [← hR]
 simp only [MS.jD, MS.loop, MS.X4, MS.gZ, MS.uV, MS.block, MS.put, MS.L6, MS.cH, MS.eV, j4.cell, j4.rows, j4.l, j4.k, s6.cell, s6.rows, s6.l, List.cons_append, List.nil_append, List.append_nil] at hR
 simp only [← hn] at hR
 obtain ⟨hh, hhh⟩ : ∃ hh : Int, hh = ((bs.length + 1 : Nat) : Int) := ⟨_, rfl⟩
 obtain ⟨bo, hbo⟩ : ∃ bo : Int, bo = 1 + a6 L at_ % 3 := ⟨_, rfl⟩
 obtain ⟨b1, hb1⟩ : ∃ b1 : c5, b1 = ⟨li ++ [li1 n], U0 ((bs.length + 1 : Nat) : Int)⟩ := ⟨_, rfl⟩
 obtain ⟨b2, hb2⟩ : ∃ b2 : c5, b2 = ⟨[li2 n (1 + a6 L at_ % 3)], E5 (O5 (n + 1)) (((bs.length + 1 : Nat) : Int) + 1) (((bs.length + 1 : Nat) : Int) + 2)⟩ := ⟨_, rfl⟩
 obtain ⟨ll2, hll2⟩ : ∃ ll2 : List Loop, ll2 = ll ++ [⟨((bs.length + 1 : Nat) : Int), n, 1 + a6 L at_ % 3⟩] := ⟨_, rfl⟩
 have CP1 := U1 ⟨L, at_ + 1, g, su, n + 2, sl, pa, ar, (.own ll), bs, (.own li), t⟩ (li1 n) (by show bs.length ≤ 1000; omega) (by show li.length ≤ 1000000; (try simp only [List.length_nil]); omega)
 have CB1 := E8 ⟨L, at_ + 1, g, su, n + 2, sl, pa, ar, .own ll2, bs, .own (li ++ [li1 n]), U0 ((bs.length + 1 : Nat) : Int)⟩ (by show bs.length ≤ 1000; omega)
 have CP2 := U1 ⟨L, at_ + 1, g, su, n + 2, sl, pa, ar, .own ll2, bs ++ [b1], .nil, U4⟩ (li2 n (1 + a6 L at_ % 3)) (by show (bs ++ [b1]).length ≤ 1000; rw [b9]; omega) (by show ([] : List j9).length ≤ 1000000; simp)
 have CB2 := E8 ⟨L, at_ + 1, g, su, n + 2, sl, pa, ar, .own ll2, bs ++ [b1], .own [li2 n (1 + a6 L at_ % 3)], E5 (O5 (n + 1)) (((bs.length + 1 : Nat) : Int) + 1) (((bs.length + 1 : Nat) : Int) + 2)⟩ (by show (bs ++ [b1]).length ≤ 1000; rw [b9]; omega)
 have CP3 := U1 ⟨L, at_ + 1, g, su, n + 2, sl, pa, ar, .own ll2, bs ++ [b1] ++ [b2], .nil, U4⟩ (lP n) (by show (bs ++ [b1] ++ [b2]).length ≤ 1000; rw [b9, b9]; omega) (by show ([] : List j9).length ≤ 1000000; simp)
 have CI := bL ⟨L, at_ + 1, g, su, n + 2, sl, pa, ar, .own ll2, bs ++ [b1] ++ [b2], .own [lP n], U4⟩ ⟨hL, by show 0 ≤ at_ + 1 ∧ at_ + 1 ≤ _; omega, by show (bs ++ [b1] ++ [b2]).length ≤ _; rw [b9, b9]; omega, by show (([lP n] : List j9).length : Int) ≤ _; simp, ha, hal⟩
 obtain ⟨a, l, f, f1, f2, f3⟩ := gV ⟨L, at_ + 1, g, su, n + 2, sl, pa, ar, .own ll2, bs ++ [b1] ++ [b2], .own [lP n], U4⟩ [lP n] rfl hL (by show 0 ≤ at_ + 1; omega)
 have f1 : at_ + 1 + 1 ≤ a := f1
 have f2 : a ≤ at_ + 1 + 33 := f2
 rw [f] at CI
 rw [← hll2, ← hb1, ← hb2, f] at hR
 clear f f3
 have CN2 := p9 L a (by omega) hL
 have CR := Y8 L (a + 1) (by omega) hL
 have hy := j0 hL (show 0 ≤ a by omega)
 have RN := dD n
 have RN1 := dD (n + 1)
 have RC0 := Q0 0
 have RC1 := Q0 1
 have RCb := Q0 (1 + a6 L at_ % 3)
 simp only [MS.uW] at hR
 have hR1 : ¬ a6 L a % 3 = 0 → R = _ := fun hp => hR.trans (congrArg MS.rows (if_neg hp))
 have hR2 : a6 L a % 3 = 0 → R = _ := fun hp => hR.trans (congrArg MS.rows (if_pos hp))
 simp only [MS.rows, MS.put, MS.block, j4.cell, j4.rows, j4.l, j4.k, s6.cell, s6.rows, s6.l, List.cons_append, List.nil_append, List.append_nil] at CP1 CB1 CP2 CB2 CP3 CI hR1 hR2
 rw [← hb1] at CB1
 rw [← hb2] at CB2
 have hnb : 6 ≤ n ∧ n ≤ 206 := by omega
 have hn2 : 6 + 2 * ((ll.length : Nat) : Int) = n := hn.symm
 have hl2 : loops ll ++ [[.v (.int .i64 ((bs.length + 1 : Nat) : Int)), .v (.int .i64 n), .v (.int .i64 (1 + a6 L at_ % 3))]] = loops ll2 := by rw [hll2]; rw [uY]
 have hl3 : ll2.length = ll.length + 1 := by rw [hll2]; simp
 clear hR f1 f2 hhh hbo hb1 hb2 hll2
 generalize a6 L at_ = x at *
 generalize a6 L a = y at *
 generalize G8 L (a + 1) = d at *
 obtain ⟨dk, dn, dv⟩ := d
 simp only [hl3] at CB1 CP2 CB2 CP3 CI hR1 hR2
 simp only [a05, a06, a07, B9, kQ, iM, O5, B7, J8.av, b9, List.length_append, List.length_cons, List.length_nil, Nat.zero_add, Nat.reduceAdd, jC] at CP1 CB1 CP2 CB2 CP3 CI RN RN1 RC0 RC1 RCb CR
 simp only [B9, nP, iN, b9, List.length_append, List.length_cons, List.length_nil, Nat.zero_add, Nat.reduceAdd, jC] at hR1 hR2
 simp only [MS.rows, j4.cell, j4.rows, j4.l, j4.k, s6.cell, s6.rows, s6.l, List.cons_append, List.nil_append, List.append_nil]; refine Zf Tryd.func33 Tryd.ntmps33 ?_
 repeat' (first | (guard_target =~ AK Tryd.prog (Go.Code.seq (Go.Code.region 13 _ _) _) _ _ _; (try refine Zs (Zq N6.d (Zq hn2 hl2)) ?_); guard_target =~ AK Tryd.prog (Go.Code.seq (Go.Code.region 13 _ _) _) _ (Go.Ab.LS.mk _ _ 21) _; refine w7 (Zw [0, 4] [0, 13, 14, 15] (Zq N6.d (Zq hn2 hl2)) rfl) ?_) | (guard_target =~ AK Tryd.prog (Go.Code.seq (Go.Code.region 12 _ _) _) _ _ _; (try refine Zs (Zq N6.d (Zq hn2 hl2)) ?_); guard_target =~ AK Tryd.prog (Go.Code.seq (Go.Code.region 12 _ _) _) _ (Go.Ab.LS.mk _ _ 68) _; refine w7 (Zw [0, 4] [0, 60, 61, 62] (Zq N6.d (Zq hn2 hl2)) rfl) ?_) | (guard_target =~ AK Tryd.prog (Go.Code.seq (Go.Code.region 11 _ _) _) _ _ _; (try refine Zs (Zq N6.d (Zq hn2 hl2)) ?_); guard_target =~ AK Tryd.prog (Go.Code.seq (Go.Code.region 11 _ _) _) _ (Go.Ab.LS.mk _ _ 165) _; refine w7 (Zw [0, 2, 4] [0, 157, 158] (Zq N6.d (Zq hn2 hl2)) rfl) ?_) | (guard_target =~ AK Tryd.prog (Go.Code.seq (Go.Code.region 9 _ _) _) _ _ _; (try refine Zs (Zq N6.d (Zq hn2 hl2)) ?_); guard_target =~ AK Tryd.prog (Go.Code.seq (Go.Code.region 9 _ _) _) _ (Go.Ab.LS.mk _ _ 92) _; refine w7 (Zw [0, 2, 4] [0, 84, 85, 86] (Zq N6.d (Zq hn2 hl2)) rfl) ?_) | (guard_target =~ AK Tryd.prog (Go.Code.seq (Go.Code.region 8 _ _) _) _ _ _; (try refine Zs (Zq N6.d (Zq hn2 hl2)) ?_); guard_target =~ AK Tryd.prog (Go.Code.seq (Go.Code.region 8 _ _) _) _ (Go.Ab.LS.mk _ _ 253) _; refine w7 (Zw [0, 2, 3, 4] [0, 245, 246] (Zq N6.d (Zq hn2 hl2)) rfl) ?_) | (guard_target =~ AK Tryd.prog (Go.Code.seq (Go.Code.region 5 _ _) _) _ _ _; (try refine Zs (Zq N6.d (Zq hn2 hl2)) ?_); guard_target =~ AK Tryd.prog (Go.Code.seq (Go.Code.region 5 _ _) _) _ (Go.Ab.LS.mk _ _ 280) _; refine w7 (Zw [0, 2, 3, 4] [0, 272, 273, 274] (Zq N6.d (Zq hn2 hl2)) rfl) ?_) | refine Zl ?_ | (with_reducible first | refine Zz.mk fun N hN mk hmk => ?_ | refine Zb.mk fun N hN => ?_ | refine Zi.mk fun h => ?_ | refine ⟨fun h => ?_, fun h => ?_⟩ | exact True.intro) | refine Ze CN ?_ | refine Zc RN ?_ | refine Zc RN1 ?_ | refine Zc RC0 ?_ | refine Zc RC1 ?_ | refine Zc RCb ?_ | refine Ze CN2 ?_ | refine Ze CR ?_ | (refine Zp CP1 [0, 1, 2, 3] (Zq N6.d (Zq hn2 hl2)) ?_; with_reducible intro _ _) | (refine Zp CB1 [0, 1, 2, 197] (Zq N6.d (Zq hn2 hl2)) ?_; with_reducible intro _ _) | (refine Zp CP2 [0, 1, 2] (Zq N6.d (Zq hn2 hl2)) ?_; with_reducible intro _ _) | (refine Zp CB2 [0, 1, 2, 3] (Zq N6.d (Zq hn2 hl2)) ?_; with_reducible intro _ _) | (refine Zp CP3 [0, 1, 2] (Zq N6.d (Zq hn2 hl2)) ?_; with_reducible intro _ _) | (refine Zp CI [0, 1, 2, 3] (Zq N6.d (Zq hn2 hl2)) ?_; with_reducible intro _ _) | (refine hN _ ?_; clear hN N) | (refine Zk hmk ?_; clear hmk mk) | refine Zt (Zq N6.d (Zq hn2 hl2)) ?_ | fail)
 · rw [hR2 (by assumption)]
   refine Zr (()) [0, 1, 2, 3] (Zq N6.d (Zq hn2 hl2)) ?_
   trivial
 · rw [hR1 (by assumption)]
   refine Zr (()) [0, 1, 2, 3] (Zq N6.d (Zq hn2 hl2)) ?_
   trivial
theorem a7h (S : MS) (h : gI S 600000) (hb : S.bs.length ≤ 800) (hl : S.lo.l.length ≤ 100) : B2 Tryd.prog 33 [.ptr 0 0 0] S.rows 1 (fun _ : Unit => True) (fun _ => .Q8 []) (fun _ => S.loop.rows) := by
 obtain ⟨L, at_, g, su, re, sl, pa, ar, lo, bs, ii, t⟩ := S
 have hb2 : bs.length ≤ 800 := hb
 clear hb
 cases lo with
 | nil => cases ii with
   | nil => exact b2V L at_ g su re sl pa ar bs t h hb2 hl
   | own li => exact b2W L at_ g su re sl pa ar li bs t h hb2 hl
 | own ll => cases ii with
   | nil => exact b2X L at_ g su re sl pa ar ll bs t h hb2 hl
   | own li => exact b2Y L at_ g su re sl pa ar ll li bs t h hb2 hl
theorem a0h (S : MS) (hL : A5 S.L) (h0 : 0 ≤ S.at_) : ∃ a l b1 b2 t, S.loop = ⟨S.L, a, S.g, S.su, S.L6 + 2, S.sl, S.pa, S.ar, .own (S.lo.l ++ [⟨S.cH, S.L6, S.eV⟩]), S.bs ++ [b1] ++ [b2], .own l, t⟩ ∧ S.at_ + 1 ≤ a ∧ a ≤ S.at_ + 40 ∧ l.length ≤ 9 := by
 obtain ⟨a, l, f, f1, f2, f3⟩ := gV (((S.X4).gZ S.cH S.L6 S.eV).put (lP S.L6)) [lP S.L6] rfl hL (by show 0 ≤ S.at_ + 1; omega)
 have f1 : S.at_ + 1 + 1 ≤ a := f1
 have f2 : a ≤ S.at_ + 1 + 33 := f2
 unfold MS.loop MS.uV
 rw [f]
 unfold MS.uW
 simp only
 split
 · exact ⟨a + 1 + 1, l, _, _, _, rfl, by omega, by omega, f3⟩
 · exact ⟨a + 1, l, _, _, _, rfl, by omega, by omega, f3⟩
def gL : List fL := [⟨⟨#[97]⟩, 1, 1, 8⟩, ⟨⟨#[102]⟩, 1, 2, 4⟩, ⟨⟨#[115]⟩, 2, 1, 8⟩, ⟨⟨#[112]⟩, 3, 1, 4⟩, ⟨⟨#[98]⟩, 2, 3, 4⟩]
theorem zJ : e8 Tryd.prog 31 [] (fun _ => .b7 false (Q5 gL)) (fun _ => []) := by
 refine Zf Tryd.func31 Tryd.ntmps31 ?_
 repeat' (first | refine Za ?_ | (with_reducible first | refine Zz.mk fun N hN mk hmk => ?_ | refine Zb.mk fun N hN => ?_ | refine Zi.mk fun h => ?_ | refine ⟨fun h => ?_, fun h => ?_⟩ | exact True.intro) | (refine hN _ ?_; clear hN N) | (refine Zk hmk ?_; clear hmk mk) | refine Zt trivial ?_ | fail)
 rfl
def a94 (b : Int) : u2 := ⟨3, 0, O0, O0, O0, b, 0⟩
def b0f (s : Int) (d x y : J8) (b : Int) : u2 := ⟨4, s, d, x, y, b, 0⟩
def lM : u2 := ⟨5, 0, O0, O0, O0, 0, 0⟩
def a4x (b : Bool) (S : MS) : List Row := if b then S.rows else Y4 S.L S.at_ S.g S.su S.re S.sl S.pa S.ar
def bP (b : Bool) (S : MS) (n : Int) : MS := if b then S.region n else S.fC n
def MS.jF (S : MS) : MS := if a6 S.L S.at_ % 3 = 0 then (MS.loop { S with at_ := S.at_ + 1 }).block else { S with at_ := S.at_ + 1 }
def MS.fW (S : MS) : MS := if a6 S.L S.at_ % 3 = 0 then { S with at_ := S.at_ + 1 + 1 + 1 + 1 + 1, t := b0f (1 + a6 S.L (S.at_ + 1) % 6) (G8 S.L (S.at_ + 1 + 1)) (X2 S.L (S.at_ + 1 + 1 + 1)) (X2 S.L (S.at_ + 1 + 1 + 1 + 1)) (S.bs.length + 1) } else { S with at_ := S.at_ + 1, t := a94 (S.bs.length + 1) }
def rnd (b : Bool) (S : MS) : MS := ((bP b { S with at_ := S.at_ + 1 } (a6 S.L S.at_ % 3)).jF).fW
def jG (S : MS) : Nat → MS
 | 0 => S
 | i + 1 => rnd (decide (0 < i)) (jG S i)
def MS.kB (S : MS) : MS := if a6 S.L S.at_ % 3 = 0 then ((MS.loop { S with at_ := S.at_ + 1 }).block).p8 else { S with at_ := S.at_ + 1 }
def fin (b : Bool) (S : MS) : MS := { (bP b { S with at_ := S.at_ + 1 } (a6 S.L S.at_ % 3)).kB with t := lM }
def qH (g : Int) : Nat → Int → Int
 | 0, s => s
 | i + 1, s => if g % (2 * s) = 0 then qH g i (2 * s) else s
def W8 (x : Int) : Int := ([4, 1, 2, 8, 6] : List Int).getD (x % 5).toNat 0
def MS.code (S : MS) : Code := ⟨S.g, S.su, S.re, S.sl, S.pa, S.ar, S.lo.l, S.bs ++ [⟨S.i.l, S.t⟩]⟩
def Y1 (L : List Int) : MS := ⟨L, 3, W8 (a6 L 0), qH (W8 (a6 L 0)) (a6 L 1 % 3).toNat 1, 6, 0, 3, gL, .nil, [], .nil, U4⟩
def a7i (L : List Int) : Nat := (a6 L 2 % 3).toNat
def b6D (L : List Int) : MS := fin (decide (0 < a7i L)) (jG (Y1 L) (a7i L))
def lQ (L : List Int) : Code := (b6D L).code
structure MK (S : MS) (a : Int) (b l : Nat) : Prop where
 L : A5 S.L
 at_ : 0 ≤ S.at_ ∧ S.at_ ≤ a
 bs : S.bs.length ≤ b
 il : S.i.l.length ≤ 100
 lo : S.lo.l.length ≤ l
 ar : S.ar = gL
theorem MK.mono {S : MS} {a a' : Int} {b b' l l' : Nat} (h : MK S a b l) (ha : a ≤ a') (hb : b ≤ b') (hl : l ≤ l') : MK S a' b' l' := ⟨h.L, ⟨h.at_.1, by have := h.at_.2; omega⟩, by have := h.bs; omega, h.il, by have := h.lo; omega, h.ar⟩
theorem a2M : gL.length = 5 ∧ ∀ z, z < 5 → 1 ≤ (gL.getD z A0).len ∧ (gL.getD z A0).len ≤ 1000 := by
 refine ⟨rfl, fun z hz => ?_⟩
 match z, hz with
 | 0, _ => decide
 | 1, _ => decide
 | 2, _ => decide
 | 3, _ => decide
 | 4, _ => decide
theorem MK.ok {S : MS} {a : Int} {b l : Nat} (h : MK S a b l) {n : Int} (ha : a ≤ n) (hn : 100 ≤ n) (hb : b ≤ 1000) : gI S n := ⟨h.L, ⟨h.at_.1, by have := h.at_.2; omega⟩, by have := h.bs; omega, by have := h.il; omega, by rw [h.ar]; exact a2M.1, by rw [h.ar]; exact a2M.2⟩
theorem MK.next {S : MS} {a : Int} {b l : Nat} (h : MK S a b l) : MK { S with at_ := S.at_ + 1 } (a + 1) b l := ⟨h.L, ⟨by have := h.at_.1; show 0 ≤ S.at_ + 1; omega, by have := h.at_.2; show S.at_ + 1 ≤ a + 1; omega⟩, h.bs, h.il, h.lo, h.ar⟩
theorem MK.block {S : MS} {a : Int} {b l : Nat} (h : MK S a b l) : MK S.block a (b + 1) l := ⟨h.L, h.at_, by have := h.bs; simp [MS.block]; omega, by simp [MS.block, j4.l], h.lo, h.ar⟩
theorem MK.p8 {S : MS} {a : Int} {b l : Nat} (h : MK S a b l) (hi : S.i.l.length ≤ 50) : MK S.p8 (a + 33) b l := by
 obtain ⟨a', ii, e, h1, h2, h3⟩ := L1 S h.L h.at_.1
 rw [e]
 exact ⟨h.L, ⟨by have := h.at_.1; show 0 ≤ a'; omega, by have := h.at_.2; show a' ≤ a + 33; omega⟩, h.bs, by show ii.l.length ≤ 100; omega, h.lo, h.ar⟩
theorem MK.fC {S : MS} {a : Int} {b l : Nat} (h : MK S a b l) (hi : S.i = .nil) (ht : S.t = U4) {n : Int} (hn : 0 ≤ n ∧ n ≤ 2) : MK (S.fC n) (a + 107) (b + 2) l := by
 obtain ⟨a', bs, e, h1, h2, h3⟩ := U6 (S.bs.length + n) S h.L h.at_.1 hi ht n.toNat
 have hm : MK (S.fB (S.bs.length + n) n.toNat) (a + 74) (b + 2) l := by
   rw [e]
   exact ⟨h.L, ⟨by have := h.at_.1; show 0 ≤ a'; omega, by have := h.at_.2; show a' ≤ a + 74; omega⟩, by have := h.bs; show bs.length ≤ b + 2; omega, by simp [j4.l], h.lo, h.ar⟩
 have := hm.p8 (by rw [e]; simp [j4.l])
 exact this.mono (by omega) (by omega) (by omega)
theorem qC (S : MS) (hL : A5 S.L) (h0 : 0 ≤ S.at_) (hi : S.i = .nil) (ht : S.t = U4) (n : Int) : ∃ a ii bs, S.fC n = ⟨S.L, a, S.g, S.su, S.re, S.sl, S.pa, S.ar, S.lo, bs, ii, U4⟩ := by
 obtain ⟨a', bs, e, h1, h2, h3⟩ := U6 (S.bs.length + n) S hL h0 hi ht n.toNat
 unfold MS.fC
 obtain ⟨a, ii, f, _⟩ := L1 (S.fB (S.bs.length + n) n.toNat) (by rw [e]; exact hL) (by rw [e]; show 0 ≤ a'; omega)
 rw [e] at f
 exact ⟨a, ii, bs, by rw [e, f]⟩
theorem rH (S : MS) (hL : A5 S.L) (h0 : 0 ≤ S.at_) (n : Int) : ∃ a ii bs, S.region n = ⟨S.L, a, S.g, S.su, S.re, S.sl, S.pa, S.ar, S.lo, bs, ii, U4⟩ := qC S.block hL h0 rfl rfl n
theorem MK.region {S : MS} {a : Int} {b l : Nat} (h : MK S a b l) {n : Int} (hn : 0 ≤ n ∧ n ≤ 2) : MK (S.region n) (a + 107) (b + 3) l := (h.block.fC rfl rfl hn).mono (by omega) (by omega) (by omega)
theorem MK.loop {S : MS} {a : Int} {b l : Nat} (h : MK S a b l) : MK S.loop (a + 40) (b + 2) (l + 1) := by
 obtain ⟨a', l', b1, b2, t, e, h1, h2, h3⟩ := a0h S h.L h.at_.1
 rw [e]
 exact ⟨h.L, ⟨by have := h.at_.1; show 0 ≤ a'; omega, by have := h.at_.2; show a' ≤ a + 40; omega⟩, by have := h.bs; simp; omega, by show l'.length ≤ 100; omega, by have := h.lo; simp [s6.l] at this ⊢; omega, h.ar⟩
theorem MK.jF {S : MS} {a : Int} {b l : Nat} (h : MK S a b l) : MK S.jF (a + 41) (b + 3) (l + 1) := by
 unfold MS.jF
 split
 · exact h.next.loop.block.mono (by omega) (by omega) (by omega)
 · exact h.next.mono (by omega) (by omega) (by omega)
theorem MK.fW {S : MS} {a : Int} {b l : Nat} (h : MK S a b l) : MK S.fW (a + 5) b l := by
 have := h.at_
 unfold MS.fW
 split
 · exact ⟨h.L, ⟨by show 0 ≤ S.at_ + 1 + 1 + 1 + 1 + 1; omega, by show S.at_ + 1 + 1 + 1 + 1 + 1 ≤ _; omega⟩, h.bs, h.il, h.lo, h.ar⟩
 · exact ⟨h.L, ⟨by show 0 ≤ S.at_ + 1; omega, by show S.at_ + 1 ≤ _; omega⟩, h.bs, h.il, h.lo, h.ar⟩
theorem uX (S : MS) (hL : A5 S.L) (h0 : 0 ≤ S.at_) : ∃ a re ll bs l t, S.loop = ⟨S.L, a, S.g, S.su, re, S.sl, S.pa, S.ar, .own ll, bs, .own l, t⟩ := by
 obtain ⟨a', l', b1, b2, t', e, _, _, _⟩ := a0h S hL h0
 exact ⟨_, _, _, _, _, _, e⟩
theorem a3G (L : List Int) (hL : A5 L) : MK (Y1 L) 3 0 0 := ⟨hL, ⟨by show (0 : Int) ≤ 3; decide, by show (3 : Int) ≤ 3; decide⟩, by simp [Y1], by simp [Y1, j4.l], by simp [Y1, s6.l], rfl⟩
theorem a7Q (L : List Int) (hL : A5 L) (i : Nat) (ih : MK (jG (Y1 L) i) (3 + 200 * i) (6 * i) i) : MK (bP (decide (0 < i)) { (jG (Y1 L) i) with at_ := (jG (Y1 L) i).at_ + 1 } (a6 (jG (Y1 L) i).L (jG (Y1 L) i).at_ % 3)) (3 + 200 * i + 108) (6 * i + 3) i := by
 have hx := j0 ih.L ih.at_.1
 have hn : 0 ≤ a6 (jG (Y1 L) i).L (jG (Y1 L) i).at_ % 3 ∧ a6 (jG (Y1 L) i).L (jG (Y1 L) i).at_ % 3 ≤ 2 := by omega
 unfold bP
 split
 · exact (ih.next.region hn).mono (by omega) (by omega) (by omega)
 · rename_i hi
   obtain rfl : i = 0 := by simpa using hi
   exact ((a3G L hL).next.fC rfl rfl hn).mono (by omega) (by omega) (by omega)
theorem a7I (L : List Int) (hL : A5 L) : ∀ i : Nat, MK (jG (Y1 L) i) (3 + 200 * i) (6 * i) i := by
 intro i
 induction i with
 | zero => exact a3G L hL
 | succ i ih =>
   show MK (rnd _ _) _ _ _
   unfold rnd
   exact (a7Q L hL i ih).jF.fW.mono (by omega) (by omega) (by omega)
def j6 : Row := ⟨8, [[.v (.int .i64 0), .v (.int .i64 0), .v (.int .i64 0), .v (.int .i64 0), .v (.int .i64 0), .b7 true [], .b7 true [], .b7 true []]], 0⟩
theorem b2G (x : Int) (h : 0 ≤ x) : ([[.v (.int .i64 4)], [.v (.int .i64 1)], [.v (.int .i64 2)], [.v (.int .i64 8)], [.v (.int .i64 6)]] : List (List AV))[(x % 5).toNat]? = some [.v (.int .i64 (W8 x))] := by
 have : (x % 5).toNat < 5 := by omega
 unfold W8
 generalize (x % 5).toNat = n at *
 match n, this with
 | 0, _ => rfl
 | 1, _ => rfl
 | 2, _ => rfl
 | 3, _ => rfl
 | 4, _ => rfl
theorem b0H (x : Int) (h : 0 ≤ x) : 1 ≤ W8 x ∧ W8 x ≤ 8 := by
 have : (x % 5).toNat < 5 := by omega
 unfold W8
 generalize (x % 5).toNat = n at *
 match n, this with
 | 0, _ => decide
 | 1, _ => decide
 | 2, _ => decide
 | 3, _ => decide
 | 4, _ => decide
theorem b3c : ∀ i : Nat, i ≤ 2 → 1 ≤ (2 : Int) ^ i ∧ (2 : Int) ^ i ≤ 4 := by
 intro i hi
 match i, hi with
 | 0, _ => decide
 | 1, _ => decide
 | 2, _ => decide
theorem a4n (g s : Int) (n : Nat) (h : n = 0 ∨ ¬ g % (2 * s) = 0) : qH g n s = s := by
 cases n with
 | zero => rfl
 | succ n => rw [qH, if_neg (h.resolve_left (by omega))]
def S9 := ZZ.mk (Zq @j6.eq_1 (Zq @b5 (Zq @b6 (Zq @p7 (Zq @E4 (Zq @v7 (Zq @w9 (Zq @b8 (Zq @m6 (Zq @u4 (Zq @l0 (Zq @c9 (Zq @m7 (Zq @y0 (Zq @p0 (Zq @o7 (Zq @y3 (Zq @n5 (Zq @y5 (Zq @y4 (Zq @x8 (Zq @x7 (Zq @o5 (Zq @b5 (Zq @b6 (Zq @A7 (Zq @J5 (Zq @v8 (Zq @u9 @p7)))))))))))))))))))))))))))))
theorem a3H {K : Exit → LS → Prop} (S SA : MS) {z : Int} (hL : A5 S.L) (h0 : 0 ≤ S.at_ ∧ S.at_ ≤ 900) (hok : gI { S with at_ := S.at_ + 1 } 600000) (hb : S.bs.length ≤ 800) (hSA : SA = MS.region { S with at_ := S.at_ + 1 } (a6 S.L S.at_ % 3)) : AK (md := false) Tryd.prog (pA (cT Tryd.f10) [1,1,1,1,0,1,0,0,1,0,0,0]) [] ⟨[.dead, .dead, .ptr S.rows.length 0 0, .ptr 0 0 0, .dead, .v (.int .i64 z), .dead, .dead, .dead, .dead, .dead, .dead, .dead, .dead, .dead, .dead, .dead, .dead, .dead, .dead, .dead, .dead, .dead, .dead, .dead, .dead, .dead, .dead, .dead, .dead, .dead, .dead, .dead, .dead, .dead, .dead, .dead, .dead, .dead, .dead, .dead, .dead, .dead, .dead, .dead, .dead, .dead, .dead, .dead, .dead, .dead, .dead, .dead, .dead, .dead, .dead, .dead, .dead, .dead, .dead, .dead, .dead, .dead, .dead, .dead, .dead, .dead, .dead, .dead, .dead, .dead, .dead, .dead, .dead, .dead, .dead, .dead, .dead, .dead, .dead, .dead, .dead, .dead, .dead, .dead, .dead, .dead, .dead, .dead, .dead, .dead, .dead, .dead, .dead, .dead, .dead, .dead, .dead, .dead, .dead, .dead, .dead, .dead, .dead, .dead, .dead, .dead, .dead, .dead, .dead, .dead, .dead, .dead, .dead, .dead, .dead, .dead, .dead, .dead, .dead, .dead, .dead, .dead, .dead, .dead, .dead, .dead, .dead, .dead, .dead, .dead, .dead, .dead, .dead, .dead, .dead, .dead, .dead, .dead, .dead, .dead, .dead, .dead, .dead, .dead, .dead, .dead, .dead, .dead, .dead, .dead, .dead, .dead], j3 0 (S.rows ++ [j6]), S.rows.length + 1 + 8 + 8⟩ (S8 (fun s' => ∃ a : Unit, Go.Ab.Z7 True ∧ Q9 s' ⟨[.dead, .dead, .ptr SA.rows.length 0 0, .ptr 0 0 0, .dead, .v (.int .i64 z), .dead, .dead, .dead, .dead, .dead, .dead, .dead, .dead, .dead, .dead, .dead, .dead, .dead, .dead, .dead, .dead, .dead, .dead, .dead, .dead, .dead, .dead, .dead, .dead, .dead, .dead, .dead, .dead, .dead, .dead, .dead, .dead, .dead, .dead, .dead, .dead, .dead, .dead, .dead, .dead, .dead, .dead, .dead, .dead, .dead, .dead, .dead, .dead, .dead, .dead, .dead, .dead, .dead, .dead, .dead, .dead, .dead, .dead, .dead, .dead, .dead, .dead, .dead, .dead, .dead, .dead, .dead, .dead, .dead, .dead, .dead, .dead, .dead, .dead, .dead, .dead, .dead, .dead, .dead, .dead, .dead, .dead, .dead, .dead, .dead, .dead, .dead, .dead, .dead, .dead, .dead, .dead, .dead, .dead, .dead, .dead, .dead, .dead, .dead, .dead, .dead, .dead, .dead, .dead, .dead, .dead, .dead, .dead, .dead, .dead, .dead, .dead, .dead, .dead, .dead, .dead, .dead, .dead, .dead, .dead, .dead, .dead, .dead, .dead, .dead, .dead, .dead, .dead, .dead, .dead, .dead, .dead, .dead, .dead, .dead, .dead, .dead, .dead, .dead, .dead, .dead, .dead, .dead, .dead, .dead, .dead, .dead], j3 0 (SA.rows ++ [j6]), SA.rows.length + 1⟩) K) := by
 conv in pA _ _ => whnf
 have hx := j0 hL h0.1
 have hn : 0 ≤ a6 S.L S.at_ % 3 ∧ a6 S.L S.at_ % 3 ≤ 2 := by omega
 have CN := p9 S.L S.at_ (by omega) hL
 have CR := a0r { S with at_ := S.at_ + 1 } (a6 S.L S.at_ % 3) hn hok (by show S.bs.length ≤ 800; omega)
 obtain ⟨a', ii', bs', e⟩ := rH { S with at_ := S.at_ + 1 } hL (by show 0 ≤ S.at_ + 1; omega) (a6 S.L S.at_ % 3)
 rw [← hSA] at e CR
 subst e
 simp only at CR
 clear hSA hok hL h0 hb
 obtain ⟨L', at', g, su, re, sl, pa, ar, lo, bs, ii, t⟩ := S
 simp only at CN CR hx hn ⊢
 generalize a6 L' at' = y at *
 cases lo <;> cases ii <;> cases ii'
 all_goals simp only [MS.rows, j3, B9, j4.cell, j4.rows, j4.l, j4.k, s6.cell, s6.rows, s6.l, List.cons_append, List.nil_append, List.append_nil, List.length_cons, List.length_nil, Nat.reduceAdd, List.cons_append, List.nil_append] at CR ⊢
 · repeat' (first | refine Za ?_ | (with_reducible first | refine Zz.mk fun N hN mk hmk => ?_ | refine Zb.mk fun N hN => ?_ | refine Zi.mk fun h => ?_ | refine ⟨fun h => ?_, fun h => ?_⟩ | exact True.intro) | refine Ze CN ?_ | (refine Zp CR [0, 1] S9.d ?_; with_reducible intro _ _) | (refine hN _ ?_; clear hN N) | (refine Zk hmk ?_; clear hmk mk) | refine Zt S9.d ?_ | fail)
   refine j7 (keep := [2, 3, 5]) (ids := [0, 51, 2]) (s' := _) () (by simp only [S9.d, c7, n3, a7, e6, m8, A6, AV.plain, Nat.reduceBEq, ↓reduceIte, Nat.reduceEqDiff, Nat.reduceAdd, sC]; rfl) ?_ trivial
   simp only [j3, j6, List.cons_append, List.nil_append, List.length_cons, List.length_nil, Nat.reduceAdd, Nat.zero_add]
 · repeat' (first | refine Za ?_ | (with_reducible first | refine Zz.mk fun N hN mk hmk => ?_ | refine Zb.mk fun N hN => ?_ | refine Zi.mk fun h => ?_ | refine ⟨fun h => ?_, fun h => ?_⟩ | exact True.intro) | refine Ze CN ?_ | (refine Zp CR [0, 1] S9.d ?_; with_reducible intro _ _) | (refine hN _ ?_; clear hN N) | (refine Zk hmk ?_; clear hmk mk) | refine Zt S9.d ?_ | fail)
   refine j7 (keep := [2, 3, 5]) (ids := [0, 51, 52, 2]) (s' := _) () (by simp only [S9.d, c7, n3, a7, e6, m8, A6, AV.plain, Nat.reduceBEq, ↓reduceIte, Nat.reduceEqDiff, Nat.reduceAdd, sC]; rfl) ?_ trivial
   simp only [j3, j6, List.cons_append, List.nil_append, List.length_cons, List.length_nil, Nat.reduceAdd, Nat.zero_add]
 · repeat' (first | refine Za ?_ | (with_reducible first | refine Zz.mk fun N hN mk hmk => ?_ | refine Zb.mk fun N hN => ?_ | refine Zi.mk fun h => ?_ | refine ⟨fun h => ?_, fun h => ?_⟩ | exact True.intro) | refine Ze CN ?_ | (refine Zp CR [0, 1, 2] S9.d ?_; with_reducible intro _ _) | (refine hN _ ?_; clear hN N) | (refine Zk hmk ?_; clear hmk mk) | refine Zt S9.d ?_ | fail)
   refine j7 (keep := [2, 3, 5]) (ids := [0, 52, 3]) (s' := _) () (by simp only [S9.d, c7, n3, a7, e6, m8, A6, AV.plain, Nat.reduceBEq, ↓reduceIte, Nat.reduceEqDiff, Nat.reduceAdd, sC]; rfl) ?_ trivial
   simp only [j3, j6, List.cons_append, List.nil_append, List.length_cons, List.length_nil, Nat.reduceAdd, Nat.zero_add]
 · repeat' (first | refine Za ?_ | (with_reducible first | refine Zz.mk fun N hN mk hmk => ?_ | refine Zb.mk fun N hN => ?_ | refine Zi.mk fun h => ?_ | refine ⟨fun h => ?_, fun h => ?_⟩ | exact True.intro) | refine Ze CN ?_ | (refine Zp CR [0, 1, 2] S9.d ?_; with_reducible intro _ _) | (refine hN _ ?_; clear hN N) | (refine Zk hmk ?_; clear hmk mk) | refine Zt S9.d ?_ | fail)
   refine j7 (keep := [2, 3, 5]) (ids := [0, 52, 53, 3]) (s' := _) () (by simp only [S9.d, c7, n3, a7, e6, m8, A6, AV.plain, Nat.reduceBEq, ↓reduceIte, Nat.reduceEqDiff, Nat.reduceAdd, sC]; rfl) ?_ trivial
   simp only [j3, j6, List.cons_append, List.nil_append, List.length_cons, List.length_nil, Nat.reduceAdd, Nat.zero_add]
 · repeat' (first | refine Za ?_ | (with_reducible first | refine Zz.mk fun N hN mk hmk => ?_ | refine Zb.mk fun N hN => ?_ | refine Zi.mk fun h => ?_ | refine ⟨fun h => ?_, fun h => ?_⟩ | exact True.intro) | refine Ze CN ?_ | (refine Zp CR [0, 1, 2] S9.d ?_; with_reducible intro _ _) | (refine hN _ ?_; clear hN N) | (refine Zk hmk ?_; clear hmk mk) | refine Zt S9.d ?_ | fail)
   refine j7 (keep := [2, 3, 5]) (ids := [0, 52, 53, 3]) (s' := _) () (by simp only [S9.d, c7, n3, a7, e6, m8, A6, AV.plain, Nat.reduceBEq, ↓reduceIte, Nat.reduceEqDiff, Nat.reduceAdd, sC]; rfl) ?_ trivial
   simp only [j3, j6, List.cons_append, List.nil_append, List.length_cons, List.length_nil, Nat.reduceAdd, Nat.zero_add]
 · repeat' (first | refine Za ?_ | (with_reducible first | refine Zz.mk fun N hN mk hmk => ?_ | refine Zb.mk fun N hN => ?_ | refine Zi.mk fun h => ?_ | refine ⟨fun h => ?_, fun h => ?_⟩ | exact True.intro) | refine Ze CN ?_ | (refine Zp CR [0, 1, 2] S9.d ?_; with_reducible intro _ _) | (refine hN _ ?_; clear hN N) | (refine Zk hmk ?_; clear hmk mk) | refine Zt S9.d ?_ | fail)
   refine j7 (keep := [2, 3, 5]) (ids := [0, 52, 53, 54, 3]) (s' := _) () (by simp only [S9.d, c7, n3, a7, e6, m8, A6, AV.plain, Nat.reduceBEq, ↓reduceIte, Nat.reduceEqDiff, Nat.reduceAdd, sC]; rfl) ?_ trivial
   simp only [j3, j6, List.cons_append, List.nil_append, List.length_cons, List.length_nil, Nat.reduceAdd, Nat.zero_add]
 · repeat' (first | refine Za ?_ | (with_reducible first | refine Zz.mk fun N hN mk hmk => ?_ | refine Zb.mk fun N hN => ?_ | refine Zi.mk fun h => ?_ | refine ⟨fun h => ?_, fun h => ?_⟩ | exact True.intro) | refine Ze CN ?_ | (refine Zp CR [0, 1, 2, 3] S9.d ?_; with_reducible intro _ _) | (refine hN _ ?_; clear hN N) | (refine Zk hmk ?_; clear hmk mk) | refine Zt S9.d ?_ | fail)
   refine j7 (keep := [2, 3, 5]) (ids := [0, 53, 54, 4]) (s' := _) () (by simp only [S9.d, c7, n3, a7, e6, m8, A6, AV.plain, Nat.reduceBEq, ↓reduceIte, Nat.reduceEqDiff, Nat.reduceAdd, sC]; rfl) ?_ trivial
   simp only [j3, j6, List.cons_append, List.nil_append, List.length_cons, List.length_nil, Nat.reduceAdd, Nat.zero_add]
 · repeat' (first | refine Za ?_ | (with_reducible first | refine Zz.mk fun N hN mk hmk => ?_ | refine Zb.mk fun N hN => ?_ | refine Zi.mk fun h => ?_ | refine ⟨fun h => ?_, fun h => ?_⟩ | exact True.intro) | refine Ze CN ?_ | (refine Zp CR [0, 1, 2, 3] S9.d ?_; with_reducible intro _ _) | (refine hN _ ?_; clear hN N) | (refine Zk hmk ?_; clear hmk mk) | refine Zt S9.d ?_ | fail)
   refine j7 (keep := [2, 3, 5]) (ids := [0, 53, 54, 55, 4]) (s' := _) () (by simp only [S9.d, c7, n3, a7, e6, m8, A6, AV.plain, Nat.reduceBEq, ↓reduceIte, Nat.reduceEqDiff, Nat.reduceAdd, sC]; rfl) ?_ trivial
   simp only [j3, j6, List.cons_append, List.nil_append, List.length_cons, List.length_nil, Nat.reduceAdd, Nat.zero_add]
end Go.Proofs.YtfccigmfcpimgaaDoor
end
