/- Own work (by an AI agent; no person has read it): part of a proof of the seat YtfccigmfcpimgaaDoor. -/
import Derived.Test.YtfccigmfcpimgaaDoorXf
set_option linter.unusedSimpArgs false
set_option linter.unusedVariables false
set_option maxRecDepth 100000
set_option maxHeartbeats 10000000
section
namespace Go.Proofs.YtfccigmfcpimgaaDoor
open Go.Ab
theorem a8M {l : List Int} (h : ∀ x ∈ l, 0 ≤ x ∧ x < 12) (sl : K8 l) : (((List.range 12).filter fun k => (D0 l).testBit k).length) = l.length := by
 have e : (((List.range 12).filter fun k => (D0 l).testBit k).map fun k : Nat => (k : Int)) = l := by
   refine K8.ext ?_ sl fun x => ?_
   · exact List.pairwise_map.2 ((List.pairwise_lt_range (n := 12)).filter _ |>.imp fun hab => by omega)
   · simp only [List.mem_map, List.mem_filter, List.mem_range, aF]
     constructor
     · rintro ⟨k, ⟨_, y, h1, h2⟩, rfl⟩
       have := h y h1
       have : y = (k : Int) := by omega
       rw [← this]; exact h1
     · intro hx
       have := h x hx
       exact ⟨x.toNat, ⟨by omega, x, hx, rfl⟩, by omega⟩
 have := congrArg List.length e
 simpa using this
theorem a7k : ∀ {l : List Int}, (∀ x ∈ l, 0 ≤ x ∧ x < 12) → D0 l < 4096
 | [], _ => by simp [D0]
 | x :: l, h => by
   have h1 := h x (by simp)
   have : (2 : Nat) ^ x.toNat < 2 ^ 12 := Nat.pow_lt_pow_right (by decide) (by omega)
   exact Nat.or_lt_two_pow (n := 12) this (a7k fun y hy => h y (by simp [hy]))
theorem b23 {l : List Int} (h : ∀ x ∈ l, 0 ≤ x ∧ x < 12) (sl : K8 l) : ocF (D0 l) = (l.length : Int) := by rw [b6G _ (a7k h), a8M h sl]
theorem b7l : ocF 0 = 0 := by decide +kernel
def b69 := ZZ.mk (Zq @F5.eq_1 (Zq @Int.zero_add (Zq @Int.add_zero (Zq @b5 (Zq @b6 @E9)))))
theorem tP (l : List Int) (h : ∀ x ∈ l, 0 ≤ x ∧ x < 12) (sl : K8 l) (hn : l.length ≤ 1000) : e8 Tryd.prog 51 [F5 l] (fun _ => .v (.int .i64 l.length)) (fun _ => []) := by
 have C1 := b3U (D0 l)
 have C2 := b3U 0
 rw [b23 h sl] at C1
 rw [b7l] at C2
 refine Zf Tryd.func51 Tryd.ntmps51 ?_; simp only [F5]
 repeat' (first | refine Za ?_ | (with_reducible first | refine Zz.mk fun N hN mk hmk => ?_ | refine Zb.mk fun N hN => ?_ | refine Zi.mk fun h => ?_ | refine ⟨fun h => ?_, fun h => ?_⟩ | exact True.intro) | (guard_target =~ AK Tryd.prog _ _ _ _; refine A4 [(), (), (), (), ()] ?_) | refine Zc C1 ?_ | refine Zc C2 ?_ | (refine hN _ ?_; clear hN N) | (refine Zk hmk ?_; clear hmk mk) | refine oQ b69.d ?_ | fail)
 all_goals rfl
theorem a0j : D0 [] = 0 := rfl
theorem a3j {l : List Int} {i : Nat} (h : i < l.length) : l.getD i 0 ∈ l := by
 rw [List.getD_eq_getElem?_getD, List.getElem?_eq_getElem h]; exact List.getElem_mem h
theorem a8l {l : List Int} {i : Nat} (h : i < l.length) : l.drop i = l.getD i 0 :: l.drop (i + 1) := by
 rw [List.drop_eq_getElem_cons h, List.getD_eq_getElem?_getD, List.getElem?_eq_getElem h]; rfl
theorem a0c {l : List Int} (h : Y9 l) (sl : K8 l) {i : Nat} (hi : i < l.length) :
   (D0 (l.drop i) : Int) ≠ 0 ∧ Lib.ctz 64 (D0 (l.drop i)) = (l.getD i 0).toNat ∧ a4F .u64 (D0 (l.drop i)) (IntKind.u64.wrap ((D0 (l.drop i) : Int) - 1)) = (D0 (l.drop (i + 1)) : Int) := by
 have e := a8l hi
 have h1 : Y9 (l.getD i 0 :: l.drop (i + 1)) := by rw [← e]; exact fun x hx => h x (List.mem_of_mem_drop hx)
 have h2 : K8 (l.getD i 0 :: l.drop (i + 1)) := by rw [← e]; exact sl.sublist (List.drop_sublist _ _)
 rw [e]
 exact ⟨by have := b1h (a := l.getD i 0) (l := l.drop (i + 1)); omega, b1f h1 h2, a5F h1 h2⟩
theorem b2O {l : List Int} {i : Nat} (h : i + 1 < l.length) : List.take (i + 1) (e7 (l.take (i + 1))) ++ [[.v (.int .i64 (l.getD (i + 1) 0))]] = e7 (l.take (i + 1 + 1)) := by
 rw [N0 l (i + 1) 0 h]
 unfold e7
 rw [List.map_append, List.take_of_length_le (by simp; omega)]; rfl
def b7a := ZZ.mk (Zq @F5.eq_1 (Zq @a0j (Zq @E9 (Zq @Int.zero_add (Zq @Int.add_zero (Zq @b5 (Zq @b6 @E9)))))))
def b6g := ZZ.mk (Zq @F5.eq_1 (Zq @E9 (Zq @Int.zero_add (Zq @Int.add_zero (Zq @b5 @b6)))))
def b6h := ZZ.mk (Zq @F5.eq_1 (Zq @Int.mul_zero (Zq @E9 (Zq @Int.zero_add (Zq @Int.add_zero (Zq @b5 @b6))))))
def b6i := ZZ.mk (Zq @F5.eq_1 (Zq @B1 (Zq @List.length_take.{0} (Zq @Nat.min_eq_left (Zq @u7 (Zq @N9 (Zq @c6 (Zq @r6 (Zq @N7 (Zq @G7 (Zq @Int.mul_zero (Zq @E9 (Zq @Int.zero_add (Zq @Int.add_zero (Zq @b5 @b6)))))))))))))))
def b7b := ZZ.mk (Zq @F5.eq_1 (Zq @B1 (Zq @List.length_take.{0} (Zq @Nat.min_eq_left (Zq @u7 (Zq @N9 (Zq @c6 (Zq @r6 (Zq @N7 (Zq @G7 (Zq @Int.mul_zero (Zq @E9 (Zq @Int.zero_add (Zq @Int.add_zero (Zq @b5 (Zq @b6 @E9))))))))))))))))
theorem tM (l : List Int) (h : Y9 l) (sl : K8 l) (hn : l.length ≤ 1000) : e8 Tryd.prog 42 [F5 l] (fun _ => .b7 false (e7 l)) (fun _ => []) := by
 by_cases hl : l = []
 · subst hl
   refine Zf Tryd.func42 Tryd.ntmps42 ?_; simp only [F5]
   repeat' (first | refine Za ?_ | (with_reducible first | refine Zz.mk fun N hN mk hmk => ?_ | refine Zb.mk fun N hN => ?_ | refine Zi.mk fun h => ?_ | refine ⟨fun h => ?_, fun h => ?_⟩ | exact True.intro) | (guard_target =~ AK Tryd.prog _ _ _ _; refine A4 [(), (), (), (), ()] ?_) | (refine hN _ ?_; clear hN N) | (refine Zk hmk ?_; clear hmk mk) | refine oQ b7a.d ?_ | fail)
   all_goals rfl
 · have hp : 0 < l.length := (List.length_pos_iff.2 hl)
   refine Zf Tryd.func42 Tryd.ntmps42 ?_; simp only [F5]
   repeat' (first | refine Za ?_ | (with_reducible first | refine Zz.mk fun N hN mk hmk => ?_ | refine Zb.mk fun N hN => ?_ | refine Zi.mk fun h => ?_ | refine ⟨fun h => ?_, fun h => ?_⟩ | exact True.intro) | (refine hN _ ?_; clear hN N) | (refine Zk hmk ?_; clear hmk mk) | refine oQ b6g.d ?_ | fail)
   refine A4 [(), (), (), (), ()] ?_
   repeat' (first | refine Za ?_ | (with_reducible first | refine Zz.mk fun N hN mk hmk => ?_ | refine Zb.mk fun N hN => ?_ | refine Zi.mk fun h => ?_ | refine ⟨fun h => ?_, fun h => ?_⟩ | exact True.intro) | (refine hN _ ?_; clear hN N) | (refine Zk hmk ?_; clear hmk mk) | refine oQ b6g.d ?_ | fail)
   refine iK (fun i => ⟨[.dead, .ptr 0 0 0, .dead, .own 1 0 (i + 1), .v (.int .i64 0), .v (.int .u64 (D0 (l.drop (i + 1)))), .agg [.v (.int .u64 (D0 l)), .v (.int .u64 0), .v (.int .u64 0), .v (.int .u64 0)], .v (.int .i64 0), .dead, .dead, .dead, .dead, .dead, .dead, .dead, .dead, .dead, .dead, .dead, .dead, .dead, .dead, .dead, .dead, .dead, .dead, .dead], [(0, .live ⟨4, [[.v (.int .u64 (D0 l)), .v (.int .u64 0), .v (.int .u64 0), .v (.int .u64 0)]], 0⟩), (1, .live ⟨1, e7 (l.take (i + 1)), 0⟩)], 2⟩) (l.length - 1) ?_ ?_
   · obtain ⟨s1, s2, s3⟩ := a0c h sl hp
     simp only [List.drop_zero] at s1 s2 s3
     have hr := h _ (a3j hp)
     have C := b4S (D0 l) (dZ h)
     rw [s2, show (((l.getD 0 0).toNat : Nat) : Int) = l.getD 0 0 from by omega] at C
     repeat' (first | refine Za ?_ | (with_reducible first | refine Zz.mk fun N hN mk hmk => ?_ | refine Zb.mk fun N hN => ?_ | refine Zi.mk fun h => ?_ | refine ⟨fun h => ?_, fun h => ?_⟩ | exact True.intro) | refine Zc C ?_ | (refine hN _ ?_; clear hN N) | (refine Zk hmk ?_; clear hmk mk) | refine oQ (Zq b6h.d (Zq s1 s3)) ?_ | fail)
     refine Zw [1,3,4,5,6,7] [0, 152] (Zq b6h.d (Zq s1 s3)) ?_
     rw [show l.take (0 + 1) = [l.getD 0 0] from by rw [N0 l 0 0 hp]; rfl]; rfl
   · intro i hi
     by_cases hlt : i + 1 < l.length
     · obtain ⟨s1, s2, s3⟩ := a0c h sl hlt
       have hr := h _ (a3j hlt)
       have C := b4S (D0 (l.drop (i + 1))) (dZ fun x hx => h x (List.mem_of_mem_drop hx))
       rw [s2, show (((l.getD (i + 1) 0).toNat : Nat) : Int) = l.getD (i + 1) 0 from by omega] at C
       have tk := b2O hlt
       repeat' (first | refine Za ?_ | (with_reducible first | refine Zz.mk fun N hN mk hmk => ?_ | refine Zb.mk fun N hN => ?_ | refine Zi.mk fun h => ?_ | refine ⟨fun h => ?_, fun h => ?_⟩ | exact True.intro) | refine Zc C ?_ | (refine hN _ ?_; clear hN N) | (refine Zk hmk ?_; clear hmk mk) | refine oQ (Zq b6i.d (Zq s1 (Zq s3 tk))) ?_ | fail)
       refine Zw [1,3,4,5,6,7] [0, 74] (Zq b6i.d (Zq s1 (Zq s3 tk))) ?_
       rfl
     · have e : l.drop (i + 1) = [] := List.drop_eq_nil_of_le (by omega)
       have e2 : l.take (i + 1) = l := List.take_of_length_le (by omega)
       have hi1 : i + 1 = l.length := by omega
       rw [e, e2, a0j, hi1]
       repeat' (first | refine Za ?_ | (with_reducible first | refine Zz.mk fun N hN mk hmk => ?_ | refine Zb.mk fun N hN => ?_ | refine Zi.mk fun h => ?_ | refine ⟨fun h => ?_, fun h => ?_⟩ | exact True.intro) | (guard_target =~ AK Tryd.prog _ _ _ _; refine A4 [(), (), (), (), ()] ?_) | (refine hN _ ?_; clear hN N) | (refine Zk hmk ?_; clear hmk mk) | refine oQ b7b.d ?_ | fail)
def X1 (l : List (List Int)) : List (List AV) := l.map fun x => [.v (.int .u64 (D0 x)), .v (.int .u64 0), .v (.int .u64 0), .v (.int .u64 0)]
theorem dR (l : List (List Int)) : (X1 l).length = l.length := by simp [X1]
theorem lA (l : List (List Int)) (z : Nat) (h : z < l.length) : (X1 l)[z]? = some [.v (.int .u64 (D0 (l.getD z []))), .v (.int .u64 0), .v (.int .u64 0), .v (.int .u64 0)] := by simp [X1, h, List.getD_eq_getElem?_getD]
theorem mI (l : List (List Int)) : (∀ e ∈ X1 l, e.length = 4) = True := by simp [X1]
theorem o0 (l : List (List Int)) : ((X1 l).all fun e => e.all AV.plain) = true := by simp [X1, AV.plain]
theorem aJ (l : List (List Int)) : w8 (X1 l) = true := o0 l
theorem qJ (l : List (List Int)) : (X1 l).take l.length = X1 l := by rw [← dR, List.take_length]
def xM (l : List (List Int)) : Prop := ∀ z, Y9 (l.getD z []) ∧ K8 (l.getD z [])
theorem qD {inn : List (List Int)} (h : xM inn) (l : List Int) : Y9 (O7 inn l) ∧ K8 (O7 inn l) := by
 have : ∀ (l : List Int) (s : List Int), Y9 s ∧ K8 s → Y9 (l.foldl (fun s to => q9 s (inn.getD to.toNat [])) s) ∧ K8 (l.foldl (fun s to => q9 s (inn.getD to.toNat [])) s) := by
   intro l
   induction l with
   | nil => intro s hs; exact hs
   | cons a l ih => intro s hs; exact ih _ ⟨hs.1.union (h _).1, U7 hs.2⟩
 exact this l [] ⟨Y9.nil, K8.nil⟩
theorem vS {t : u2} {inn : List (List Int)} (h : xM inn) (hu : Y9 (bA t)) : Y9 (I7 t inn) := (qD h _).1.dG.union hu
def a9M := ZZ.mk (Zq @F5.eq_1 (Zq @u2.av.eq_1 (Zq @dR (Zq @lA (Zq @mI (Zq @o0 (Zq @aJ (Zq @u7 (Zq @K0 (Zq @B4 (Zq @N9 (Zq @c6 (Zq @r6 (Zq @N7 (Zq @G7 (Zq @B1 (Zq @b5 @b6)))))))))))))))))
theorem tN (t : u2) (inn : List (List Int)) (hs : ∀ to ∈ c8 t, 0 ≤ to ∧ to < inn.length) (hl : inn.length ≤ 1000) (hi : xM inn) (hd : P8 t < 64) (hu : Y9 (bA t)) :
   e8 Tryd.prog 40 [.agg t.av, .b7 false (X1 inn)] (fun _ => F5 (I7 t inn)) (fun _ => []) := by
 have C1 := tQ t
 have C2 := a2Q t
 have C3 := a8g t
 have hl2 := eU t
 have hl4 := kS t
 obtain ⟨g1, g2⟩ := qD hi (c8 t)
 have C4 := qP (O7 inn (c8 t)) (P8 t) g1 hd
 have C5 := lV (bA t) hu (by omega)
 have C6 := gP (l8 (O7 inn (c8 t)) (P8 t)) (q9 [] (bA t)) g1.dG (Y9.nil.union hu)
 rw [a4s (fV g2 _)] at C6
 simp only [u2.av] at C1 C2 C3
 refine Zf Tryd.func40 Tryd.ntmps40 ?_; simp only [u2.av]
 repeat' (first | refine Za ?_ | (with_reducible first | refine Zz.mk fun N hN mk hmk => ?_ | refine Zb.mk fun N hN => ?_ | refine Zi.mk fun h => ?_ | refine ⟨fun h => ?_, fun h => ?_⟩ | exact True.intro) | refine Zc C1 ?_ | (refine hN _ ?_; clear hN N) | (refine Zk hmk ?_; clear hmk mk) | refine Zt a9M.d ?_ | fail)
 refine l9 (fun i => ⟨[.dead, .b7 false (X1 inn), .ptr 0 0 0, .dead, .ptr 1 0 0, .ptr 2 0 0, .dead, .dead, .dead, .b7 false (e7 (c8 t)), .v (.int .i64 (c8 t).length), .v (.int .i64 i), .dead, .dead, .dead, .dead, .dead, .dead, .dead, .dead, .dead, .dead, .dead, .dead, .dead, .dead, .dead, .dead, .dead, .dead], [(0, .live ⟨13, [[.v (.int .i64 t.kind), .v (.int .i64 t.sub), .v (.int .i64 t.d.k), .v (.int .i64 t.d.n), .v (.int .i32 t.d.v), .v (.int .i64 t.a.k), .v (.int .i64 t.a.n), .v (.int .i32 t.a.v), .v (.int .i64 t.b.k), .v (.int .i64 t.b.n), .v (.int .i32 t.b.v), .v (.int .i64 t.t0), .v (.int .i64 t.t1)]], 0⟩), (1, .live ⟨4, [[.v (.int .u64 0), .v (.int .u64 0), .v (.int .u64 0), .v (.int .u64 0)]], 0⟩), (2, .live ⟨4, [[.v (.int .u64 (D0 (O7 inn ((c8 t).take i)))), .v (.int .u64 0), .v (.int .u64 0), .v (.int .u64 0)]], 0⟩)], 3⟩) (c8 t).length (Zw [1,2,4,5,9,10,11] [0, 8, 16] a9M.d ?_) ?_
 · simp [O7, D0]
 · intro i hi2
   by_cases hin : i < (c8 t).length
   · have hto := hs _ (aE hin)
     obtain ⟨k1, k2⟩ := qD hi ((c8 t).take i)
     have C7 := gP (O7 inn ((c8 t).take i)) (inn.getD ((c8 t).getD i 0).toNat []) k1 (hi _).1
     rw [← mM inn (c8 t) i hin] at C7
     repeat' (first | refine Za ?_ | (with_reducible first | refine Zz.mk fun N hN mk hmk => ?_ | refine Zb.mk fun N hN => ?_ | refine Zi.mk fun h => ?_ | refine ⟨fun h => ?_, fun h => ?_⟩ | exact True.intro) | refine Zc C7 ?_ | (refine hN _ ?_; clear hN N) | (refine Zk hmk ?_; clear hmk mk) | refine Zt a9M.d ?_ | fail)
     refine Zw [1,2,4,5,9,10,11] [0, 1, 2] a9M.d ?_
     rfl
   · have e : (c8 t).take i = c8 t := List.take_of_length_le (by omega)
     rw [e]
     repeat' (first | refine Za ?_ | (with_reducible first | refine Zz.mk fun N hN mk hmk => ?_ | refine Zb.mk fun N hN => ?_ | refine Zi.mk fun h => ?_ | refine ⟨fun h => ?_, fun h => ?_⟩ | exact True.intro) | refine Zc C2 ?_ | refine Zc C3 ?_ | refine Zc C4 ?_ | refine Zc C5 ?_ | refine Zc C6 ?_ | (refine hN _ ?_; clear hN N) | (refine Zk hmk ?_; clear hmk mk) | refine Zt a9M.d ?_ | fail)
     all_goals rfl
theorem wG (l : List Int) : l = [] ∨ ∃ l' b, l = l' ++ [b] := by
 rcases List.eq_nil_or_concat l with h | ⟨l', b, h⟩
 · exact .inl h
 · exact .inr ⟨l', b, by simpa using h⟩
theorem pE (l : List Int) (b : Int) : (l ++ [b]).getD l.length 0 = b := by simp [List.getD_eq_getElem?_getD]
theorem E4 (n : Nat) : ((n + 1 : Nat) : Int) - 1 = n := by omega
theorem pH (l : List Int) (b : Int) : (e7 (l ++ [b]))[l.length]? = some [.v (.int .i64 b)] := by simp [e7]
theorem a3s (l : List Int) (b : Int) : (e7 (l ++ [b])).take l.length = e7 l := by simp [e7]
def rS (c : Code) (out : List Bool) (left : List Int) : LS :=
 ⟨[.dead, .ptr 0 0 0, .dead, .own 1 0 c.b.length, .own 2 0 left.length] ++ List.replicate 50 .dead, [(0, .live ⟨8, [[.v (.int .i64 c.group), .v (.int .i64 c.sub), .v (.int .i64 c.r9), .v (.int .i64 c.L3), .v (.int .i64 c.params), .b7 false (Q5 c.D7), .b7 false (loops c.loops), .b7 false (E0 c.b)]], 0⟩), (1, .live ⟨1, H0 out, 0⟩), (2, .live ⟨1, e7 left, 0⟩)], 3⟩
def pF (l : List Int) (out : List Bool) (left : List Int) (i : Nat) : List Bool × List Int := (l.take i).foldl dQ (out, left)
theorem b29 {l : List Int} {out : List Bool} {left : List Int} {i : Nat} (h : i < l.length) : pF l out left (i + 1) = dQ (pF l out left i) (l.getD i 0) := by
 unfold pF; rw [N0 l i 0 h, List.foldl_append]; rfl
def a7W := ZZ.mk (Zq @List.length_append.{0} (Zq @List.length_cons.{0} (Zq @List.length_nil.{0} (Zq @List.length_replicate.{0} (Zq @List.length_set.{0} (Zq @L4 (Zq @M6 (Zq @aM (Zq @E6 (Zq @F8 (Zq @oW (Zq @fE (Zq @oX (Zq @u2.av.eq_1 (Zq @b8 (Zq @F7 (Zq @L9 (Zq @c9 (Zq @c5.av.eq_1 (Zq @u7 (Zq @K0 (Zq @B4 (Zq @N9 (Zq @c6 (Zq @r6 (Zq @N7 (Zq @G7 (Zq @B1 (Zq @b5 @b6)))))))))))))))))))))))))))))
def b6j := ZZ.mk (Zq @or_true (Zq @and_true (Zq @Int.sub_zero (Zq @E4 (Zq @pE (Zq @pH (Zq @Int.toNat_natCast (Zq @List.length_append.{0} (Zq @List.length_cons.{0} (Zq @List.length_nil.{0} (Zq @List.length_replicate.{0} (Zq @List.length_set.{0} (Zq @L4 (Zq @M6 (Zq @aM (Zq @E6 (Zq @F8 (Zq @oW (Zq @fE (Zq @oX (Zq @u2.av.eq_1 (Zq @b8 (Zq @F7 (Zq @L9 (Zq @c9 (Zq @c5.av.eq_1 (Zq @u7 (Zq @K0 (Zq @B4 (Zq @N9 (Zq @c6 (Zq @r6 (Zq @N7 (Zq @G7 (Zq @B1 (Zq @b5 @b6))))))))))))))))))))))))))))))))))))
theorem pB (c : Code) (hc : aV c.b) (hn : c.b.length ≤ 1000) : e8 Tryd.prog 38 [.agg c.av] (fun _ => .b7 false (H0 (reachF c.b))) (fun _ => []) := by
 have h1 := hc.1
 refine Zf Tryd.func38 Tryd.ntmps38 ?_; simp only [Code.av]
 repeat' (first | refine Za ?_ | (with_reducible first | refine Zz.mk fun N hN mk hmk => ?_ | refine Zb.mk fun N hN => ?_ | refine Zi.mk fun h => ?_ | refine ⟨fun h => ?_, fun h => ?_⟩ | exact True.intro) | (refine hN _ ?_; clear hN N) | (refine Zk hmk ?_; clear hmk mk) | refine Zt eP.d ?_ | fail)
 refine w7 (s' := rS c (aG c.b.length) [0]) (Zw [1, 3, 4] [0, 40, 80] eP.d rfl) (fQ (fun m s => ∃ out left, DI c.b out left ∧ msr (out, left) ≤ 2 * c.b.length + 1 ∧ m = msr (out, left) ∧ s = rS c out left) (msr (aG c.b.length, [0])) ⟨_, _, DI.zero hc, ?_, rfl, rfl⟩ ?_)
 · unfold msr; simp [aG]; omega
 · rintro m s ⟨out, left, D, hm, rfl, rfl⟩
   have hol : out.length = c.b.length := D.R.l
   rcases wG left with rfl | ⟨l', b, rfl⟩
   · simp only [rS, List.replicate_succ, List.replicate_zero, List.cons_append, List.nil_append, List.length_cons, List.length_nil, Nat.reduceAdd]
     have hd : out = reachF c.b := D.done hc
     rw [← hd]
     have tb : List.take c.b.length (H0 out) = H0 out := by rw [← hol]; exact fE _
     repeat' (first | refine Za ?_ | (with_reducible first | refine Zz.mk fun N hN mk hmk => ?_ | refine Zb.mk fun N hN => ?_ | refine Zi.mk fun h => ?_ | refine ⟨fun h => ?_, fun h => ?_⟩ | exact True.intro) | (refine hN _ ?_; clear hN N) | (refine Zk hmk ?_; clear hmk mk) | refine Zt (Zq a7W.d (Zq tb hol)) ?_ | fail)
   · have hl' : l'.length ≤ 10000 := by
       rw [← a7l] at hm
       have : l'.length ≤ msr (out, l') := Nat.le_add_left _ _
       omega
     obtain ⟨hb0, hbm⟩ := D.m b (by simp)
     have hbl : b.toNat < c.b.length := by
       rcases Nat.lt_or_ge b.toNat out.length with h | h
       · omega
       · rw [List.getD_eq_getElem?_getD, List.getElem?_eq_none h] at hbm; simp at hbm
     obtain ⟨t, ht⟩ : ∃ t, t = (F3 c.b b.toNat).t := ⟨_, rfl⟩
     have hs : ∀ to ∈ c8 t, 0 ≤ to ∧ to < c.b.length := by rw [ht]; exact hc.2 _ (W0 hbl)
     have ht' : (c.b.getD b.toNat B0).t = t := ht.symm
     have C1 := tQ t
     have hl2 := eU t
     simp only [u2.av] at C1
     simp only [rS, List.replicate_succ, List.replicate_zero, List.cons_append, List.nil_append, List.length_cons, List.length_nil, List.length_append, Nat.reduceAdd]
     repeat' (first | refine Za ?_ | (with_reducible first | refine Zz.mk fun N hN mk hmk => ?_ | refine Zb.mk fun N hN => ?_ | refine Zi.mk fun h => ?_ | refine ⟨fun h => ?_, fun h => ?_⟩ | exact True.intro) | refine Zc C1 ?_ | (refine hN _ ?_; clear hN N) | (refine Zk hmk ?_; clear hmk mk) | refine Zt (Zq b6j.d ht') ?_ | fail)
     refine a9P 2 l'.length rfl ?_
     simp only [xA, a3s, Nat.reduceEqDiff, if_true, if_false]
     have hD := D.pop
     rw [← ht] at hD
     have hms := a7l out l' b
     have hto : ∀ i, ∀ to ∈ (c8 t).take i, 0 ≤ to ∧ to < ((out, l') : List Bool × List Int).1.length := fun i to h => by have := hs to (List.mem_of_mem_take h); show 0 ≤ to ∧ to < (out.length : Int); omega
     have hpl : ∀ i, msr (pF (c8 t) out l' i) ≤ msr (out, l') ∧ (pF (c8 t) out l' i).1.length = out.length := fun i => vG _ _ (hto i)
     refine l9 (fun i => ⟨[.dead, .ptr 0 0 0, .dead, .own 1 0 c.b.length, .own 2 0 (pF (c8 t) out l' i).2.length, .dead, .dead, .dead, .dead, .dead, .dead, .dead, .dead, .dead, .dead, .dead, .dead, .dead, .dead, .dead, .dead, .dead, .dead, .dead, .dead, .dead, .dead, .dead, .dead, .dead, .dead, .dead, .dead, .dead, .dead, .b7 false (e7 (c8 t)), .v (.int .i64 (c8 t).length), .v (.int .i64 i), .dead, .dead, .dead, .dead, .dead, .dead, .dead, .dead, .dead, .dead, .dead, .dead, .dead, .dead, .dead, .dead, .dead], [(0, .live ⟨8, [[.v (.int .i64 c.group), .v (.int .i64 c.sub), .v (.int .i64 c.r9), .v (.int .i64 c.L3), .v (.int .i64 c.params), .b7 false (Q5 c.D7), .b7 false (loops c.loops), .b7 false (E0 c.b)]], 0⟩), (1, .live ⟨1, H0 (pF (c8 t) out l' i).1, 0⟩), (2, .live ⟨1, e7 (pF (c8 t) out l' i).2, 0⟩)], 3⟩) (c8 t).length (Zw [1,3,4,35,36,37] [0, 1, 2] (Zq b6j.d ht') ?_) ?_
     · rfl
     · intro i hi
       obtain ⟨q1, q2⟩ := hpl i
       by_cases hin : i < (c8 t).length
       · have hgo := hs _ (aE hin)
         have hps := b29 (out := out) (left := l') hin
         obtain ⟨q3, q4⟩ := hpl (i + 1)
         generalize hp : pF (c8 t) out l' i = p at *
         obtain ⟨po, pl⟩ := p
         have hq : po.length = c.b.length := q2.trans hol
         have hpl' : pl.length ≤ 10000 := by
           have : pl.length ≤ msr (po, pl) := Nat.le_add_left _ _
           omega
         repeat' (first | refine Za ?_ | (with_reducible first | refine Zz.mk fun N hN mk hmk => ?_ | refine Zb.mk fun N hN => ?_ | refine Zi.mk fun h => ?_ | refine ⟨fun h => ?_, fun h => ?_⟩ | exact True.intro) | (refine hN _ ?_; clear hN N) | (refine Zk hmk ?_; clear hmk mk) | refine Zt a7W.d ?_ | fail)
         · refine Zw [1,3,4,35,36,37] [0, 1, 131] a7W.d ?_
           rw [hps, show dQ (po, pl) ((c8 t).getD i 0) = (po.set ((c8 t).getD i 0).toNat true, pl ++ [(c8 t).getD i 0]) from by unfold dQ; rw [if_neg (by simp_all)], List.length_append]
           rfl
         · refine Zw [1,3,4,35,36,37] [0, 1, 2] a7W.d ?_
           rw [hps, show dQ (po, pl) ((c8 t).getD i 0) = (po, pl) from by unfold dQ; rw [if_pos (by simp_all)]]
           rfl
       · have e : (c8 t).length ≤ i := by omega
         have hp : pF (c8 t) out l' i = (c8 t).foldl dQ (out, l') := by unfold pF; rw [List.take_of_length_le e]
         have hrb : fF c.b b := by have := D.R.s b.toNat hbm; rwa [show ((b.toNat : Nat) : Int) = b by omega] at this
         have hdn := (DP.b1G hrb hc (c8 t) (out, l') (fun x hx => by rw [ht] at hx; exact hx) hD).done
         rw [← hp] at hdn
         repeat' (first | refine Za ?_ | (with_reducible first | refine Zz.mk fun N hN mk hmk => ?_ | refine Zb.mk fun N hN => ?_ | refine Zi.mk fun h => ?_ | refine ⟨fun h => ?_, fun h => ?_⟩ | exact True.intro) | (refine hN _ ?_; clear hN N) | (refine Zk hmk ?_; clear hmk mk) | refine Zt a7W.d ?_ | fail)
         refine ⟨msr (pF (c8 t) out l' i), _, by omega, ?_, _, _, hdn, (Nat.le_trans q1 (by omega) : msr (pF (c8 t) out l' i) ≤ 2 * c.b.length + 1), rfl, rfl⟩
         refine Zw [1, 3, 4] [0, 1, 2] a7W.d ?_
         rfl
theorem sP (l : List (List Int)) : (∀ e ∈ X1 l, ∀ x ∈ e, AV.one x = true) = True := by
 simp only [eq_iff_iff, iff_true, X1, List.mem_map]
 rintro e ⟨_, _, rfl⟩ x hx
 simp only [List.mem_cons, List.not_mem_nil, or_false] at hx
 rcases hx with rfl | rfl | rfl | rfl <;> rfl
def jE (l : List Int) (j : Nat) : Int := if j = 0 then -1 else l.getD (j - 1) 0
def rC (r : Int) (l : List Int) : Prop := ∀ k, k < l.length → jE l k < l.getD k 0 ∧ l.getD k 0 < r
instance (r : Int) (l : List Int) : Decidable (rC r l) := inferInstanceAs (Decidable (∀ k, k < l.length → jE l k < l.getD k 0 ∧ l.getD k 0 < r))
theorem qB (l : List Int) (j : Nat) : jE l (j + 1) = l.getD j 0 := by unfold jE; rw [if_neg (by omega)]; rfl
theorem b1q {r : Int} {l : List Int} (h : rC r l) : ∀ k, k < l.length → -1 < l.getD k 0 ∧ ∀ i, i < k → l.getD i 0 < l.getD k 0 := by
 intro k
 induction k with
 | zero => intro hk; have := (h 0 hk).1; exact ⟨by simpa [jE] using this, fun i hi => by omega⟩
 | succ k ih =>
   intro hk
   have h1 := (h (k + 1) hk).1
   rw [qB] at h1
   obtain ⟨h2, h3⟩ := ih (by omega)
   refine ⟨by omega, fun i hi => ?_⟩
   rcases Nat.lt_succ_iff_lt_or_eq.1 hi with h4 | rfl
   · have := h3 i h4; omega
   · exact h1
theorem bK {l : List Int} {i : Nat} (h : i < l.length) : l.getD i 0 = l[i] := by rw [List.getD_eq_getElem?_getD, List.getElem?_eq_getElem h]; rfl
theorem a1j {r : Int} {l : List Int} (h : rC r l) : K8 l := by
 refine List.pairwise_iff_getElem.2 fun i j hi hj hij => ?_
 have := (b1q h j hj).2 i hij
 rwa [bK hi, bK hj] at this
theorem b1r {r : Int} {l : List Int} (h : rC r l) : ∀ x ∈ l, 0 ≤ x ∧ x < r := by
 intro x hx
 obtain ⟨i, hi, rfl⟩ := List.mem_iff_getElem.1 hx
 have h1 := b1q h i hi
 have h2 := h i hi
 rw [bK hi] at h1 h2
 exact ⟨by omega, h2.2⟩
theorem a5K {r : Int} {l : List Int} (h : rC r l) (hr : r ≤ 64) : Y9 l := fun x hx => by have := b1r h x hx; omega
theorem iJ {l : List Int} (h : K8 l) : q9 [] l = l := K8.ext (U7 K8.nil) h fun x => by rw [K5]; simp
def kA (c : Code) (L : List (List Int)) : AV := if ∀ i, i < L.length → rC c.r9 (L.getD i []) then .Q8 [.b7 false (X1 L), .v (.bool (decide ((L.length : Int) = c.b.length)))] else .Q8 [.b7 false [], .v (.bool false)]
theorem kZ {c : Code} {L : List (List Int)} {i : Nat} (hi : i < L.length) (h : ¬ rC c.r9 (L.getD i [])) : kA c L = .Q8 [.b7 false [], .v (.bool false)] := by
 unfold kA; rw [if_neg fun hh => h (hh i hi)]
theorem b3l {L : List (List Int)} {i : Nat} {l : List Int} (h : i + 1 < L.length) (hl : l = L.getD (i + 1) []) : List.take (i + 1) (X1 (L.take (i + 1))) ++ [[.v (.int .u64 (D0 l)), .v (.int .u64 0), .v (.int .u64 0), .v (.int .u64 0)]] = X1 (L.take (i + 1 + 1)) := by
 rw [N0 L (i + 1) [] h, hl]
 unfold X1
 rw [List.map_append, List.take_of_length_le (by simp; omega)]; rfl
def b7c := ZZ.mk (Zq @Bool.and_eq_true (Zq @Code.av.eq_1 (Zq @s8 (Zq @z8 (Zq @H4 (Zq @s7 (Zq @E3 (Zq @dR (Zq @mI (Zq @o0 (Zq @aJ (Zq @sP (Zq @qJ (Zq @b8 (Zq @u7 (Zq @K0 (Zq @B4 (Zq @N9 (Zq @c6 (Zq @r6 (Zq @N7 (Zq @G7 (Zq @B1 (Zq @b5 (Zq @b6 @E9)))))))))))))))))))))))))
def mZ := ZZ.mk (Zq @Bool.and_eq_true (Zq @Code.av.eq_1 (Zq @s8 (Zq @z8 (Zq @H4 (Zq @s7 (Zq @E3 (Zq @dR (Zq @mI (Zq @o0 (Zq @aJ (Zq @sP (Zq @qJ (Zq @b8 (Zq @u7 (Zq @K0 (Zq @B4 (Zq @N9 (Zq @c6 (Zq @r6 (Zq @N7 (Zq @G7 (Zq @B1 (Zq @b5 @b6))))))))))))))))))))))))
theorem a2R (c : Code) (L : List (List Int)) (hr : c.r9 ≤ 64) (hn : c.b.length ≤ 1000) (hn1 : L.length ≤ 1000) (hn2 : ∀ i, (L.getD i []).length ≤ 1000) : e8 Tryd.prog 47 [.agg c.av, .b7 false (lists L)] (fun _ => kA c L) (fun _ => []) := by
 by_cases h0 : L.length = 0
 · have e : L = [] := List.length_eq_zero_iff.1 h0
   subst e
   have e2 : kA c [] = .Q8 [.b7 false [], .v (.bool (decide ((0 : Int) = c.b.length)))] := by unfold kA; rw [if_pos (by intro i hi; simp at hi)]; rfl
   rw [e2]
   refine Zf Tryd.func47 Tryd.ntmps47 ?_; simp only [Code.av]
   repeat' (first | refine Za ?_ | (with_reducible first | refine Zz.mk fun N hN mk hmk => ?_ | refine Zb.mk fun N hN => ?_ | refine Zi.mk fun h => ?_ | refine ⟨fun h => ?_, fun h => ?_⟩ | exact True.intro) | (guard_target =~ AK Tryd.prog _ _ _ _; refine A4 [()] ?_) | (refine hN _ ?_; clear hN N) | (refine Zk hmk ?_; clear hmk mk) | refine Zt b7c.d ?_ | fail)
   rfl
 · refine Zf Tryd.func47 Tryd.ntmps47 ?_; simp only [Code.av]
   repeat' (first | refine Za ?_ | (with_reducible first | refine Zz.mk fun N hN mk hmk => ?_ | refine Zb.mk fun N hN => ?_ | refine Zi.mk fun h => ?_ | refine ⟨fun h => ?_, fun h => ?_⟩ | exact True.intro) | (refine hN _ ?_; clear hN N) | (refine Zk hmk ?_; clear hmk mk) | refine Zt mZ.d ?_ | fail)
   refine a4E (fun i0 => ⟨[.dead, .b7 false (lists L), .ptr 0 0 0, .dead, .b7 true [], .v (.bool false), .own 1 0 (i0 + 1), .dead, .dead, .dead, .dead, .dead, .b7 false (lists L), .v (.int .i64 L.length), .v (.int .i64 ((i0 + 1 : Nat) : Int)), .dead, .dead, .dead, .dead, .dead, .dead, .dead, .dead, .dead, .dead, .dead, .dead, .dead, .dead, .dead, .dead, .dead, .dead, .dead, .dead, .dead, .dead, .dead, .dead, .dead, .dead, .dead, .dead, .dead, .dead, .dead, .dead, .dead], [(0, .live ⟨8, [[.v (.int .i64 c.group), .v (.int .i64 c.sub), .v (.int .i64 c.r9), .v (.int .i64 c.L3), .v (.int .i64 c.params), .b7 false (Q5 c.D7), .b7 false (loops c.loops), .b7 false (E0 c.b)]], 0⟩), (1, .live ⟨4, X1 (L.take (i0 + 1)), 0⟩)], 2⟩) (fun ii => Go.Ab.Z7 ((fun m => ∀ k, k < m + 1 → rC c.r9 (L.getD k [])) ii)) (L.length - 1) ?_ ?_
   · have hLl := hn2 0
     obtain ⟨l, hl⟩ : ∃ l, l = L.getD 0 [] := ⟨_, rfl⟩
     rw [← hl] at hLl
     repeat' (first | refine Za ?_ | (with_reducible first | refine Zz.mk fun N hN mk hmk => ?_ | refine Zb.mk fun N hN => ?_ | refine Zi.mk fun h => ?_ | refine ⟨fun h => ?_, fun h => ?_⟩ | exact True.intro) | (refine hN _ ?_; clear hN N) | (refine Zk hmk ?_; clear hmk mk) | refine Zt (Zq mZ.d hl.symm) ?_ | fail)
     refine M5 (fun j => ⟨[.dead, .b7 false (lists L), .ptr 0 0 0, .dead, .b7 true [], .v (.bool false), .b7 true [], .dead, .b7 false (e7 l), .v (.int .i64 (jE l j)), .dead, .dead, .b7 false (lists L), .v (.int .i64 L.length), .v (.int .i64 0), .dead, .dead, .dead, .b7 false (e7 l), .v (.int .i64 l.length), .v (.int .i64 j), .dead, .dead, .dead, .dead, .dead, .dead, .dead, .dead, .dead, .dead, .dead, .dead, .dead, .dead, .dead, .dead, .dead, .dead, .dead, .dead, .dead, .dead, .dead, .dead, .dead, .dead, .dead], [(0, .live ⟨8, [[.v (.int .i64 c.group), .v (.int .i64 c.sub), .v (.int .i64 c.r9), .v (.int .i64 c.L3), .v (.int .i64 c.params), .b7 false (Q5 c.D7), .b7 false (loops c.loops), .b7 false (E0 c.b)]], 0⟩)], 1⟩) (fun ii => Go.Ab.Z7 ((fun j => ∀ k, k < j → jE l k < l.getD k 0 ∧ l.getD k 0 < c.r9) ii)) l.length (Zw [1,2,4,5,6,8,9,12,13,14,18,19,20] [0] (Zq mZ.d hl.symm) ?_) ?_ ?_
     · rfl
     · exact ⟨fun k hk => by omega⟩
     · intro j hj hI
       have hI := hI.out
       by_cases hjl : j < l.length
       · repeat' (first | refine Za ?_ | (with_reducible first | refine Zz.mk fun N hN mk hmk => ?_ | refine Zb.mk fun N hN => ?_ | refine Zi.mk fun h => ?_ | refine ⟨fun h => ?_, fun h => ?_⟩ | exact True.intro) | (refine hN _ ?_; clear hN N) | (refine Zk hmk ?_; clear hmk mk) | refine Zt (Zq mZ.d hl.symm) ?_ | fail)
         · rw [kZ (i := 0) (by omega) (by rw [← hl]; exact fun hh => by have := hh j hjl; omega)]
         · rw [kZ (i := 0) (by omega) (by rw [← hl]; exact fun hh => by have := hh j hjl; omega)]
         · refine ⟨⟨fun k hk => ?_⟩, ?_⟩
           · rcases Nat.lt_succ_iff_lt_or_eq.1 hk with h | rfl
             · exact hI k h
             · exact ⟨by omega, by omega⟩
           · refine Zw [1,2,4,5,6,8,9,12,13,14,18,19,20] [0] (Zq mZ.d hl.symm) ?_
             rw [qB]; rfl
       · have hok : rC c.r9 l := fun k hk => hI k (by omega)
         have hr64 : Y9 l := a5K hok (by omega)
         have C := lV l hr64 (by omega)
         rw [iJ (a1j hok)] at C
         simp only [F5] at C
         repeat' (first | refine Za ?_ | (with_reducible first | refine Zz.mk fun N hN mk hmk => ?_ | refine Zb.mk fun N hN => ?_ | refine Zi.mk fun h => ?_ | refine ⟨fun h => ?_, fun h => ?_⟩ | exact True.intro) | refine Zc C ?_ | (refine hN _ ?_; clear hN N) | (refine Zk hmk ?_; clear hmk mk) | refine Zt (Zq mZ.d hl.symm) ?_ | fail)
         refine ⟨⟨fun k hk => ?_⟩, ?_⟩
         · obtain rfl : k = 0 := by omega
           rw [← hl]; exact hok
         refine Zw [1, 2, 4, 5, 6, 12, 13, 14] [0, 41] (Zq mZ.d hl.symm) ?_
         rw [show X1 (L.take (0 + 1)) = [[.v (.int .u64 (D0 l)), .v (.int .u64 0), .v (.int .u64 0), .v (.int .u64 0)]] from by rw [hl, N0 L 0 [] (by omega)]; rfl]; rfl
   · intro i0 hi0 hI0
     have hI0 := hI0.out
     by_cases hlt : i0 + 1 < L.length
     · have hLl := hn2 (i0 + 1)
       obtain ⟨l, hl⟩ : ∃ l, l = L.getD (i0 + 1) [] := ⟨_, rfl⟩
       rw [← hl] at hLl
       have hlen : (L.take (i0 + 1)).length = i0 + 1 := by rw [List.length_take]; omega
       have tk := b3l hlt hl
       repeat' (first | refine Za ?_ | (with_reducible first | refine Zz.mk fun N hN mk hmk => ?_ | refine Zb.mk fun N hN => ?_ | refine Zi.mk fun h => ?_ | refine ⟨fun h => ?_, fun h => ?_⟩ | exact True.intro) | (refine hN _ ?_; clear hN N) | (refine Zk hmk ?_; clear hmk mk) | refine Zt (Zq mZ.d (Zq hl.symm (Zq hlen tk))) ?_ | fail)
       refine M5 (fun j => ⟨[.dead, .b7 false (lists L), .ptr 0 0 0, .dead, .b7 true [], .v (.bool false), .own 1 0 (i0 + 1), .dead, .b7 false (e7 l), .v (.int .i64 (jE l j)), .dead, .dead, .b7 false (lists L), .v (.int .i64 L.length), .v (.int .i64 ((i0 + 1 : Nat) : Int)), .dead, .dead, .dead, .b7 false (e7 l), .v (.int .i64 l.length), .v (.int .i64 j), .dead, .dead, .dead, .dead, .dead, .dead, .dead, .dead, .dead, .dead, .dead, .dead, .dead, .dead, .dead, .dead, .dead, .dead, .dead, .dead, .dead, .dead, .dead, .dead, .dead, .dead, .dead], [(0, .live ⟨8, [[.v (.int .i64 c.group), .v (.int .i64 c.sub), .v (.int .i64 c.r9), .v (.int .i64 c.L3), .v (.int .i64 c.params), .b7 false (Q5 c.D7), .b7 false (loops c.loops), .b7 false (E0 c.b)]], 0⟩), (1, .live ⟨4, X1 (L.take (i0 + 1)), 0⟩)], 2⟩) (fun ii => Go.Ab.Z7 ((fun j => ∀ k, k < j → jE l k < l.getD k 0 ∧ l.getD k 0 < c.r9) ii)) l.length (Zw [1,2,4,5,6,8,9,12,13,14,18,19,20] [0, 1] (Zq mZ.d (Zq hl.symm (Zq hlen tk))) ?_) ?_ ?_
       · rfl
       · exact ⟨fun k hk => by omega⟩
       · intro j hj hI
         have hI := hI.out
         by_cases hjl : j < l.length
         · repeat' (first | refine Za ?_ | (with_reducible first | refine Zz.mk fun N hN mk hmk => ?_ | refine Zb.mk fun N hN => ?_ | refine Zi.mk fun h => ?_ | refine ⟨fun h => ?_, fun h => ?_⟩ | exact True.intro) | (refine hN _ ?_; clear hN N) | (refine Zk hmk ?_; clear hmk mk) | refine Zt (Zq mZ.d (Zq hl.symm (Zq hlen tk))) ?_ | fail)
           · rw [kZ (i := (i0 + 1)) (by omega) (by rw [← hl]; exact fun hh => by have := hh j hjl; omega)]
           · rw [kZ (i := (i0 + 1)) (by omega) (by rw [← hl]; exact fun hh => by have := hh j hjl; omega)]
           · refine ⟨⟨fun k hk => ?_⟩, ?_⟩
             · rcases Nat.lt_succ_iff_lt_or_eq.1 hk with h | rfl
               · exact hI k h
               · exact ⟨by omega, by omega⟩
             · refine Zw [1,2,4,5,6,8,9,12,13,14,18,19,20] [0, 1] (Zq mZ.d (Zq hl.symm (Zq hlen tk))) ?_
               rw [qB]; rfl
         · have hok : rC c.r9 l := fun k hk => hI k (by omega)
           have hr64 : Y9 l := a5K hok (by omega)
           have C := lV l hr64 (by omega)
           rw [iJ (a1j hok)] at C
           simp only [F5] at C
           repeat' (first | refine Za ?_ | (with_reducible first | refine Zz.mk fun N hN mk hmk => ?_ | refine Zb.mk fun N hN => ?_ | refine Zi.mk fun h => ?_ | refine ⟨fun h => ?_, fun h => ?_⟩ | exact True.intro) | refine Zc C ?_ | (refine hN _ ?_; clear hN N) | (refine Zk hmk ?_; clear hmk mk) | refine Zt (Zq mZ.d (Zq hl.symm (Zq hlen tk))) ?_ | fail)
           refine ⟨⟨fun k hk => ?_⟩, ?_⟩
           · rcases Nat.lt_succ_iff_lt_or_eq.1 hk with h | rfl
             · exact hI0 k h
             · rw [← hl]; exact hok
           refine Zw [1, 2, 4, 5, 6, 12, 13, 14] [0, 42] (Zq mZ.d (Zq hl.symm (Zq hlen tk))) ?_
           rfl
     · have e1 : L.take (i0 + 1) = L := List.take_of_length_le (by omega)
       have e2 : i0 + 1 = L.length := by omega
       rw [e1, e2]
       dsimp only
       repeat' (first | refine Za ?_ | (with_reducible first | refine Zz.mk fun N hN mk hmk => ?_ | refine Zb.mk fun N hN => ?_ | refine Zi.mk fun h => ?_ | refine ⟨fun h => ?_, fun h => ?_⟩ | exact True.intro) | (refine hN _ ?_; clear hN N) | (refine Zk hmk ?_; clear hmk mk) | refine Zt mZ.d ?_ | fail)
       unfold kA
       rw [if_pos fun i hi => hI0 i (by omega)]
end Go.Proofs.YtfccigmfcpimgaaDoor
end
