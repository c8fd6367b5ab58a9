/- Own work (by an AI agent; no person has read it): part of a proof of the seat YtfccigmfcpimgaaDoor. -/
import Derived.Test.YtfccigmfcpimgaaDoorXj
set_option linter.unusedSimpArgs false
set_option linter.unusedVariables false
set_option maxRecDepth 100000
set_option maxHeartbeats 10000000
section
namespace Go.Proofs.YtfccigmfcpimgaaDoor
open Go.Ab
theorem a9f (n : Nat) : List.replicate n [AV.b7 true []] = T1 n (fun _ => []) := a4Y n
theorem b1M (n : Nat) : List.replicate n [AV.v (.int .u64 0), .v (.int .u64 0), .v (.int .u64 0), .v (.int .u64 0)] = X1 (aB n) := by
 unfold X1 aB; rw [List.map_replicate]; rfl
def qS (T : List Int) : AV := if T = [] then .b7 true [] else .own 5 0 T.length
def a4c (T : List Int) : List Row := if T = [] then [] else [⟨1, e7 T, 0⟩]
noncomputable def p1 (c : Code) (F : Nat → List Int) (T : List Int) (i : Nat) : LS :=
 ⟨[.dead, .ptr 0 0 0, .ptr 1 0 0, .v (.int .i64 c.b.length), .own 2 0 c.b.length, .own 3 0 c.b.length, .b7 false (H0 (reachF c.b)), .own 4 0 c.b.length, qS T] ++ List.replicate 18 .dead ++ [.v (.int .i64 c.b.length), .v (.int .i64 i)] ++ List.replicate 112 .dead, j3 0 ([(⟨8, [[.v (.int .i64 c.group), .v (.int .i64 c.sub), .v (.int .i64 c.r9), .v (.int .i64 c.L3), .v (.int .i64 c.params), .b7 false (Q5 c.D7), .b7 false (loops c.loops), .b7 false (E0 c.b)]], 0⟩ : Row), ⟨2, [[.b7 true [], .b7 true []]], 0⟩, ⟨4, X1 (aB c.b.length), 0⟩, ⟨4, X1 (aB c.b.length), 0⟩, ⟨1, T1 c.b.length F, 0⟩] ++ a4c T) ++ tW c.b.length F, 200⟩
noncomputable def q1 (c : Code) (F : Nat → List Int) (T : List Int) (i : Nat) (l : List Int) (j : Nat) : LS :=
 ⟨[.dead, .ptr 0 0 0, .ptr 1 0 0, .v (.int .i64 c.b.length), .own 2 0 c.b.length, .own 3 0 c.b.length, .b7 false (H0 (reachF c.b)), .own 4 0 c.b.length, .own 5 0 T.length, .v (.int .i64 i)] ++ List.replicate 17 .dead ++ [.v (.int .i64 c.b.length), .v (.int .i64 i)] ++ List.replicate 17 .dead ++ [.b7 false (e7 l), .v (.int .i64 l.length), .v (.int .i64 j)] ++ List.replicate 92 .dead, j3 0 [(⟨8, [[.v (.int .i64 c.group), .v (.int .i64 c.sub), .v (.int .i64 c.r9), .v (.int .i64 c.L3), .v (.int .i64 c.params), .b7 false (Q5 c.D7), .b7 false (loops c.loops), .b7 false (E0 c.b)]], 0⟩ : Row), ⟨2, [[.b7 true [], .b7 true []]], 0⟩, ⟨4, X1 (aB c.b.length), 0⟩, ⟨4, X1 (aB c.b.length), 0⟩, ⟨1, T1 c.b.length F, 0⟩, ⟨1, e7 T, 0⟩] ++ tW c.b.length F, 200⟩
theorem a0d (I : List (List Int)) (h : 0 < I.length) : lists (I.take (0 + 1)) = [[.b7 false (e7 (I.getD 0 []))]] := by
 cases I with
 | nil => simp at h
 | cons x I => rfl
theorem a0f (I : List (List Int)) (i : Nat) (h : i < I.length) : lists (I.take i) ++ [[.b7 false (e7 (I.getD i []))]] = lists (I.take (i + 1)) := by
 rw [N0 I i [] h]; unfold lists; rw [List.map_append]; rfl
theorem a3z (l : List (List Int)) : (∀ e ∈ lists l, ∀ x ∈ e, AV.one x = true) = True := by
 simp only [eq_iff_iff, iff_true, lists, List.mem_map]
 rintro e ⟨_, _, rfl⟩ x hx
 simp only [List.mem_cons, List.not_mem_nil, or_false] at hx
 subst hx; rfl
theorem a4h (l : List (List Int)) (k : Nat) (v : List Int) : (X1 l).modify k (fun e => u0 e 0 [.v (.int .u64 (D0 v)), .v (.int .u64 0), .v (.int .u64 0), .v (.int .u64 0)]) = X1 (l.set k v) := by
 apply List.ext_getElem?
 intro j
 rw [List.getElem?_modify]
 simp only [X1, List.getElem?_map, List.getElem?_set]
 by_cases h : k = j
 · subst h
   by_cases h2 : k < l.length
   · simp [h2, u0]
   · simp [h2]
 · simp [h]
def f2 (c : Code) (Fr I O : List (List Int)) (T : List Int) : LS :=
 ⟨[.dead, .ptr 0 0 0, .ptr 1 0 0, .v (.int .i64 c.b.length), .own 2 0 c.b.length, .own 3 0 c.b.length, .dead, .b7 false (lists Fr), .own 4 0 T.length] ++ List.replicate 132 .dead,
   j3 0 [(⟨8, [[.v (.int .i64 c.group), .v (.int .i64 c.sub), .v (.int .i64 c.r9), .v (.int .i64 c.L3), .v (.int .i64 c.params), .b7 false (Q5 c.D7), .b7 false (loops c.loops), .b7 false (E0 c.b)]], 0⟩ : Row), ⟨2, [[.b7 true [], .b7 true []]], 0⟩, ⟨4, X1 I, 0⟩, ⟨4, X1 O, 0⟩, ⟨1, e7 T, 0⟩], 5⟩
def N1 := ZZ.mk (Zq @a9f (Zq @b1M (Zq @dR (Zq @o0 (Zq @aJ (Zq @mI (Zq @tT (Zq @b0c (Zq @zN (Zq @a4X (Zq @b8 (Zq @F7 (Zq @L9 (Zq @c9 (Zq @c5.av.eq_1 (Zq @u2.av.eq_1 (Zq @L4 (Zq @M6 (Zq @aM (Zq @E6 (Zq @F8 (Zq @u7 (Zq @B4 (Zq @N9 (Zq @c6 (Zq @r6 (Zq @N7 (Zq @G7 (Zq @B1 (Zq @List.append_assoc.{0} (Zq @Ab.lookup_append (Zq @E1 (Zq @x6 (Zq @D6 (Zq @a7O (Zq @pK (Zq @b2i (Zq @xD (Zq @a5s (Zq @a7P (Zq @D3 (Zq @B5 (Zq @G6 (Zq @b5 @b6))))))))))))))))))))))))))))))))))))))))))))
def zF := ZZ.mk (Zq @dR (Zq @lA (Zq @o0 (Zq @aJ (Zq @mI (Zq @sP (Zq @a4h (Zq @s8 (Zq @z8 (Zq @H4 (Zq @s7 (Zq @E3 (Zq @a3z (Zq @b8 (Zq @F7 (Zq @L9 (Zq @c9 (Zq @L4 (Zq @M6 (Zq @aM (Zq @E6 (Zq @F8 (Zq @u7 (Zq @B4 (Zq @N9 (Zq @c6 (Zq @r6 (Zq @N7 (Zq @G7 (Zq @nN (Zq @B1 (Zq @pH (Zq @pE (Zq @E4 (Zq @b5 @b6)))))))))))))))))))))))))))))))))))
def a2C := ZZ.mk (Zq @b3W (Zq @F5.eq_1 (Zq @c5.av.eq_1 (Zq @u2.av.eq_1 (Zq @or_true (Zq @and_true (Zq @Int.sub_zero (Zq @dR (Zq @lA (Zq @o0 (Zq @aJ (Zq @mI (Zq @sP (Zq @a4h (Zq @s8 (Zq @z8 (Zq @H4 (Zq @s7 (Zq @E3 (Zq @a3z (Zq @b8 (Zq @F7 (Zq @L9 (Zq @c9 (Zq @L4 (Zq @M6 (Zq @aM (Zq @E6 (Zq @F8 (Zq @u7 (Zq @B4 (Zq @N9 (Zq @c6 (Zq @r6 (Zq @N7 (Zq @G7 (Zq @nN (Zq @B1 (Zq @pH (Zq @pE (Zq @E4 (Zq @b5 @b6))))))))))))))))))))))))))))))))))))))))))
theorem gO (c : Code) (hc : z6 c) : e8 Tryd.prog 11 [.agg c.av] (fun _ => .agg [.b7 false (lists (liveF c).1), .b7 false (lists (liveF c).2)]) (fun _ => []) := by
 have hr := hc.r
 have hn := hc.n
 have hrl := M8 c.b
 have C3 := pB c hc.succ (by omega)
 simp only [Code.av] at C3
 refine Zf Tryd.func11 Tryd.ntmps11 ?_; simp only [Code.av]
 repeat' (first | refine Za ?_ | (with_reducible first | refine Zz.mk fun N hN mk hmk => ?_ | refine Zb.mk fun N hN => ?_ | refine Zi.mk fun h => ?_ | refine ⟨fun h => ?_, fun h => ?_⟩ | exact True.intro) | refine Zc C3 ?_ | (refine hN _ ?_; clear hN N) | (refine Zk hmk ?_; clear hmk mk) | refine Zt (Zq N1.d hrl) ?_ | fail)
 refine l9 (fun i => p1 c (fromI c i) (todoI c i) i) c.b.length ?_ ?_
 · generalize hF0 : (fun _ : Nat => ([] : List Int)) = F
   obtain ⟨r, hr⟩ : ∃ r : Nat → Option Nat, r = fun id => match s5 [0, 8, 56, 72, 128] 0 id with | some j => some j | none => if 100 ≤ id ∧ id < 100 + c.b.length ∧ F (id - 100) ≠ [] then some id else none := ⟨_, rfl⟩
   have r0 : r 0 = some 0 := by rw [hr]; rfl
   have r1 : r 8 = some 1 := by rw [hr]; rfl
   have r2 : r 56 = some 2 := by rw [hr]; rfl
   have r3 : r 72 = some 3 := by rw [hr]; rfl
   have r4 : r 128 = some 4 := by rw [hr]; rfl
   have hni : ∀ y, y < c.b.length → s5 [0, 8, 56, 72, 128] 0 (100 + y) = none := fun y hy => by simp (disch := omega) only [J7, M9, G6, if_false]
   have hm := cU (n := c.b.length) (F := F) (r := r) (fun y hy hF => by rw [hr]; simp only [hni y hy]; rw [if_pos ⟨by omega, by omega, by rw [Nat.add_sub_cancel_left]; exact hF⟩])
   have hpl := aN c.b.length F hn.1
   refine Z6 (eS (t' := _) (rows := _) (F := F) [1, 2, 3, 4, 5, 6, 7, 8, 27, 28] [0, 8, 56, 72, 128] r hr (by decide) (fun id h => ?_) (by decide) (by omega) (by simp (disch := omega) only [r0, r1, r2, r3, r4, hpl, hm, D3, B5, G6, E1, x6, D6, Ab.lookup_append, o0, c6, N1.d, hrl, c7, n3, a7, e6, m8, A6, AV.plain, Nat.reduceBEq, ↓reduceIte, Nat.reduceEqDiff, Nat.reduceAdd, sC]; rfl) (by simp (disch := omega) only [r0, r1, r2, r3, r4, hpl, hm, D3, B5, G6, E1, x6, D6, Ab.lookup_append, o0, c6, N1.d, hrl, c7, n3, a7, e6, m8, A6, AV.plain, Nat.reduceBEq, ↓reduceIte, Nat.reduceEqDiff, Nat.reduceAdd, sC]; rfl) (fun y hy hF => by rw [← hF0] at hF; exact absurd rfl hF)) ?_
   · simp only [List.mem_cons, List.not_mem_nil, or_false] at h; omega
   · rw [← hF0]; rfl
 · intro i hi
   by_cases hin : i < c.b.length
   · cases hre : (reachF c.b).getD i false with
     | false =>
       rw [b0v hre, b2d hre]
       generalize fromI c i = F
       generalize todoI c i = T
       have hpl := aN c.b.length F hn.1
       by_cases hT : T = []
       · simp only [p1, qS, a4c, if_pos hT, List.replicate_succ, List.replicate_zero, List.cons_append, List.nil_append, List.append_nil, j3, Nat.reduceAdd]
         repeat' (first | refine Za ?_ | (with_reducible first | refine Zz.mk fun N hN mk hmk => ?_ | refine Zb.mk fun N hN => ?_ | refine Zi.mk fun h => ?_ | refine ⟨fun h => ?_, fun h => ?_⟩ | exact True.intro) | (refine hN _ ?_; clear hN N) | (refine Zk hmk ?_; clear hmk mk) | refine Zt (Zq N1.d (Zq hre hrl)) ?_ | fail)
         obtain ⟨r, hr⟩ : ∃ r : Nat → Option Nat, r = fun id => match s5 [0, 1, 2, 3, 4] 0 id with | some j => some j | none => if 100 ≤ id ∧ id < 100 + c.b.length ∧ F (id - 100) ≠ [] then some id else none := ⟨_, rfl⟩
         have r0 : r 0 = some 0 := by rw [hr]; rfl
         have r1 : r 1 = some 1 := by rw [hr]; rfl
         have r2 : r 2 = some 2 := by rw [hr]; rfl
         have r3 : r 3 = some 3 := by rw [hr]; rfl
         have r4 : r 4 = some 4 := by rw [hr]; rfl
         have hni : ∀ y, y < c.b.length → s5 [0, 1, 2, 3, 4] 0 (100 + y) = none := fun y hy => by simp (disch := omega) only [J7, M9, G6, if_false]
         have hm := cU (n := c.b.length) (F := F) (r := r) (fun y hy hF => by rw [hr]; simp only [hni y hy]; rw [if_pos ⟨by omega, by omega, by rw [Nat.add_sub_cancel_left]; exact hF⟩])
         have hpl := aN c.b.length F hn.1
         refine Z6 (eS (t' := _) (rows := _) (F := F) [1, 2, 3, 4, 5, 6, 7, 8, 27, 28] [0, 1, 2, 3, 4] r hr (by decide) (fun id h => ?_) (by decide) (by omega) (by simp (disch := omega) only [r0, r1, r2, r3, r4, hpl, hm, D3, B5, G6, E1, x6, D6, Ab.lookup_append, o0, c6, N1.d, hre, hrl, c7, n3, a7, e6, m8, A6, AV.plain, Nat.reduceBEq, ↓reduceIte, Nat.reduceEqDiff, Nat.reduceAdd, sC]; rfl) (by simp (disch := omega) only [r0, r1, r2, r3, r4, hpl, hm, D3, B5, G6, E1, x6, D6, Ab.lookup_append, o0, c6, N1.d, hre, hrl, c7, n3, a7, e6, m8, A6, AV.plain, Nat.reduceBEq, ↓reduceIte, Nat.reduceEqDiff, Nat.reduceAdd, sC]; rfl) (fun y hy hF => by simp (disch := omega) only [LS.hf, List.lookup_cons, D3, Ab.lookup_append, x6, Option.getD_some])) ?_
         · simp only [List.mem_cons, List.not_mem_nil, or_false] at h; omega
         · rfl
       · simp only [p1, qS, a4c, if_neg hT, List.replicate_succ, List.replicate_zero, List.cons_append, List.nil_append, List.append_nil, j3, Nat.reduceAdd]
         repeat' (first | refine Za ?_ | (with_reducible first | refine Zz.mk fun N hN mk hmk => ?_ | refine Zb.mk fun N hN => ?_ | refine Zi.mk fun h => ?_ | refine ⟨fun h => ?_, fun h => ?_⟩ | exact True.intro) | (refine hN _ ?_; clear hN N) | (refine Zk hmk ?_; clear hmk mk) | refine Zt (Zq N1.d (Zq hre hrl)) ?_ | fail)
         obtain ⟨r, hr⟩ : ∃ r : Nat → Option Nat, r = fun id => match s5 [0, 1, 2, 3, 4, 5] 0 id with | some j => some j | none => if 100 ≤ id ∧ id < 100 + c.b.length ∧ F (id - 100) ≠ [] then some id else none := ⟨_, rfl⟩
         have r0 : r 0 = some 0 := by rw [hr]; rfl
         have r1 : r 1 = some 1 := by rw [hr]; rfl
         have r2 : r 2 = some 2 := by rw [hr]; rfl
         have r3 : r 3 = some 3 := by rw [hr]; rfl
         have r4 : r 4 = some 4 := by rw [hr]; rfl
         have r5 : r 5 = some 5 := by rw [hr]; rfl
         have hni : ∀ y, y < c.b.length → s5 [0, 1, 2, 3, 4, 5] 0 (100 + y) = none := fun y hy => by simp (disch := omega) only [J7, M9, G6, if_false]
         have hm := cU (n := c.b.length) (F := F) (r := r) (fun y hy hF => by rw [hr]; simp only [hni y hy]; rw [if_pos ⟨by omega, by omega, by rw [Nat.add_sub_cancel_left]; exact hF⟩])
         have hpl := aN c.b.length F hn.1
         refine Z6 (eS (t' := _) (rows := _) (F := F) [1, 2, 3, 4, 5, 6, 7, 8, 27, 28] [0, 1, 2, 3, 4, 5] r hr (by decide) (fun id h => ?_) (by decide) (by omega) (by simp (disch := omega) only [r0, r1, r2, r3, r4, r5, hpl, hm, D3, B5, G6, E1, x6, D6, Ab.lookup_append, o0, c6, N1.d, hre, hrl, c7, n3, a7, e6, m8, A6, AV.plain, Nat.reduceBEq, ↓reduceIte, Nat.reduceEqDiff, Nat.reduceAdd, sC]; rfl) (by simp (disch := omega) only [r0, r1, r2, r3, r4, r5, hpl, hm, D3, B5, G6, E1, x6, D6, Ab.lookup_append, o0, c6, N1.d, hre, hrl, c7, n3, a7, e6, m8, A6, AV.plain, Nat.reduceBEq, ↓reduceIte, Nat.reduceEqDiff, Nat.reduceAdd, sC]; rfl) (fun y hy hF => by simp (disch := omega) only [LS.hf, List.lookup_cons, D3, Ab.lookup_append, x6, Option.getD_some])) ?_
         · simp only [List.mem_cons, List.not_mem_nil, or_false] at h; omega
         · rfl
     | true =>
       obtain ⟨t, ht⟩ : ∃ t, t = (F3 c.b i).t := ⟨_, rfl⟩
       have ht' : (c.b.getD i B0).t = t := ht.symm
       have hs : ∀ to ∈ c8 t, 0 ≤ to ∧ to < c.b.length := by rw [ht]; exact hc.succ.2 _ (W0 hin)
       have C1 := tQ t
       have hl2 := eU t
       simp only [u2.av] at C1
       rw [a9n hre]
       have hFi := a8q (c := c) (i := i) hre (j := (c8 t).length) (by rw [ht]; exact Nat.le_refl _)
       rw [← ht] at hFi
       rw [← hFi]
       have h0 := a5g c (c8 t) i
       rw [← h0]
       have hTl := a0C c i
       generalize todoI c i = T at *
       obtain ⟨SI, hSI⟩ : ∃ s, s = p1 c (fromJ c (c8 t) i (c8 t).length) (T ++ [(i : Int)]) (i + 1) := ⟨_, rfl⟩
       rw [← hSI]
       obtain ⟨F0, hF0⟩ : ∃ F, F = fromJ c (c8 t) i 0 := ⟨_, rfl⟩
       rw [← hF0]
       by_cases hT : T = []
       · simp only [p1, qS, a4c, if_pos hT, List.replicate_succ, List.replicate_zero, List.cons_append, List.nil_append, List.append_nil, j3, Nat.reduceAdd]
         repeat' (first | refine Za ?_ | (with_reducible first | refine Zz.mk fun N hN mk hmk => ?_ | refine Zb.mk fun N hN => ?_ | refine Zi.mk fun h => ?_ | refine ⟨fun h => ?_, fun h => ?_⟩ | exact True.intro) | refine Zc C1 ?_ | (refine hN _ ?_; clear hN N) | (refine Zk hmk ?_; clear hmk mk) | refine Zt (Zq N1.d (Zq hre (Zq hrl ht'))) ?_ | fail)
         refine w7 (s' := q1 c (fromJ c (c8 t) i 0) (T ++ [(i : Int)]) i (c8 t) 0) ?_ ?_
         · skip
           obtain ⟨r, hr⟩ : ∃ r : Nat → Option Nat, r = fun id => match s5 [0, 1, 2, 3, 4, 288] 0 id with | some j => some j | none => if 100 ≤ id ∧ id < 100 + c.b.length ∧ F0 (id - 100) ≠ [] then some id else none := ⟨_, rfl⟩
           have r0 : r 0 = some 0 := by rw [hr]; rfl
           have r1 : r 1 = some 1 := by rw [hr]; rfl
           have r2 : r 2 = some 2 := by rw [hr]; rfl
           have r3 : r 3 = some 3 := by rw [hr]; rfl
           have r4 : r 4 = some 4 := by rw [hr]; rfl
           have r5 : r 288 = some 5 := by rw [hr]; rfl
           have hni : ∀ y, y < c.b.length → s5 [0, 1, 2, 3, 4, 288] 0 (100 + y) = none := fun y hy => by simp (disch := omega) only [J7, M9, G6, if_false]
           have hm := cU (n := c.b.length) (F := F0) (r := r) (fun y hy hF => by rw [hr]; simp only [hni y hy]; rw [if_pos ⟨by omega, by omega, by rw [Nat.add_sub_cancel_left]; exact hF⟩])
           have hpl := aN c.b.length F0 hn.1
           refine Z6 (eS (t' := _) (rows := _) (F := F0) [1, 2, 3, 4, 5, 6, 7, 8, 9, 27, 28, 46, 47, 48] [0, 1, 2, 3, 4, 288] r hr (by decide) (fun id h => ?_) (by decide) (by omega) (by simp (disch := omega) only [r0, r1, r2, r3, r4, r5, hpl, hm, D3, B5, G6, E1, x6, D6, Ab.lookup_append, o0, c6, N1.d, hre, hrl, ht', c7, n3, a7, e6, m8, A6, AV.plain, Nat.reduceBEq, ↓reduceIte, Nat.reduceEqDiff, Nat.reduceAdd, sC]; rfl) (by simp (disch := omega) only [r0, r1, r2, r3, r4, r5, hpl, hm, D3, B5, G6, E1, x6, D6, Ab.lookup_append, o0, c6, N1.d, hre, hrl, ht', c7, n3, a7, e6, m8, A6, AV.plain, Nat.reduceBEq, ↓reduceIte, Nat.reduceEqDiff, Nat.reduceAdd, sC]; rfl) (fun y hy hF => by simp (disch := omega) only [LS.hf, List.lookup_cons, D3, Ab.lookup_append, x6, Option.getD_some])) ?_
           · simp only [List.mem_cons, List.not_mem_nil, or_false] at h; omega
           · rw [hF0, hT]; rfl
         · skip
           have hT' : (T ++ [(i : Int)]).length ≤ 30 := by simp; omega
           have hTn : T ++ [(i : Int)] ≠ [] := by simp
           generalize T ++ [(i : Int)] = T' at *
           refine l9 (fun j => q1 c (fromJ c (c8 t) i j) T' i (c8 t) j) (c8 t).length (Z6 (fun _ _ _ ρ _ _ R => ⟨ρ, R⟩) rfl) ?_
           intro j hj
           by_cases hjn : j < (c8 t).length
           · have hgo := hs _ (aE hjn)
             obtain ⟨z, hzz⟩ : ∃ z : Nat, (c8 t).getD j 0 = z := ⟨((c8 t).getD j 0).toNat, by omega⟩
             rw [tY (wJ t) hjn hgo.1, hzz, Int.toNat_natCast]
             have hz : z < c.b.length := by omega
             have hFl := zT c (c8 t) i j z
             generalize fromJ c (c8 t) i j = F at *
             obtain ⟨SJ, hSJ⟩ : ∃ s, s = q1 c (aU F z (F z ++ [(i : Int)])) T' i (c8 t) (j + 1) := ⟨_, rfl⟩
             rw [← hSJ]
             by_cases hF : F z = []
             · have hcz : X9 z (F z) = .b7 true [] := by unfold X9; rw [if_pos hF]
               simp only [q1, List.replicate_succ, List.replicate_zero, List.cons_append, List.nil_append, List.append_nil, j3, Nat.reduceAdd]
               repeat' (first | refine Za ?_ | (with_reducible first | refine Zz.mk fun N hN mk hmk => ?_ | refine Zb.mk fun N hN => ?_ | refine Zi.mk fun h => ?_ | refine ⟨fun h => ?_, fun h => ?_⟩ | exact True.intro) | (refine hN _ ?_; clear hN N) | (refine Zk hmk ?_; clear hmk mk) | refine Zt (Zq N1.d (Zq hzz (Zq hcz (Zq hre (Zq hrl ht'))))) ?_ | fail)
               obtain ⟨r, hr⟩ : ∃ r : Nat → Option Nat, r = fun id => match s5 [0, 1, 2, 3, 4, 5] 0 id with | some j => some j | none => if id = 296 then some (100 + z) else if 100 ≤ id ∧ id < 100 + c.b.length ∧ F (id - 100) ≠ [] ∧ id ≠ 100 + z then some id else none := ⟨_, rfl⟩
               have r0 : r 0 = some 0 := by rw [hr]; rfl
               have r1 : r 1 = some 1 := by rw [hr]; rfl
               have r2 : r 2 = some 2 := by rw [hr]; rfl
               have r3 : r 3 = some 3 := by rw [hr]; rfl
               have r4 : r 4 = some 4 := by rw [hr]; rfl
               have r5 : r 5 = some 5 := by rw [hr]; rfl
               have hni : ∀ y, y < c.b.length → s5 [0, 1, 2, 3, 4, 5] 0 (100 + y) = none := fun y hy => by simp (disch := omega) only [J7, M9, G6, if_false]
               have hrx : r 296 = some (100 + z) := by rw [hr]; rfl
               have hro : ∀ y, y < c.b.length → y ≠ z → F y ≠ [] → r (100 + y) = some (100 + y) := fun y hy hyz hF => by rw [hr]; simp only [hni y hy]; rw [if_neg (by omega), if_pos ⟨by omega, by omega, by rw [Nat.add_sub_cancel_left]; exact hF, by omega⟩]
               have hm := iP (v := (i : Int)) hz hrx hro
               have hpl := kJ c.b.length F z 296 ((F z).length + 1) hz
               simp only [hF, List.length_nil, Nat.zero_add] at hm hpl
               refine Z6 (nJ (t' := _) (rows := _) (x := 296) (z := z) (F := F) (v := (i : Int)) [1, 2, 3, 4, 5, 6, 7, 8, 9, 27, 28, 46, 47, 48] [0, 1, 2, 3, 4, 5] r hr (by decide) (fun id h => ?_) (by decide) ⟨by omega, by decide⟩ hz (by omega) (by simp (disch := omega) only [r0, r1, r2, r3, r4, r5, hpl, hm, D3, B5, G6, E1, x6, D6, Ab.lookup_append, o0, c6, N1.d, hzz, hcz, hre, hrl, ht', c7, n3, a7, e6, m8, A6, AV.plain, Nat.reduceBEq, ↓reduceIte, Nat.reduceEqDiff, Nat.reduceAdd, sC]; rfl) (by simp (disch := omega) only [r0, r1, r2, r3, r4, r5, hpl, hm, D3, B5, G6, E1, x6, D6, Ab.lookup_append, o0, c6, N1.d, hzz, hcz, hre, hrl, ht', c7, n3, a7, e6, m8, A6, AV.plain, Nat.reduceBEq, ↓reduceIte, Nat.reduceEqDiff, Nat.reduceAdd, sC]; rfl) (by first | (rw [hF]; simp (disch := omega) only [LS.hf, List.lookup_cons, List.lookup_nil, D3, B5, Nat.reduceBEq, Ab.lookup_append, E1, x6, D6, Option.getD_some, beq_self_eq_true]; rfl) | simp (disch := omega) only [LS.hf, List.lookup_cons, List.lookup_nil, D3, B5, Nat.reduceBEq, Ab.lookup_append, E1, x6, D6, Option.getD_some, beq_self_eq_true]) (fun y hy hyz => by simp (disch := omega) only [LS.hf, List.lookup_cons, List.lookup_nil, D3, B5, Nat.reduceBEq, Ab.lookup_append, x6, nH, hyz, if_false, Option.getD_some])) ?_
               · simp only [List.mem_cons, List.not_mem_nil, or_false] at h; omega
               · rw [hSJ, hF]; rfl
             · have hcz : X9 z (F z) = .own (100 + z) 0 (F z).length := by unfold X9; rw [if_neg hF]
               have hrz : fJ (F z) = .live ⟨1, e7 (F z), 0⟩ := by unfold fJ; rw [if_neg hF]
               simp only [q1, List.replicate_succ, List.replicate_zero, List.cons_append, List.nil_append, List.append_nil, j3, Nat.reduceAdd]
               repeat' (first | refine Za ?_ | (with_reducible first | refine Zz.mk fun N hN mk hmk => ?_ | refine Zb.mk fun N hN => ?_ | refine Zi.mk fun h => ?_ | refine ⟨fun h => ?_, fun h => ?_⟩ | exact True.intro) | (refine hN _ ?_; clear hN N) | (refine Zk hmk ?_; clear hmk mk) | refine Zt (Zq N1.d (Zq hzz (Zq hcz (Zq hrz (Zq hre (Zq hrl ht')))))) ?_ | fail)
               obtain ⟨r, hr⟩ : ∃ r : Nat → Option Nat, r = fun id => match s5 [0, 1, 2, 3, 4, 5] 0 id with | some j => some j | none => if id = 296 then some (100 + z) else if 100 ≤ id ∧ id < 100 + c.b.length ∧ F (id - 100) ≠ [] ∧ id ≠ 100 + z then some id else none := ⟨_, rfl⟩
               have r0 : r 0 = some 0 := by rw [hr]; rfl
               have r1 : r 1 = some 1 := by rw [hr]; rfl
               have r2 : r 2 = some 2 := by rw [hr]; rfl
               have r3 : r 3 = some 3 := by rw [hr]; rfl
               have r4 : r 4 = some 4 := by rw [hr]; rfl
               have r5 : r 5 = some 5 := by rw [hr]; rfl
               have hni : ∀ y, y < c.b.length → s5 [0, 1, 2, 3, 4, 5] 0 (100 + y) = none := fun y hy => by simp (disch := omega) only [J7, M9, G6, if_false]
               have hrx : r 296 = some (100 + z) := by rw [hr]; rfl
               have hro : ∀ y, y < c.b.length → y ≠ z → F y ≠ [] → r (100 + y) = some (100 + y) := fun y hy hyz hF => by rw [hr]; simp only [hni y hy]; rw [if_neg (by omega), if_pos ⟨by omega, by omega, by rw [Nat.add_sub_cancel_left]; exact hF, by omega⟩]
               have hm := iP (v := (i : Int)) hz hrx hro
               have hpl := kJ c.b.length F z 296 ((F z).length + 1) hz
               refine Z6 (nJ (t' := _) (rows := _) (x := 296) (z := z) (F := F) (v := (i : Int)) [1, 2, 3, 4, 5, 6, 7, 8, 9, 27, 28, 46, 47, 48] [0, 1, 2, 3, 4, 5] r hr (by decide) (fun id h => ?_) (by decide) ⟨by omega, by decide⟩ hz (by omega) (by simp (disch := omega) only [r0, r1, r2, r3, r4, r5, hpl, hm, D3, B5, G6, E1, x6, D6, Ab.lookup_append, o0, c6, N1.d, hzz, hcz, hrz, hre, hrl, ht', c7, n3, a7, e6, m8, A6, AV.plain, Nat.reduceBEq, ↓reduceIte, Nat.reduceEqDiff, Nat.reduceAdd, sC]; rfl) (by simp (disch := omega) only [r0, r1, r2, r3, r4, r5, hpl, hm, D3, B5, G6, E1, x6, D6, Ab.lookup_append, o0, c6, N1.d, hzz, hcz, hrz, hre, hrl, ht', c7, n3, a7, e6, m8, A6, AV.plain, Nat.reduceBEq, ↓reduceIte, Nat.reduceEqDiff, Nat.reduceAdd, sC]; rfl) (by first | (rw [hF]; simp (disch := omega) only [LS.hf, List.lookup_cons, List.lookup_nil, D3, B5, Nat.reduceBEq, Ab.lookup_append, E1, x6, D6, Option.getD_some, beq_self_eq_true]; rfl) | simp (disch := omega) only [LS.hf, List.lookup_cons, List.lookup_nil, D3, B5, Nat.reduceBEq, Ab.lookup_append, E1, x6, D6, Option.getD_some, beq_self_eq_true]) (fun y hy hyz => by simp (disch := omega) only [LS.hf, List.lookup_cons, List.lookup_nil, D3, B5, Nat.reduceBEq, Ab.lookup_append, x6, nH, hyz, if_false, Option.getD_some])) ?_
               · simp only [List.mem_cons, List.not_mem_nil, or_false] at h; omega
               · rw [hSJ]; rfl
           · have e : j = (c8 t).length := by omega
             rw [e]
             rw [hFi] at hSI
             rw [hFi]
             generalize fromI c (i + 1) = F at *
             simp only [q1, List.replicate_succ, List.replicate_zero, List.cons_append, List.nil_append, List.append_nil, j3, Nat.reduceAdd]
             repeat' (first | refine Za ?_ | (with_reducible first | refine Zz.mk fun N hN mk hmk => ?_ | refine Zb.mk fun N hN => ?_ | refine Zi.mk fun h => ?_ | refine ⟨fun h => ?_, fun h => ?_⟩ | exact True.intro) | (refine hN _ ?_; clear hN N) | (refine Zk hmk ?_; clear hmk mk) | refine Zt (Zq N1.d (Zq hre (Zq hrl ht'))) ?_ | fail)
             obtain ⟨r, hr⟩ : ∃ r : Nat → Option Nat, r = fun id => match s5 [0, 1, 2, 3, 4, 5] 0 id with | some j => some j | none => if 100 ≤ id ∧ id < 100 + c.b.length ∧ F (id - 100) ≠ [] then some id else none := ⟨_, rfl⟩
             have r0 : r 0 = some 0 := by rw [hr]; rfl
             have r1 : r 1 = some 1 := by rw [hr]; rfl
             have r2 : r 2 = some 2 := by rw [hr]; rfl
             have r3 : r 3 = some 3 := by rw [hr]; rfl
             have r4 : r 4 = some 4 := by rw [hr]; rfl
             have r5 : r 5 = some 5 := by rw [hr]; rfl
             have hni : ∀ y, y < c.b.length → s5 [0, 1, 2, 3, 4, 5] 0 (100 + y) = none := fun y hy => by simp (disch := omega) only [J7, M9, G6, if_false]
             have hm := cU (n := c.b.length) (F := F) (r := r) (fun y hy hF => by rw [hr]; simp only [hni y hy]; rw [if_pos ⟨by omega, by omega, by rw [Nat.add_sub_cancel_left]; exact hF⟩])
             have hpl := aN c.b.length F hn.1
             refine Z6 (eS (t' := _) (rows := _) (F := F) [1, 2, 3, 4, 5, 6, 7, 8, 27, 28] [0, 1, 2, 3, 4, 5] r hr (by decide) (fun id h => ?_) (by decide) (by omega) (by simp (disch := omega) only [r0, r1, r2, r3, r4, r5, hpl, hm, D3, B5, G6, E1, x6, D6, Ab.lookup_append, o0, c6, N1.d, hre, hrl, ht', c7, n3, a7, e6, m8, A6, AV.plain, Nat.reduceBEq, ↓reduceIte, Nat.reduceEqDiff, Nat.reduceAdd, sC]; rfl) (by simp (disch := omega) only [r0, r1, r2, r3, r4, r5, hpl, hm, D3, B5, G6, E1, x6, D6, Ab.lookup_append, o0, c6, N1.d, hre, hrl, ht', c7, n3, a7, e6, m8, A6, AV.plain, Nat.reduceBEq, ↓reduceIte, Nat.reduceEqDiff, Nat.reduceAdd, sC]; rfl) (fun y hy hF => by simp (disch := omega) only [LS.hf, List.lookup_cons, D3, Ab.lookup_append, x6, Option.getD_some])) ?_
             · simp only [List.mem_cons, List.not_mem_nil, or_false] at h; omega
             · rw [hSI]; simp only [p1, qS, a4c, if_neg hTn]; rfl
       · simp only [p1, qS, a4c, if_neg hT, List.replicate_succ, List.replicate_zero, List.cons_append, List.nil_append, List.append_nil, j3, Nat.reduceAdd]
         repeat' (first | refine Za ?_ | (with_reducible first | refine Zz.mk fun N hN mk hmk => ?_ | refine Zb.mk fun N hN => ?_ | refine Zi.mk fun h => ?_ | refine ⟨fun h => ?_, fun h => ?_⟩ | exact True.intro) | refine Zc C1 ?_ | (refine hN _ ?_; clear hN N) | (refine Zk hmk ?_; clear hmk mk) | refine Zt (Zq N1.d (Zq hre (Zq hrl ht'))) ?_ | fail)
         refine w7 (s' := q1 c (fromJ c (c8 t) i 0) (T ++ [(i : Int)]) i (c8 t) 0) ?_ ?_
         · skip
           obtain ⟨r, hr⟩ : ∃ r : Nat → Option Nat, r = fun id => match s5 [0, 1, 2, 3, 4, 288] 0 id with | some j => some j | none => if 100 ≤ id ∧ id < 100 + c.b.length ∧ F0 (id - 100) ≠ [] then some id else none := ⟨_, rfl⟩
           have r0 : r 0 = some 0 := by rw [hr]; rfl
           have r1 : r 1 = some 1 := by rw [hr]; rfl
           have r2 : r 2 = some 2 := by rw [hr]; rfl
           have r3 : r 3 = some 3 := by rw [hr]; rfl
           have r4 : r 4 = some 4 := by rw [hr]; rfl
           have r5 : r 288 = some 5 := by rw [hr]; rfl
           have hni : ∀ y, y < c.b.length → s5 [0, 1, 2, 3, 4, 288] 0 (100 + y) = none := fun y hy => by simp (disch := omega) only [J7, M9, G6, if_false]
           have hm := cU (n := c.b.length) (F := F0) (r := r) (fun y hy hF => by rw [hr]; simp only [hni y hy]; rw [if_pos ⟨by omega, by omega, by rw [Nat.add_sub_cancel_left]; exact hF⟩])
           have hpl := aN c.b.length F0 hn.1
           refine Z6 (eS (t' := _) (rows := _) (F := F0) [1, 2, 3, 4, 5, 6, 7, 8, 9, 27, 28, 46, 47, 48] [0, 1, 2, 3, 4, 288] r hr (by decide) (fun id h => ?_) (by decide) (by omega) (by simp (disch := omega) only [r0, r1, r2, r3, r4, r5, hpl, hm, D3, B5, G6, E1, x6, D6, Ab.lookup_append, o0, c6, N1.d, hre, hrl, ht', c7, n3, a7, e6, m8, A6, AV.plain, Nat.reduceBEq, ↓reduceIte, Nat.reduceEqDiff, Nat.reduceAdd, sC]; rfl) (by simp (disch := omega) only [r0, r1, r2, r3, r4, r5, hpl, hm, D3, B5, G6, E1, x6, D6, Ab.lookup_append, o0, c6, N1.d, hre, hrl, ht', c7, n3, a7, e6, m8, A6, AV.plain, Nat.reduceBEq, ↓reduceIte, Nat.reduceEqDiff, Nat.reduceAdd, sC]; rfl) (fun y hy hF => by simp (disch := omega) only [LS.hf, List.lookup_cons, D3, Ab.lookup_append, x6, Option.getD_some])) ?_
           · simp only [List.mem_cons, List.not_mem_nil, or_false] at h; omega
           · rw [hF0]; simp only [q1, List.length_append, List.length_cons, List.length_nil, Nat.zero_add]; rfl
         · skip
           have hT' : (T ++ [(i : Int)]).length ≤ 30 := by simp; omega
           have hTn : T ++ [(i : Int)] ≠ [] := by simp
           generalize T ++ [(i : Int)] = T' at *
           refine l9 (fun j => q1 c (fromJ c (c8 t) i j) T' i (c8 t) j) (c8 t).length (Z6 (fun _ _ _ ρ _ _ R => ⟨ρ, R⟩) rfl) ?_
           intro j hj
           by_cases hjn : j < (c8 t).length
           · have hgo := hs _ (aE hjn)
             obtain ⟨z, hzz⟩ : ∃ z : Nat, (c8 t).getD j 0 = z := ⟨((c8 t).getD j 0).toNat, by omega⟩
             rw [tY (wJ t) hjn hgo.1, hzz, Int.toNat_natCast]
             have hz : z < c.b.length := by omega
             have hFl := zT c (c8 t) i j z
             generalize fromJ c (c8 t) i j = F at *
             obtain ⟨SJ, hSJ⟩ : ∃ s, s = q1 c (aU F z (F z ++ [(i : Int)])) T' i (c8 t) (j + 1) := ⟨_, rfl⟩
             rw [← hSJ]
             by_cases hF : F z = []
             · have hcz : X9 z (F z) = .b7 true [] := by unfold X9; rw [if_pos hF]
               simp only [q1, List.replicate_succ, List.replicate_zero, List.cons_append, List.nil_append, List.append_nil, j3, Nat.reduceAdd]
               repeat' (first | refine Za ?_ | (with_reducible first | refine Zz.mk fun N hN mk hmk => ?_ | refine Zb.mk fun N hN => ?_ | refine Zi.mk fun h => ?_ | refine ⟨fun h => ?_, fun h => ?_⟩ | exact True.intro) | (refine hN _ ?_; clear hN N) | (refine Zk hmk ?_; clear hmk mk) | refine Zt (Zq N1.d (Zq hzz (Zq hcz (Zq hre (Zq hrl ht'))))) ?_ | fail)
               obtain ⟨r, hr⟩ : ∃ r : Nat → Option Nat, r = fun id => match s5 [0, 1, 2, 3, 4, 5] 0 id with | some j => some j | none => if id = 296 then some (100 + z) else if 100 ≤ id ∧ id < 100 + c.b.length ∧ F (id - 100) ≠ [] ∧ id ≠ 100 + z then some id else none := ⟨_, rfl⟩
               have r0 : r 0 = some 0 := by rw [hr]; rfl
               have r1 : r 1 = some 1 := by rw [hr]; rfl
               have r2 : r 2 = some 2 := by rw [hr]; rfl
               have r3 : r 3 = some 3 := by rw [hr]; rfl
               have r4 : r 4 = some 4 := by rw [hr]; rfl
               have r5 : r 5 = some 5 := by rw [hr]; rfl
               have hni : ∀ y, y < c.b.length → s5 [0, 1, 2, 3, 4, 5] 0 (100 + y) = none := fun y hy => by simp (disch := omega) only [J7, M9, G6, if_false]
               have hrx : r 296 = some (100 + z) := by rw [hr]; rfl
               have hro : ∀ y, y < c.b.length → y ≠ z → F y ≠ [] → r (100 + y) = some (100 + y) := fun y hy hyz hF => by rw [hr]; simp only [hni y hy]; rw [if_neg (by omega), if_pos ⟨by omega, by omega, by rw [Nat.add_sub_cancel_left]; exact hF, by omega⟩]
               have hm := iP (v := (i : Int)) hz hrx hro
               have hpl := kJ c.b.length F z 296 ((F z).length + 1) hz
               simp only [hF, List.length_nil, Nat.zero_add] at hm hpl
               refine Z6 (nJ (t' := _) (rows := _) (x := 296) (z := z) (F := F) (v := (i : Int)) [1, 2, 3, 4, 5, 6, 7, 8, 9, 27, 28, 46, 47, 48] [0, 1, 2, 3, 4, 5] r hr (by decide) (fun id h => ?_) (by decide) ⟨by omega, by decide⟩ hz (by omega) (by simp (disch := omega) only [r0, r1, r2, r3, r4, r5, hpl, hm, D3, B5, G6, E1, x6, D6, Ab.lookup_append, o0, c6, N1.d, hzz, hcz, hre, hrl, ht', c7, n3, a7, e6, m8, A6, AV.plain, Nat.reduceBEq, ↓reduceIte, Nat.reduceEqDiff, Nat.reduceAdd, sC]; rfl) (by simp (disch := omega) only [r0, r1, r2, r3, r4, r5, hpl, hm, D3, B5, G6, E1, x6, D6, Ab.lookup_append, o0, c6, N1.d, hzz, hcz, hre, hrl, ht', c7, n3, a7, e6, m8, A6, AV.plain, Nat.reduceBEq, ↓reduceIte, Nat.reduceEqDiff, Nat.reduceAdd, sC]; rfl) (by first | (rw [hF]; simp (disch := omega) only [LS.hf, List.lookup_cons, List.lookup_nil, D3, B5, Nat.reduceBEq, Ab.lookup_append, E1, x6, D6, Option.getD_some, beq_self_eq_true]; rfl) | simp (disch := omega) only [LS.hf, List.lookup_cons, List.lookup_nil, D3, B5, Nat.reduceBEq, Ab.lookup_append, E1, x6, D6, Option.getD_some, beq_self_eq_true]) (fun y hy hyz => by simp (disch := omega) only [LS.hf, List.lookup_cons, List.lookup_nil, D3, B5, Nat.reduceBEq, Ab.lookup_append, x6, nH, hyz, if_false, Option.getD_some])) ?_
               · simp only [List.mem_cons, List.not_mem_nil, or_false] at h; omega
               · rw [hSJ, hF]; rfl
             · have hcz : X9 z (F z) = .own (100 + z) 0 (F z).length := by unfold X9; rw [if_neg hF]
               have hrz : fJ (F z) = .live ⟨1, e7 (F z), 0⟩ := by unfold fJ; rw [if_neg hF]
               simp only [q1, List.replicate_succ, List.replicate_zero, List.cons_append, List.nil_append, List.append_nil, j3, Nat.reduceAdd]
               repeat' (first | refine Za ?_ | (with_reducible first | refine Zz.mk fun N hN mk hmk => ?_ | refine Zb.mk fun N hN => ?_ | refine Zi.mk fun h => ?_ | refine ⟨fun h => ?_, fun h => ?_⟩ | exact True.intro) | (refine hN _ ?_; clear hN N) | (refine Zk hmk ?_; clear hmk mk) | refine Zt (Zq N1.d (Zq hzz (Zq hcz (Zq hrz (Zq hre (Zq hrl ht')))))) ?_ | fail)
               obtain ⟨r, hr⟩ : ∃ r : Nat → Option Nat, r = fun id => match s5 [0, 1, 2, 3, 4, 5] 0 id with | some j => some j | none => if id = 296 then some (100 + z) else if 100 ≤ id ∧ id < 100 + c.b.length ∧ F (id - 100) ≠ [] ∧ id ≠ 100 + z then some id else none := ⟨_, rfl⟩
               have r0 : r 0 = some 0 := by rw [hr]; rfl
               have r1 : r 1 = some 1 := by rw [hr]; rfl
               have r2 : r 2 = some 2 := by rw [hr]; rfl
               have r3 : r 3 = some 3 := by rw [hr]; rfl
               have r4 : r 4 = some 4 := by rw [hr]; rfl
               have r5 : r 5 = some 5 := by rw [hr]; rfl
               have hni : ∀ y, y < c.b.length → s5 [0, 1, 2, 3, 4, 5] 0 (100 + y) = none := fun y hy => by simp (disch := omega) only [J7, M9, G6, if_false]
               have hrx : r 296 = some (100 + z) := by rw [hr]; rfl
               have hro : ∀ y, y < c.b.length → y ≠ z → F y ≠ [] → r (100 + y) = some (100 + y) := fun y hy hyz hF => by rw [hr]; simp only [hni y hy]; rw [if_neg (by omega), if_pos ⟨by omega, by omega, by rw [Nat.add_sub_cancel_left]; exact hF, by omega⟩]
               have hm := iP (v := (i : Int)) hz hrx hro
               have hpl := kJ c.b.length F z 296 ((F z).length + 1) hz
               refine Z6 (nJ (t' := _) (rows := _) (x := 296) (z := z) (F := F) (v := (i : Int)) [1, 2, 3, 4, 5, 6, 7, 8, 9, 27, 28, 46, 47, 48] [0, 1, 2, 3, 4, 5] r hr (by decide) (fun id h => ?_) (by decide) ⟨by omega, by decide⟩ hz (by omega) (by simp (disch := omega) only [r0, r1, r2, r3, r4, r5, hpl, hm, D3, B5, G6, E1, x6, D6, Ab.lookup_append, o0, c6, N1.d, hzz, hcz, hrz, hre, hrl, ht', c7, n3, a7, e6, m8, A6, AV.plain, Nat.reduceBEq, ↓reduceIte, Nat.reduceEqDiff, Nat.reduceAdd, sC]; rfl) (by simp (disch := omega) only [r0, r1, r2, r3, r4, r5, hpl, hm, D3, B5, G6, E1, x6, D6, Ab.lookup_append, o0, c6, N1.d, hzz, hcz, hrz, hre, hrl, ht', c7, n3, a7, e6, m8, A6, AV.plain, Nat.reduceBEq, ↓reduceIte, Nat.reduceEqDiff, Nat.reduceAdd, sC]; rfl) (by first | (rw [hF]; simp (disch := omega) only [LS.hf, List.lookup_cons, List.lookup_nil, D3, B5, Nat.reduceBEq, Ab.lookup_append, E1, x6, D6, Option.getD_some, beq_self_eq_true]; rfl) | simp (disch := omega) only [LS.hf, List.lookup_cons, List.lookup_nil, D3, B5, Nat.reduceBEq, Ab.lookup_append, E1, x6, D6, Option.getD_some, beq_self_eq_true]) (fun y hy hyz => by simp (disch := omega) only [LS.hf, List.lookup_cons, List.lookup_nil, D3, B5, Nat.reduceBEq, Ab.lookup_append, x6, nH, hyz, if_false, Option.getD_some])) ?_
               · simp only [List.mem_cons, List.not_mem_nil, or_false] at h; omega
               · rw [hSJ]; rfl
           · have e : j = (c8 t).length := by omega
             rw [e]
             rw [hFi] at hSI
             rw [hFi]
             generalize fromI c (i + 1) = F at *
             simp only [q1, List.replicate_succ, List.replicate_zero, List.cons_append, List.nil_append, List.append_nil, j3, Nat.reduceAdd]
             repeat' (first | refine Za ?_ | (with_reducible first | refine Zz.mk fun N hN mk hmk => ?_ | refine Zb.mk fun N hN => ?_ | refine Zi.mk fun h => ?_ | refine ⟨fun h => ?_, fun h => ?_⟩ | exact True.intro) | (refine hN _ ?_; clear hN N) | (refine Zk hmk ?_; clear hmk mk) | refine Zt (Zq N1.d (Zq hre (Zq hrl ht'))) ?_ | fail)
             obtain ⟨r, hr⟩ : ∃ r : Nat → Option Nat, r = fun id => match s5 [0, 1, 2, 3, 4, 5] 0 id with | some j => some j | none => if 100 ≤ id ∧ id < 100 + c.b.length ∧ F (id - 100) ≠ [] then some id else none := ⟨_, rfl⟩
             have r0 : r 0 = some 0 := by rw [hr]; rfl
             have r1 : r 1 = some 1 := by rw [hr]; rfl
             have r2 : r 2 = some 2 := by rw [hr]; rfl
             have r3 : r 3 = some 3 := by rw [hr]; rfl
             have r4 : r 4 = some 4 := by rw [hr]; rfl
             have r5 : r 5 = some 5 := by rw [hr]; rfl
             have hni : ∀ y, y < c.b.length → s5 [0, 1, 2, 3, 4, 5] 0 (100 + y) = none := fun y hy => by simp (disch := omega) only [J7, M9, G6, if_false]
             have hm := cU (n := c.b.length) (F := F) (r := r) (fun y hy hF => by rw [hr]; simp only [hni y hy]; rw [if_pos ⟨by omega, by omega, by rw [Nat.add_sub_cancel_left]; exact hF⟩])
             have hpl := aN c.b.length F hn.1
             refine Z6 (eS (t' := _) (rows := _) (F := F) [1, 2, 3, 4, 5, 6, 7, 8, 27, 28] [0, 1, 2, 3, 4, 5] r hr (by decide) (fun id h => ?_) (by decide) (by omega) (by simp (disch := omega) only [r0, r1, r2, r3, r4, r5, hpl, hm, D3, B5, G6, E1, x6, D6, Ab.lookup_append, o0, c6, N1.d, hre, hrl, ht', c7, n3, a7, e6, m8, A6, AV.plain, Nat.reduceBEq, ↓reduceIte, Nat.reduceEqDiff, Nat.reduceAdd, sC]; rfl) (by simp (disch := omega) only [r0, r1, r2, r3, r4, r5, hpl, hm, D3, B5, G6, E1, x6, D6, Ab.lookup_append, o0, c6, N1.d, hre, hrl, ht', c7, n3, a7, e6, m8, A6, AV.plain, Nat.reduceBEq, ↓reduceIte, Nat.reduceEqDiff, Nat.reduceAdd, sC]; rfl) (fun y hy hF => by simp (disch := omega) only [LS.hf, List.lookup_cons, D3, Ab.lookup_append, x6, Option.getD_some])) ?_
             · simp only [List.mem_cons, List.not_mem_nil, or_false] at h; omega
             · rw [hSI]; simp only [p1, qS, a4c, if_neg hTn]; rfl
   · obtain rfl : i = c.b.length := by omega
     have hT : todoI c c.b.length ≠ [] := List.ne_nil_of_mem (vE.2 ⟨0, rfl, hn.1, .zero⟩)
     obtain ⟨F, hF0⟩ : ∃ F, F = fromI c c.b.length := ⟨_, rfl⟩
     rw [← hF0]
     simp only [p1, qS, a4c, if_neg hT, List.replicate_succ, List.replicate_zero, List.cons_append, List.nil_append, List.append_nil, j3, Nat.reduceAdd]
     repeat' (first | refine Za ?_ | (with_reducible first | refine Zz.mk fun N hN mk hmk => ?_ | refine Zb.mk fun N hN => ?_ | refine Zi.mk fun h => ?_ | refine ⟨fun h => ?_, fun h => ?_⟩ | exact True.intro) | (refine hN _ ?_; clear hN N) | (refine Zk hmk ?_; clear hmk mk) | refine Zt (Zq N1.d hrl) ?_ | fail)
     refine w7 (s' := f2 c (fromL c) (aB c.b.length) (aB c.b.length) (todoI c c.b.length)) ?_ (fQ (fun m s => ∃ I O T, WI c I O T ∧ wm c I T ≤ 10000 ∧ m = wm c I T ∧ s = f2 c (fromL c) I O T) _ ⟨_, _, _, WI.zero c, b3v c hn.2 _, rfl, rfl⟩ ?_)
     · refine Z6 (b2C (t' := _) (rows := _) (F := F) [1, 2, 3, 4, 5, 7, 8] [0, 1, 2, 3, 5] hn.1 rfl rfl (fun z hz hF => by simp (disch := omega) only [LS.hf, List.lookup_cons, D3, x6, Option.getD_some]; unfold fJ; rw [if_neg hF]) (by decide) (by decide) (by simp only [List.set_cons_succ, List.set_cons_zero, N1.d, hrl, c7, n3, a7, e6, m8, A6, AV.plain, Nat.reduceBEq, ↓reduceIte, Nat.reduceEqDiff, Nat.reduceAdd, sC]; rfl) (by simp only [o0, c6, N1.d, hrl, c7, n3, a7, e6, m8, A6, AV.plain, Nat.reduceBEq, ↓reduceIte, Nat.reduceEqDiff, Nat.reduceAdd, sC]; rfl)) ?_
       rw [hF0]; rfl
     · rintro m s ⟨I, O, T, W, hw, rfl, rfl⟩
       have gl := W.f.s.li
       have go := W.f.s.lo
       have gfl := a8r c
       rcases wG T with rfl | ⟨T', b, rfl⟩
       · simp only [f2, List.replicate_succ, List.replicate_zero, List.cons_append, List.nil_append, j3, Nat.reduceAdd]
         rw [W.done]
         repeat' (first | refine Za ?_ | (with_reducible first | refine Zz.mk fun N hN mk hmk => ?_ | refine Zb.mk fun N hN => ?_ | refine Zi.mk fun h => ?_ | refine ⟨fun h => ?_, fun h => ?_⟩ | exact True.intro) | (refine hN _ ?_; clear hN N) | (refine Zk hmk ?_; clear hmk mk) | refine Zt (Zq zF.d (Zq gl go)) ?_ | fail)
         have hli : ∀ z, RB c.r9 (I.getD z []) ∧ K8 (I.getD z []) := W.f.s.i
         have hlo : ∀ z, RB c.r9 (O.getD z []) ∧ K8 (O.getD z []) := W.f.s.o
         have KI := fun z => tM (I.getD z []) ((hli z).1.r64 (by omega)) (hli z).2 ((hli z).1.len (hli z).2 (by omega))
         have KO := fun z => tM (O.getD z []) ((hlo z).1.r64 (by omega)) (hlo z).2 ((hlo z).1.len (hlo z).2 (by omega))
         simp only [F5] at KI KO
         refine iK (fun i => ⟨[.dead, .dead, .ptr 0 0 0, .dead, .own 1 0 c.b.length, .own 2 0 c.b.length, .dead, .dead, .dead, .dead, .dead, .dead, .dead, .dead, .ptr 3 0 0, .dead, .dead, .dead, .dead, .dead, .dead, .dead, .dead, .dead, .dead, .dead, .dead, .dead, .dead, .dead, .dead, .dead, .dead, .dead, .dead, .dead, .dead, .dead, .dead, .dead, .dead, .dead, .dead, .dead, .dead, .dead, .dead, .dead, .dead, .dead, .dead, .dead, .dead, .dead, .dead, .dead, .dead, .dead, .dead, .dead, .dead, .dead, .dead, .dead, .dead, .dead, .dead, .dead, .dead, .dead, .dead, .dead, .dead, .dead, .dead, .dead, .dead, .dead, .dead, .dead, .dead, .dead, .dead, .dead, .dead, .dead, .dead, .dead, .dead, .dead, .dead, .dead, .dead, .dead, .dead, .dead, .dead, .dead, .dead, .dead, .dead, .dead, .dead, .dead, .dead, .dead, .dead, .dead, .dead, .dead, .dead, .dead, .dead, .dead, .dead, .v (.int .i64 c.b.length), .v (.int .i64 ((i + 1 : Nat) : Int)), .dead, .dead, .dead, .dead, .dead, .dead, .dead, .dead, .dead, .dead, .dead, .dead, .dead, .dead, .dead, .dead, .dead, .dead, .dead, .dead, .dead, .dead, .dead, .dead], [(0, .live ⟨2, [[.b7 true [], .b7 true []]], 0⟩), (1, .live ⟨4, X1 I, 0⟩), (2, .live ⟨4, X1 O, 0⟩), (3, .live ⟨2, [[.own 4 0 (i + 1), .own 5 0 (i + 1)]], 0⟩), (4, .live ⟨1, lists (I.take (i + 1)), 0⟩), (5, .live ⟨1, lists (O.take (i + 1)), 0⟩)], 6⟩) (c.b.length - 1) ?_ ?_
         · have KI0 := KI 0
           have KO0 := KO 0
           repeat' (first | refine Za ?_ | (with_reducible first | refine Zz.mk fun N hN mk hmk => ?_ | refine Zb.mk fun N hN => ?_ | refine Zi.mk fun h => ?_ | refine ⟨fun h => ?_, fun h => ?_⟩ | exact True.intro) | refine Zc KI0 ?_ | refine Zc KO0 ?_ | (refine hN _ ?_; clear hN N) | (refine Zk hmk ?_; clear hmk mk) | refine Zt (Zq zF.d (Zq gl go)) ?_ | fail)
           refine fX (keep := [2, 4, 5, 14, 115, 116]) (ids := [1, 2, 3, 29, 141, 213]) (s' := _) (by simp only [o0, c6, zF.d, gl, go, c7, n3, a7, e6, m8, A6, AV.plain, Nat.reduceBEq, ↓reduceIte, Nat.reduceEqDiff, Nat.reduceAdd, sC]; rfl) ?_
           rw [a0d I (by omega), a0d O (by omega)]
           rfl
         · intro i hi
           dsimp only
           by_cases hlt : i + 1 < c.b.length
           · have KI1 := KI (i + 1)
             have KO1 := KO (i + 1)
             have eI := a0f I (i + 1) (by omega)
             have eO := a0f O (i + 1) (by omega)
             have tI : List.take (i + 1) (lists (I.take (i + 1))) = lists (I.take (i + 1)) := e9 (by rw [List.length_take]; omega)
             have tO : List.take (i + 1) (lists (O.take (i + 1))) = lists (O.take (i + 1)) := e9 (by rw [List.length_take]; omega)
             have lI : (I.take (i + 1)).length = i + 1 := by rw [List.length_take]; omega
             have lO : (O.take (i + 1)).length = i + 1 := by rw [List.length_take]; omega
             rw [← eI, ← eO]
             generalize I.take (i + 1) = PI at *
             generalize O.take (i + 1) = PO at *
             repeat' (first | refine Za ?_ | (with_reducible first | refine Zz.mk fun N hN mk hmk => ?_ | refine Zb.mk fun N hN => ?_ | refine Zi.mk fun h => ?_ | refine ⟨fun h => ?_, fun h => ?_⟩ | exact True.intro) | refine Zc KI1 ?_ | refine Zc KO1 ?_ | (refine hN _ ?_; clear hN N) | (refine Zk hmk ?_; clear hmk mk) | refine Zt (Zq zF.d (Zq tI (Zq tO (Zq lI (Zq lO (Zq gl go)))))) ?_ | fail)
             refine fX (keep := [2, 4, 5, 14, 115, 116]) (ids := [0, 1, 2, 3, 94, 166]) (s' := _) (by simp only [o0, s7, List.all_append, zF.d, tI, tO, lI, lO, gl, go, c7, n3, a7, e6, m8, A6, AV.plain, Nat.reduceBEq, ↓reduceIte, Nat.reduceEqDiff, Nat.reduceAdd, sC]; rfl) ?_
             rfl
           · have e : i + 1 = c.b.length := by omega
             rw [e, List.take_of_length_le (by omega), List.take_of_length_le (by omega)]
             have tI : List.take c.b.length (lists I) = lists I := e9 gl
             have tO : List.take c.b.length (lists O) = lists O := e9 go
             repeat' (first | refine Za ?_ | (with_reducible first | refine Zz.mk fun N hN mk hmk => ?_ | refine Zb.mk fun N hN => ?_ | refine Zi.mk fun h => ?_ | refine ⟨fun h => ?_, fun h => ?_⟩ | exact True.intro) | (refine hN _ ?_; clear hN N) | (refine Zk hmk ?_; clear hmk mk) | refine Zt (Zq zF.d (Zq tI (Zq tO (Zq gl go)))) ?_ | fail)
       · obtain ⟨k, rfl⟩ : ∃ k : Nat, b = k := ⟨b.toNat, by have := W.m b (by simp); omega⟩
         obtain ⟨hb, hrb, hsame, hpush⟩ := W.pop hc
         have hT' : T'.length ≤ 10000 := by have := b5E c I (T' ++ [(k : Int)]); simp at this; omega
         obtain ⟨B, hB⟩ : ∃ B, B = F3 c.b k := ⟨_, rfl⟩
         have hB' : c.b.getD k B0 = B := hB.symm
         have hbl := (hc.tH hb).l
         have hgt := hc.b0G hb
         have hgi := hc.b2F hb
         have hto := (hc.tH hb).t.succ
         rw [← hB] at hgt hgi hbl hto
         have hsi : xM I := fun z => ⟨(W.f.s.i z).1.r64 (by omega), (W.f.s.i z).2⟩
         have nO := kV hc W.f.s hb
         have sO : K8 (O4 c I k) := V6
         have nI : RB c.r9 (O3 c I k) := a2N nO (hc.rb hb) 0
         have sI : K8 (O3 c I k) := cZ sO
         have K1 := tN B.t I (by rw [gl]; exact hto) (by omega) hsi hgt.1 hgt.2
         rw [show I7 B.t I = O4 c I k from by rw [hB]; rfl] at K1
         have K2 := tK B (O4 c I k) 0 (by omega) (by omega) (nO.r64 (by omega)) sO hgi
         rw [show eE B (O4 c I k) 0 = O3 c I k from by rw [hB]; rfl] at K2
         have m1 : ((D0 (O3 c I k) : Int) = (D0 (I.getD k []) : Int)) = (O3 c I k = I.getD k []) := a1d (nI.r64 (by omega)) (hsi k).1 sI (hsi k).2
         have hfl := pD c c.b.length k
         rw [← a3g c hb] at hfl
         have hsO : (O.set k (O4 c I k)).length = c.b.length := by rw [List.length_set]; exact go
         have hsO2 : (O.set k (O4 c I k)).getD k [] = O4 c I k := by rw [z7, if_pos ⟨rfl, by omega⟩]
         have tkI : List.take c.b.length (X1 I) = X1 I := by rw [← gl]; exact qJ I
         simp only [c5.av, u2.av, List.cons_append, List.nil_append] at K1 K2
         simp only [f2, List.replicate_succ, List.replicate_zero, List.cons_append, List.nil_append, j3, Nat.reduceAdd, List.length_append, List.length_cons, List.length_nil]
         repeat' (first | (guard_target =~ AK Tryd.prog (Go.Code.seq (Go.Code.region 20 _ _) _) _ _ _; (refine a9P (es := e7 (T' ++ [(k : Int)])) 4 T'.length rfl ?_; simp only [xA, a3s, Nat.reduceEqDiff, if_true, if_false])) | refine Za ?_ | (with_reducible first | refine Zz.mk fun N hN mk hmk => ?_ | refine Zb.mk fun N hN => ?_ | refine Zi.mk fun h => ?_ | refine ⟨fun h => ?_, fun h => ?_⟩ | exact True.intro) | (refine aA K1 rfl ?_ rfl ?_; (next => (simp (disch := omega) only [a2C.d, tkI, hsO, hsO2, m1, hB', gl, go, gfl, D8, Nat.reduceBEq, AV.plain, Nat.reduceAdd, Nat.reduceLeDiff, Nat.reduceLT, ↓reduceIte, sF] <;> first | done | rfl))) | (refine X3 K1 rfl ?_ rfl ?_; (next => (simp (disch := omega) only [a2C.d, tkI, hsO, hsO2, m1, hB', gl, go, gfl, D8, Nat.reduceBEq, AV.plain, Nat.reduceAdd, Nat.reduceLeDiff, Nat.reduceLT, ↓reduceIte, sF] <;> first | done | rfl))) | refine Zc K2 ?_ | (refine hN _ ?_; clear hN N) | (refine Zk hmk ?_; clear hmk mk) | refine Zt (Zq a2C.d (Zq tkI (Zq hsO (Zq hsO2 (Zq m1 (Zq hB' (Zq gl (Zq go gfl)))))))) ?_ | fail)
         · have hne : O3 c I k ≠ I.getD k [] := by first | exact ‹¬O3 c I k = I.getD k []› | assumption
           obtain ⟨W2, ht2⟩ := hpush hne
           have hw2 := b3u (T := T') (b := (k : Int)) (z := k) ht2 (W2.f.b7o hc)
           rw [a3g c hb]
           refine ⟨wm c (I.set k (O3 c I k)) (T' ++ fromI c c.b.length k), f2 c (fromL c) (I.set k (O3 c I k)) (O.set k (O4 c I k)) (T' ++ fromI c c.b.length k), hw2, fX (keep := [1, 2, 3, 4, 5, 7, 8]) (ids := [0, 1, 2, 3, 453]) (s' := _) (by simp only [o0, c6, a2C.d, tkI, hsO, hsO2, m1, hB', gl, go, gfl, c7, n3, a7, e6, m8, A6, AV.plain, Nat.reduceBEq, ↓reduceIte, Nat.reduceEqDiff, Nat.reduceAdd, sC]; rfl) ?_, _, _, _, W2, by omega, rfl, rfl⟩
           simp only [f2, List.length_append]; rfl
         · have heq : O3 c I k = I.getD k [] := by first | exact Decidable.not_not.1 ‹_› | assumption
           have W2 := hsame heq
           have hw2 := b5F c I T' (k : Int)
           refine ⟨wm c I T', f2 c (fromL c) I (O.set k (O4 c I k)) T', hw2, fX (keep := [1, 2, 3, 4, 5, 7, 8]) (ids := [0, 1, 2, 3, 4]) (s' := _) (by simp only [o0, c6, a2C.d, tkI, hsO, hsO2, m1, hB', gl, go, gfl, c7, n3, a7, e6, m8, A6, AV.plain, Nat.reduceBEq, ↓reduceIte, Nat.reduceEqDiff, Nat.reduceAdd, sC]; rfl) ?_, _, _, _, W2, by omega, rfl, rfl⟩
           rfl
theorem a8Y (c : Code) (hc : z6 c) : e8 Tryd.prog 13 [.agg c.av] (fun n => .agg [.own n 0 c.b.length, .own (n + 1) 0 c.b.length]) (fun _ => [⟨1, lists (liveF c).1, 0⟩, ⟨1, lists (liveF c).2, 0⟩]) := by
 have hr := hc.r
 have hn := hc.n
 have C3 := iG c hc.succ (by omega)
 simp only [Code.av] at C3
 (refine qR Tryd.func13 rfl (by kernel_rfl) ?_; rw [uC Tryd.ntmps13]; simp only [Code.av]; simp only [List.replicate_succ, List.replicate_zero, List.cons_append, List.nil_append, List.length_cons, List.length_nil, Nat.reduceAdd, Nat.reduceSub]; refine tC ?_)
 repeat' (first | refine Za ?_ | (with_reducible first | refine Zz.mk fun N hN mk hmk => ?_ | refine Zb.mk fun N hN => ?_ | refine Zi.mk fun h => ?_ | refine ⟨fun h => ?_, fun h => ?_⟩ | exact True.intro) | refine Zc C3 ?_ | (refine hN _ ?_; clear hN N) | (refine Zk hmk ?_; clear hmk mk) | refine Zt fG.d ?_ | fail)
 refine iK (fun i => ⟨[.dead, .ptr 0 0 0, .ptr 1 0 0, .ptr 2 0 0, .b7 false (H0 (reachF c.b)), .v (.int .i64 ((i + 1 : Nat) : Int)), .dead, .dead, .dead, .dead, .dead, .dead, .dead, .dead, .dead, .dead, .dead, .dead, .dead, .dead, .dead, .dead, .dead, .dead, .dead, .dead, .dead, .dead, .dead, .dead, .dead, .dead, .dead, .dead, .dead, .dead, .dead, .dead, .dead, .dead, .dead, .dead, .dead, .dead, .dead, .dead, .dead, .dead, .dead, .dead, .dead, .dead, .dead, .dead, .dead, .dead, .dead, .dead, .dead, .dead, .dead, .dead, .dead, .dead, .dead, .dead, .dead, .dead, .dead, .dead, .dead, .dead, .dead, .dead, .dead, .dead, .dead, .dead, .dead, .dead, .dead, .dead, .dead, .dead, .dead, .dead, .dead, .dead], [(0, .live ⟨8, [[.v (.int .i64 c.group), .v (.int .i64 c.sub), .v (.int .i64 c.r9), .v (.int .i64 c.L3), .v (.int .i64 c.params), .b7 false (Q5 c.D7), .b7 false (loops c.loops), .b7 false (E0 c.b)]], 0⟩), (1, .live ⟨2, [[.b7 true [], .b7 true []]], 0⟩), (2, .live ⟨2, [[.own 3 0 (i + 1), .own 4 0 (i + 1)]], 0⟩), (3, .live ⟨1, lists (aB (i + 1)), 0⟩), (4, .live ⟨1, lists (aB (i + 1)), 0⟩)], 5⟩) (c.b.length - 1) ?_ ?_
 · repeat' (first | refine Za ?_ | (with_reducible first | refine Zz.mk fun N hN mk hmk => ?_ | refine Zb.mk fun N hN => ?_ | refine Zi.mk fun h => ?_ | refine ⟨fun h => ?_, fun h => ?_⟩ | exact True.intro) | (refine hN _ ?_; clear hN N) | (refine Zk hmk ?_; clear hmk mk) | refine Zt fG.d ?_ | fail)
   refine fY (L5 144 0 0 6 (.own 128 0 0) (.b7 false []) rfl rfl rfl) ?_
   simp (maxSteps := 10000000) (disch := omega) only [a8, n6, A9, L8, fG.d, r7, Z3, A2, H3, x9, u6, AV.kept, l7, n6, A3, I6, y7, x5, Go.MapKept.IsKey, r8, B8, AV.plain, rd, D8, a8, Z2, w6, AV.j8, AV.aS, AV.I5, AV.V7, AV.scalar, bC, y8, H6, H9, I3, H8, x4, H5, bD, y9, H7, G9, m9, bB, o9, F2, F1, Z8, F9, o6, TD.isRow, A1, n8, o8, n4, L8, Value.oneCell', ↓reduceIte, Int.reduceNe, Int.reduceEq, Nat.reduceAdd, Nat.reduceLT, Nat.reduceLeDiff, Nat.reduceSub, Nat.reduceMul, Nat.reduceBEq, Nat.reduceEqDiff, reduceCtorEq, Int.reduceToNat, ← decide_not, ← Bool.decide_and, sA, sN]
   refine fY (L5 200 0 0 6 (.own 184 0 0) (.b7 false []) rfl rfl rfl) ?_
   simp (maxSteps := 10000000) (disch := omega) only [a8, n6, A9, L8, fG.d, r7, Z3, A2, H3, x9, u6, AV.kept, l7, n6, A3, I6, y7, x5, Go.MapKept.IsKey, r8, B8, AV.plain, rd, D8, a8, Z2, w6, AV.j8, AV.aS, AV.I5, AV.V7, AV.scalar, bC, y8, H6, H9, I3, H8, x4, H5, bD, y9, H7, G9, m9, bB, o9, F2, F1, Z8, F9, o6, TD.isRow, A1, n8, o8, n4, L8, Value.oneCell', ↓reduceIte, Int.reduceNe, Int.reduceEq, Nat.reduceAdd, Nat.reduceLT, Nat.reduceLeDiff, Nat.reduceSub, Nat.reduceMul, Nat.reduceBEq, Nat.reduceEqDiff, reduceCtorEq, Int.reduceToNat, ← decide_not, ← Bool.decide_and, sA, sN]
   refine Zw [1, 2, 3, 4, 5] [0, 8, 40, 144, 200] fG.d ?_
   rfl
 · intro i hi
   dsimp only
   by_cases hlt : i + 1 < c.b.length
   · repeat' (first | refine Za ?_ | (with_reducible first | refine Zz.mk fun N hN mk hmk => ?_ | refine Zb.mk fun N hN => ?_ | refine Zi.mk fun h => ?_ | refine ⟨fun h => ?_, fun h => ?_⟩ | exact True.intro) | (refine hN _ ?_; clear hN N) | (refine Zk hmk ?_; clear hmk mk) | refine Zt fG.d ?_ | fail)
     refine fY (L5 77 (i + 1) 0 6 (.own 61 0 0) (.b7 false []) rfl (sB _ _) rfl) ?_
     simp (maxSteps := 10000000) (disch := omega) only [a8, n6, A9, L8, fG.d, r7, Z3, A2, H3, x9, u6, AV.kept, l7, n6, A3, I6, y7, x5, Go.MapKept.IsKey, r8, B8, AV.plain, rd, D8, a8, Z2, w6, AV.j8, AV.aS, AV.I5, AV.V7, AV.scalar, bC, y8, H6, H9, I3, H8, x4, H5, bD, y9, H7, G9, m9, bB, o9, F2, F1, Z8, F9, o6, TD.isRow, A1, n8, o8, n4, L8, Value.oneCell', ↓reduceIte, Int.reduceNe, Int.reduceEq, Nat.reduceAdd, Nat.reduceLT, Nat.reduceLeDiff, Nat.reduceSub, Nat.reduceMul, Nat.reduceBEq, Nat.reduceEqDiff, reduceCtorEq, Int.reduceToNat, ← decide_not, ← Bool.decide_and, sA, sN]
     refine fY (L5 133 (i + 1) 0 6 (.own 117 0 0) (.b7 false []) rfl (sB _ _) rfl) ?_
     simp (maxSteps := 10000000) (disch := omega) only [a8, n6, A9, L8, fG.d, r7, Z3, A2, H3, x9, u6, AV.kept, l7, n6, A3, I6, y7, x5, Go.MapKept.IsKey, r8, B8, AV.plain, rd, D8, a8, Z2, w6, AV.j8, AV.aS, AV.I5, AV.V7, AV.scalar, bC, y8, H6, H9, I3, H8, x4, H5, bD, y9, H7, G9, m9, bB, o9, F2, F1, Z8, F9, o6, TD.isRow, A1, n8, o8, n4, L8, Value.oneCell', ↓reduceIte, Int.reduceNe, Int.reduceEq, Nat.reduceAdd, Nat.reduceLT, Nat.reduceLeDiff, Nat.reduceSub, Nat.reduceMul, Nat.reduceBEq, Nat.reduceEqDiff, reduceCtorEq, Int.reduceToNat, ← decide_not, ← Bool.decide_and, sA, sN]
     refine Zw [1, 2, 3, 4, 5] [0, 1, 2, 77, 133] fG.d ?_
     rfl
   · have e : i + 1 = c.b.length := by omega
     rw [e]
     repeat' (first | refine Za ?_ | (with_reducible first | refine Zz.mk fun N hN mk hmk => ?_ | refine Zb.mk fun N hN => ?_ | refine Zi.mk fun h => ?_ | refine ⟨fun h => ?_, fun h => ?_⟩ | exact True.intro) | (refine hN _ ?_; clear hN N) | (refine Zk hmk ?_; clear hmk mk) | refine Zt fG.d ?_ | fail)
     refine w7 (s' := fS c (aB c.b.length) (aB c.b.length) true) (Zw [1, 2, 3, 4, 6] [0, 1, 2, 3, 4] fG.d rfl)
       (fQ (fun m s => ∃ I O a, FI c I O ∧ (a = false → liveF c = (I, O)) ∧ m = (32 * c.b.length - (mO I + mO O)) + (if a = true then 1 else 0) ∧ s = fS c I O a) _ ⟨_, _, true, FI.zero c, (fun h => by cases h), rfl, rfl⟩ ?_)
     rintro m s ⟨I, O, a, hF, hA, rfl, rfl⟩
     have gl := hF.s.li
     have go := hF.s.lo
     simp only [fS, List.replicate_succ, List.replicate_zero, List.cons_append, List.nil_append]
     cases a with
     | false =>
       rw [hA rfl]
       repeat' (first | refine Za ?_ | (with_reducible first | refine Zz.mk fun N hN mk hmk => ?_ | refine Zb.mk fun N hN => ?_ | refine Zi.mk fun h => ?_ | refine ⟨fun h => ?_, fun h => ?_⟩ | exact True.intro) | (refine hN _ ?_; clear hN N) | (refine Zk hmk ?_; clear hmk mk) | refine Zt (Zq a2D.d (Zq gl (Zq go (Zq (e9 gl) (e9 go))))) ?_ | fail)
       exact ⟨[3, 4], by decide, fun nid => ⟨by simp only [a2D.d, gl, go, (e9 gl), (e9 go), c7, n3, a7, e6, m8, A6, AV.plain, Nat.reduceBEq, ↓reduceIte, Nat.reduceEqDiff, Nat.reduceAdd, sC], by simp only [a2D.d, gl, go, (e9 gl), (e9 go), c7, n3, a7, e6, m8, A6, AV.plain, Nat.reduceBEq, ↓reduceIte, Nat.reduceEqDiff, Nat.reduceAdd, sC]⟩⟩
     | true =>
       repeat' (first | refine Za ?_ | (with_reducible first | refine Zz.mk fun N hN mk hmk => ?_ | refine Zb.mk fun N hN => ?_ | refine Zi.mk fun h => ?_ | refine ⟨fun h => ?_, fun h => ?_⟩ | exact True.intro) | (refine hN _ ?_; clear hN N) | (refine Zk hmk ?_; clear hmk mk) | refine Zt (Zq a2D.d (Zq gl (Zq go (Zq (e9 gl) (e9 go))))) ?_ | fail)
       refine l9 (fun b => ⟨[.dead, .ptr 0 0 0, .ptr 1 0 0, .ptr 2 0 0, .b7 false (H0 (reachF c.b)), .dead, .v (.bool (refS c I O b).2.2), .v (.int .i64 b), .dead, .dead, .dead, .dead, .dead, .dead, .dead, .dead, .dead, .dead, .dead, .dead, .dead, .dead, .dead, .dead, .dead, .dead, .dead, .dead, .dead, .dead, .dead, .dead, .dead, .dead, .dead, .dead, .dead, .dead, .dead, .dead, .dead, .dead, .dead, .dead, .dead, .dead, .dead, .dead, .dead, .dead, .dead, .dead, .dead, .dead, .dead, .dead, .dead, .dead, .dead, .dead, .dead, .dead, .dead, .dead, .dead, .dead, .dead, .dead, .dead, .dead, .dead, .dead, .dead, .dead, .dead, .dead, .dead, .dead, .dead, .dead, .dead, .dead, .dead, .dead, .dead, .dead, .dead, .dead], [(0, .live ⟨8, [[.v (.int .i64 c.group), .v (.int .i64 c.sub), .v (.int .i64 c.r9), .v (.int .i64 c.L3), .v (.int .i64 c.params), .b7 false (Q5 c.D7), .b7 false (loops c.loops), .b7 false (E0 c.b)]], 0⟩), (1, .live ⟨2, [[.b7 true [], .b7 true []]], 0⟩), (2, .live ⟨2, [[.own 3 0 c.b.length, .own 4 0 c.b.length]], 0⟩), (3, .live ⟨1, lists (refS c I O b).1, 0⟩), (4, .live ⟨1, lists (refS c I O b).2.1, 0⟩)], 5⟩) c.b.length (Zw [1,2,3,4,6,7] [0, 1, 2, 3, 4] (Zq a2D.d (Zq gl (Zq go (Zq (e9 gl) (e9 go))))) ?_) ?_
       · rfl
       · intro b hb
         dsimp only
         obtain ⟨f1, f2, f3⟩ := oF hc hF b hb
         by_cases hlb : b < c.b.length
         · have hra := T8 c.b hlb
           have hrl := M8 c.b
           have hst : refS c I O (b + 1) = if (reachF c.b).getD b false = true then ((refS c I O b).1.set b (O3 c (refS c I O b).1 b), (refS c I O b).2.1.set b (O4 c (refS c I O b).1 b), (refS c I O b).2.2 || decide (((refS c I O b).2.1.getD b []).length < (O4 c (refS c I O b).1 b).length ∨ ((refS c I O b).1.getD b []).length < (O3 c (refS c I O b).1 b).length)) else refS c I O b := rfl
           generalize refS c I O b = p at *
           obtain ⟨J, P, a⟩ := p
           simp only at f1 hst
           dsimp only
           have l1 := f1.s.li
           have l2 := f1.s.lo
           obtain ⟨B, hB⟩ : ∃ B, B = F3 c.b b := ⟨_, rfl⟩
           have hB' : c.b.getD b B0 = B := hB.symm
           have hbl := (hc.tH hlb).l
           rw [← hB] at hbl
           have hJl : M2 1000 J := fun z => (f1.s.i z).1.len (f1.s.i z).2 (by omega)
           have hPl : M2 1000 P := fun z => (f1.s.o z).1.len (f1.s.o z).2 (by omega)
           have hj := hJl b
           have hp := hPl b
           have nO := kV hc f1.s hlb
           have sO : K8 (O4 c J b) := V6
           have lO := nO.len sO (by omega)
           have nI : RB c.r9 (O3 c J b) := a2N nO (hc.rb hlb) 0
           have sI : K8 (O3 c J b) := cZ sO
           have lI := nI.len sI (by omega)
           have K1 := rG c b J hc.succ hlb l1 hJl
           rw [show I7 (F3 c.b b).t J = O4 c J b from rfl, l1] at K1
           have K3 := vT B (O4 c J b) 0 (by omega) (by omega) lO
           rw [show eE B (O4 c J b) 0 = O3 c J b from by rw [hB]; rfl] at K3
           simp only [c5.av, u2.av, List.cons_append, List.nil_append, Code.av] at K1 K3
           repeat' (first | refine Za ?_ | (with_reducible first | refine Zz.mk fun N hN mk hmk => ?_ | refine Zb.mk fun N hN => ?_ | refine Zi.mk fun h => ?_ | refine ⟨fun h => ?_, fun h => ?_⟩ | exact True.intro) | (refine Zp K1 [3] (Zq rN.d (Zq l1 (Zq l2 (Zq hrl (Zq hB' (Zq (e9 l1) (e9 l2))))))) ?_; with_reducible intro _ _) | refine Zc K3 ?_ | (refine hN _ ?_; clear hN N) | (refine Zk hmk ?_; clear hmk mk) | refine Zt (Zq rN.d (Zq l1 (Zq l2 (Zq hrl (Zq hB' (Zq (e9 l1) (e9 l2))))))) ?_ | fail)
           · refine Zw [1,2,3,4,6,7] [0, 1, 2, 3, 4] (Zq rN.d (Zq l1 (Zq l2 (Zq hrl (Zq hB' (Zq (e9 l1) (e9 l2))))))) ?_
             rw [hst, if_neg (by simp_all)]; rfl
           · refine Zw [1,2,3,4,6,7] [0, 1, 2, 3, 4] (Zq rN.d (Zq l1 (Zq l2 (Zq hrl (Zq hB' (Zq (e9 l1) (e9 l2))))))) ?_
             rw [hst, if_pos (by simp_all)]
             simp only []
             rw [decide_eq_true (show _ ∨ _ from .inl (by omega)), Bool.or_true]; rfl
           · refine Zw [1,2,3,4,6,7] [0, 1, 2, 3, 4] (Zq rN.d (Zq l1 (Zq l2 (Zq hrl (Zq hB' (Zq (e9 l1) (e9 l2))))))) ?_
             rw [hst, if_pos (by simp_all)]
             simp only []
             rw [decide_eq_true (show _ ∨ _ from .inr (by omega)), Bool.or_true]; rfl
           · refine Zw [1,2,3,4,6,7] [0, 1, 2, 3, 4] (Zq rN.d (Zq l1 (Zq l2 (Zq hrl (Zq hB' (Zq (e9 l1) (e9 l2))))))) ?_
             rw [hst, if_pos (by simp_all)]
             simp only []
             rw [decide_eq_false (by omega), Bool.or_false]; rfl
         · obtain rfl : b = c.b.length := by omega
           have sz1 := hF.wF hc
           have sz2 := f1.wF hc
           generalize refS c I O c.b.length = p at *
           obtain ⟨J, P, a⟩ := p
           simp only at f1 f2 f3 sz2
           dsimp only
           repeat' (first | refine Za ?_ | (with_reducible first | refine Zz.mk fun N hN mk hmk => ?_ | refine Zb.mk fun N hN => ?_ | refine Zi.mk fun h => ?_ | refine ⟨fun h => ?_, fun h => ?_⟩ | exact True.intro) | (refine hN _ ?_; clear hN N) | (refine Zk hmk ?_; clear hmk mk) | refine Zt a9N.d ?_ | fail)
           refine ⟨_, fS c J P a, ?_, ?_, J, P, a, f1, fun ha => ?_, rfl, rfl⟩
           · cases a with
             | true => simp only [if_true] at f2 ⊢; omega
             | false => simp only [Bool.false_eq_true, if_false] at f2 ⊢; omega
           · refine Zw [1, 2, 3, 4, 6] [0, 1, 2, 3, 4] a9N.d ?_
             rfl
           · obtain ⟨rfl, rfl, h4⟩ := f3 ha
             exact hF.done h4
end Go.Proofs.YtfccigmfcpimgaaDoor
end
