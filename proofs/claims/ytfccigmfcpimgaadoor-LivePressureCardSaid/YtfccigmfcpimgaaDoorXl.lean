/- Own work (by an AI agent; no person has read it): part of a proof of the seat YtfccigmfcpimgaaDoor. -/
import Derived.Test.YtfccigmfcpimgaaDoorXk
set_option linter.unusedSimpArgs false
set_option linter.unusedVariables false
set_option maxRecDepth 100000
set_option maxHeartbeats 10000000
section
namespace Go.Proofs.YtfccigmfcpimgaaDoor
open Go.Ab
def a96 (n : Int) (k : Nat) : Bool := decide (a4F .u16 (b5B .u16 n k) 1 = 1)
def X0 (n : Int) (l : List Int) : Nat → List Int
 | 0 => l
 | k + 1 => if a96 n k = true then q9 (X0 n l k) [(k : Int)] else X0 n l k
def V2 (n : Int) (K : Nat) (I : List (List Int)) : Nat → List (List Int)
 | 0 => I
 | b + 1 => (V2 n K I b).set b (X0 n ((V2 n K I b).getD b []) K)
theorem iD (n : Int) (K : Nat) (I : List (List Int)) : ∀ b, (V2 n K I b).length = I.length
 | 0 => rfl
 | b + 1 => by show ((V2 n K I b).set b _).length = _; rw [List.length_set, iD n K I b]
theorem pW (n : Int) (l : List Int) : ∀ k, (X0 n l k).length ≤ l.length + k
 | 0 => by simp [X0]
 | k + 1 => by
   have h := pW n l k
   unfold X0
   split
   · have := gY (X0 n l k) [(k : Int)]; simp at this; omega
   · omega
theorem oB (n : Int) (K : Nat) (I : List (List Int)) : ∀ b z, b ≤ z → (V2 n K I b).getD z [] = I.getD z []
 | 0, z, _ => rfl
 | b + 1, z, h => by
   show ((V2 n K I b).set b _).getD z [] = _
   rw [z7, if_neg (by omega), oB n K I b z (by omega)]
theorem nW (I : List (List Int)) (b : Nat) (v : List Int) (h : b < I.length) : (lists (I.set b v))[b]? = some [.b7 false (e7 v)] := by
 rw [z8 _ _ (by rw [List.length_set]; exact h), z7, if_pos ⟨rfl, h⟩]
theorem set_set (I : List (List Int)) (b : Nat) (v w : List Int) : (I.set b v).set b w = I.set b w := List.set_set ..
theorem a5y (I : List (List Int)) (b : Nat) (v w : List Int) : (lists (I.set b v)).modify b (fun e => u0 e 0 [.b7 false (e7 w)]) = lists (I.set b w) := by rw [a0e, set_set]
def a7Y := ZZ.mk (Zq @s8 (Zq @s7 (Zq @E3 (Zq @b8 (Zq @b5 @b6)))))
def a0K := ZZ.mk (Zq @a5y (Zq @List.length_set.{0} (Zq @s8 (Zq @s7 (Zq @E3 (Zq @H4 (Zq @u7 (Zq @c6 (Zq @r6 (Zq @b8 (Zq @b5 @b6)))))))))))
theorem vV (c : Code) (hc : z6 c) (n : Int) (hl : ∀ z, ((liveF c).1.getD z []).length ≤ 100 ∧ ((liveF c).2.getD z []).length ≤ 100) (hll : (liveF c).1.length = c.b.length ∧ (liveF c).2.length = c.b.length) : e8 Tryd.prog 15 [.agg c.av, .v (.int .u16 n)] (fun _ => .agg [.b7 false (lists (V2 n c.r9.toNat (liveF c).1 c.b.length)), .b7 false (lists (V2 n c.r9.toNat (liveF c).2 c.b.length))]) (fun _ => []) := by
 have hr := hc.r
 have hn := hc.n
 have C3 := a8Y c hc
 simp only [Code.av] at C3
 obtain ⟨g1, g2⟩ := hll
 generalize (liveF c).1 = I0 at *
 generalize (liveF c).2 = O0 at *
 obtain ⟨R, hR⟩ : ∃ R, R = c.r9.toNat := ⟨_, rfl⟩
 rw [← hR]
 refine Zf Tryd.func15 Tryd.ntmps15 ?_; simp only [Code.av]
 repeat' (first | refine Za ?_ | (with_reducible first | refine Zz.mk fun N hN mk hmk => ?_ | refine Zb.mk fun N hN => ?_ | refine Zi.mk fun h => ?_ | refine ⟨fun h => ?_, fun h => ?_⟩ | exact True.intro) | (refine Y5 C3 ?_ rfl ?_ ?_; (next => (simp (disch := omega) only [a7Y.d, D8, Nat.reduceBEq, AV.plain, Nat.reduceAdd, Nat.reduceLeDiff, Nat.reduceLT, ↓reduceIte, sF] <;> first | done | rfl)); (next => (simp only [apply_ite List.length, List.length_cons, List.length_nil] <;> (try split) <;> omega))) | (refine V5 C3 ?_ rfl ?_ ?_; (next => (simp (disch := omega) only [a7Y.d, D8, Nat.reduceBEq, AV.plain, Nat.reduceAdd, Nat.reduceLeDiff, Nat.reduceLT, ↓reduceIte, sF] <;> first | done | rfl)); (next => (simp only [apply_ite List.length, List.length_cons, List.length_nil] <;> (try split) <;> omega))) | (refine hN _ ?_; clear hN N) | (refine Zk hmk ?_; clear hmk mk) | refine Zt a7Y.d ?_ | fail)
 refine l9 (fun b => ⟨[.dead, .v (.int .u16 n), .ptr 0 0 0, .dead, .ptr 1 0 0, .ptr 4 0 0, .v (.int .i64 b), .dead, .dead, .dead, .dead, .dead, .dead, .dead, .dead, .dead, .dead, .dead, .dead, .dead, .dead, .dead, .dead, .dead, .dead, .dead, .dead, .dead, .dead, .dead, .dead, .dead, .dead, .dead, .dead, .dead, .dead, .dead, .dead, .dead, .dead, .dead, .dead, .dead, .dead, .dead, .dead, .dead, .dead, .dead, .dead, .dead, .dead, .dead, .dead, .dead, .dead, .dead], [(0, .live ⟨8, [[.v (.int .i64 c.group), .v (.int .i64 c.sub), .v (.int .i64 c.r9), .v (.int .i64 c.L3), .v (.int .i64 c.params), .b7 false (Q5 c.D7), .b7 false (loops c.loops), .b7 false (E0 c.b)]], 0⟩), (1, .live ⟨2, [[.b7 true [], .b7 true []]], 0⟩), (2, .live ⟨1, lists (V2 n R I0 b), 0⟩), (3, .live ⟨1, lists (V2 n R O0 b), 0⟩), (4, .live ⟨2, [[.own 2 0 c.b.length, .own 3 0 c.b.length]], 0⟩)], 5⟩) c.b.length (Zw [1,2,4,5,6] [0, 8, 24, 25, 32] a7Y.d ?_) ?_
 · rfl
 · intro b hb
   dsimp only
   have e1 := iD n R I0 b
   have e2 := iD n R O0 b
   by_cases hlt : b < c.b.length
   · have a1 := oB n R I0 b b (Nat.le_refl _)
     have a2 := oB n R O0 b b (Nat.le_refl _)
     have s1 : V2 n R I0 (b + 1) = (V2 n R I0 b).set b (X0 n ((V2 n R I0 b).getD b []) R) := rfl
     have s2 : V2 n R O0 (b + 1) = (V2 n R O0 b).set b (X0 n ((V2 n R O0 b).getD b []) R) := rfl
     rw [a1] at s1
     rw [a2] at s2
     have z1 := (hl b).1
     have z2 := (hl b).2
     have p1 := jZ (V2 n R I0 b) b
     have p2 := jZ (V2 n R O0 b) b
     rw [a1] at p1
     rw [a2] at p2
     generalize V2 n R I0 b = I at *
     generalize V2 n R O0 b = O at *
     repeat' (first | refine Za ?_ | (with_reducible first | refine Zz.mk fun N hN mk hmk => ?_ | refine Zb.mk fun N hN => ?_ | refine Zi.mk fun h => ?_ | refine ⟨fun h => ?_, fun h => ?_⟩ | exact True.intro) | (refine hN _ ?_; clear hN N) | (refine Zk hmk ?_; clear hmk mk) | refine Zt a7Y.d ?_ | fail)
     refine l9 (fun k => ⟨[.dead, .v (.int .u16 n), .ptr 0 0 0, .dead, .ptr 1 0 0, .ptr 4 0 0, .v (.int .i64 b), .v (.int .i64 k), .dead, .dead, .dead, .dead, .dead, .dead, .dead, .dead, .dead, .dead, .dead, .dead, .dead, .dead, .dead, .dead, .dead, .dead, .dead, .dead, .dead, .dead, .dead, .dead, .dead, .dead, .dead, .dead, .dead, .dead, .dead, .dead, .dead, .dead, .dead, .dead, .dead, .dead, .dead, .dead, .dead, .dead, .dead, .dead, .dead, .dead, .dead, .dead, .dead, .dead], [(0, .live ⟨8, [[.v (.int .i64 c.group), .v (.int .i64 c.sub), .v (.int .i64 c.r9), .v (.int .i64 c.L3), .v (.int .i64 c.params), .b7 false (Q5 c.D7), .b7 false (loops c.loops), .b7 false (E0 c.b)]], 0⟩), (1, .live ⟨2, [[.b7 true [], .b7 true []]], 0⟩), (2, .live ⟨1, lists (I.set b (X0 n (I0.getD b []) k)), 0⟩), (3, .live ⟨1, lists (O.set b (X0 n (O0.getD b []) k)), 0⟩), (4, .live ⟨2, [[.own 2 0 c.b.length, .own 3 0 c.b.length]], 0⟩)], 5⟩) R (Zw [1,2,4,5,6,7] [0, 1, 2, 3, 4] a7Y.d ?_) ?_
     · show _ = (fun k : Nat => _) 0
       simp only [X0, p1, p2]; rfl
     · intro k hk
       dsimp only
       have wk : IntKind.u64.wrap (k : Int) = (k : Int) := bM (by omega)
       have m1 := pW n (I0.getD b []) k
       have m2 := pW n (O0.getD b []) k
       have b1 : b < I.length := by omega
       have b2 : b < O.length := by omega
       have K1 := cA (X0 n (I0.getD b []) k) [(k : Int)] (by omega) (by simp)
       have K2 := cA (X0 n (O0.getD b []) k) [(k : Int)] (by omega) (by simp)
       rw [show e7 [(k : Int)] = [[.v (.int .i64 k)]] from rfl] at K1 K2
       have q1 := nW I b (X0 n (I0.getD b []) k) b1
       have q2 := nW O b (X0 n (O0.getD b []) k) b2
       by_cases hkr : k < R
       · repeat' (first | refine Za ?_ | (with_reducible first | refine Zz.mk fun N hN mk hmk => ?_ | refine Zb.mk fun N hN => ?_ | refine Zi.mk fun h => ?_ | refine ⟨fun h => ?_, fun h => ?_⟩ | exact True.intro) | (refine Y5 K1 ?_ rfl ?_ ?_; (next => (simp (disch := omega) only [a0K.d, wk, q1, q2, e1, e2, g1, g2, D8, Nat.reduceBEq, AV.plain, Nat.reduceAdd, Nat.reduceLeDiff, Nat.reduceLT, ↓reduceIte, sF] <;> first | done | rfl)); (next => (simp only [apply_ite List.length, List.length_cons, List.length_nil] <;> (try split) <;> omega))) | (refine V5 K1 ?_ rfl ?_ ?_; (next => (simp (disch := omega) only [a0K.d, wk, q1, q2, e1, e2, g1, g2, D8, Nat.reduceBEq, AV.plain, Nat.reduceAdd, Nat.reduceLeDiff, Nat.reduceLT, ↓reduceIte, sF] <;> first | done | rfl)); (next => (simp only [apply_ite List.length, List.length_cons, List.length_nil] <;> (try split) <;> omega))) | (refine Y5 K2 ?_ rfl ?_ ?_; (next => (simp (disch := omega) only [a0K.d, wk, q1, q2, e1, e2, g1, g2, D8, Nat.reduceBEq, AV.plain, Nat.reduceAdd, Nat.reduceLeDiff, Nat.reduceLT, ↓reduceIte, sF] <;> first | done | rfl)); (next => (simp only [apply_ite List.length, List.length_cons, List.length_nil] <;> (try split) <;> omega))) | (refine V5 K2 ?_ rfl ?_ ?_; (next => (simp (disch := omega) only [a0K.d, wk, q1, q2, e1, e2, g1, g2, D8, Nat.reduceBEq, AV.plain, Nat.reduceAdd, Nat.reduceLeDiff, Nat.reduceLT, ↓reduceIte, sF] <;> first | done | rfl)); (next => (simp only [apply_ite List.length, List.length_cons, List.length_nil] <;> (try split) <;> omega))) | (refine hN _ ?_; clear hN N) | (refine Zk hmk ?_; clear hmk mk) | refine Zt (Zq a0K.d (Zq wk (Zq q1 (Zq q2 (Zq e1 (Zq e2 (Zq g1 g2))))))) ?_ | fail)
         · refine Zw [1,2,4,5,6,7] [0, 1, 2, 3, 4] (Zq a0K.d (Zq wk (Zq q1 (Zq q2 (Zq e1 (Zq e2 (Zq g1 g2))))))) ?_
           have hb : a96 n k = true := decide_eq_true ‹_›
           have f : ∀ l, X0 n l (k + 1) = q9 (X0 n l k) [(k : Int)] := fun l => if_pos hb
           rw [f, f]; rfl
         · refine Zw [1,2,4,5,6,7] [0, 1, 2, 3, 4] (Zq a0K.d (Zq wk (Zq q1 (Zq q2 (Zq e1 (Zq e2 (Zq g1 g2))))))) ?_
           have hb : ¬ a96 n k = true := fun h => ‹¬_› (of_decide_eq_true h)
           have f : ∀ l, X0 n l (k + 1) = X0 n l k := fun l => if_neg hb
           rw [f, f]; rfl
         · exfalso; omega
       · repeat' (first | refine Za ?_ | (with_reducible first | refine Zz.mk fun N hN mk hmk => ?_ | refine Zb.mk fun N hN => ?_ | refine Zi.mk fun h => ?_ | refine ⟨fun h => ?_, fun h => ?_⟩ | exact True.intro) | (refine hN _ ?_; clear hN N) | (refine Zk hmk ?_; clear hmk mk) | refine Zt (Zq a0K.d (Zq wk (Zq q1 (Zq q2 (Zq e1 (Zq e2 (Zq g1 g2))))))) ?_ | fail)
         refine Zw [1, 2, 4, 5, 6] [0, 1, 2, 3, 4] (Zq a0K.d (Zq wk (Zq q1 (Zq q2 (Zq e1 (Zq e2 (Zq g1 g2))))))) ?_
         obtain rfl : k = R := by omega
         rw [s1, s2]; rfl
   · obtain rfl : b = c.b.length := by omega
     repeat' (first | refine Za ?_ | (with_reducible first | refine Zz.mk fun N hN mk hmk => ?_ | refine Zb.mk fun N hN => ?_ | refine Zi.mk fun h => ?_ | refine ⟨fun h => ?_, fun h => ?_⟩ | exact True.intro) | (refine hN _ ?_; clear hN N) | (refine Zk hmk ?_; clear hmk mk) | refine Zt (Zq a9N.d (Zq (e9 (e1.trans g1)) (Zq (e9 (e2.trans g2)) (Zq e1 (Zq e2 (Zq g1 g2)))))) ?_ | fail)
def a7N (l : List j9) (n : Int) : Prop := ∃ i, i < l.length ∧ n ∈ M4 (l.getD i I0)
instance (l : List j9) (n : Int) : Decidable (a7N l n) := inferInstanceAs (Decidable (∃ i, i < l.length ∧ n ∈ M4 (l.getD i I0)))
def b6p := ZZ.mk (Zq @m6 (Zq @cW (Zq @u4 (Zq @b5 @b6))))
def b43 := ZZ.mk (Zq @j9.av.eq_1 (Zq @m6 (Zq @cW (Zq @u4 (Zq @b5 @b6)))))
theorem b3t (l : List j9) (n : Int) (hl : l.length ≤ 1000) : e8 Tryd.prog 28 [.b7 false (p8 l), .v (.int .i64 n)] (fun _ => .v (.bool (decide (a7N l n)))) (fun _ => []) := by
 refine Zf Tryd.func28 Tryd.ntmps28 ?_
 repeat' (first | refine Za ?_ | (with_reducible first | refine Zz.mk fun N hN mk hmk => ?_ | refine Zb.mk fun N hN => ?_ | refine Zi.mk fun h => ?_ | refine ⟨fun h => ?_, fun h => ?_⟩ | exact True.intro) | (refine hN _ ?_; clear hN N) | (refine Zk hmk ?_; clear hmk mk) | refine Zt b6p.d ?_ | fail)
 refine M5 (fun i => ⟨[.b7 false (p8 l), .v (.int .i64 n), .dead, .dead, .dead, .v (.int .i64 i), .dead, .dead, .dead, .dead, .dead, .dead, .dead, .dead, .dead, .dead, .dead, .dead, .dead], [], 0⟩) (fun ii => Go.Ab.Z7 ((fun (i : Nat) => ∀ k : Nat, k < i → ¬ n ∈ M4 (l.getD k I0)) ii)) l.length (Zw [0,1,5] [] b6p.d ?_) ?_ ?_
 · rfl
 · exact ⟨fun k hk => by omega⟩
 · intro i hi hF
   have hF := hF.out
   by_cases hlt : i < l.length
   · have J1 := vX (l.getD i I0)
     have hu := jQ (l.getD i I0)
     have J2 := dC (M4 (l.getD i I0)) n (by omega)
     simp only [j9.av] at J1
     repeat' (first | refine Za ?_ | (with_reducible first | refine Zz.mk fun N hN mk hmk => ?_ | refine Zb.mk fun N hN => ?_ | refine Zi.mk fun h => ?_ | refine ⟨fun h => ?_, fun h => ?_⟩ | exact True.intro) | refine Zc J1 ?_ | refine Zc J2 ?_ | (refine hN _ ?_; clear hN N) | (refine Zk hmk ?_; clear hmk mk) | refine Zt b43.d ?_ | fail)
     · exact (decide_eq_true ⟨i, hlt, ‹_›⟩).symm
     · refine ⟨⟨fun k hk => ?_⟩, ?_⟩
       · rcases Nat.lt_succ_iff_lt_or_eq.1 hk with h1 | rfl
         · exact hF k h1
         · assumption
       · refine Zw [0,1,5] [] b43.d ?_
         rfl
   · repeat' (first | refine Za ?_ | (with_reducible first | refine Zz.mk fun N hN mk hmk => ?_ | refine Zb.mk fun N hN => ?_ | refine Zi.mk fun h => ?_ | refine ⟨fun h => ?_, fun h => ?_⟩ | exact True.intro) | (refine hN _ ?_; clear hN N) | (refine Zk hmk ?_; clear hmk mk) | refine Zt b43.d ?_ | fail)
     exact (decide_eq_false fun ⟨k, h1, h2⟩ => hF k (by omega) h2).symm
theorem a31 (n : Int) : e8 Tryd.prog 61 [.v (.int .i64 n)] (fun _ => .agg (J8.av ⟨2, n, 0⟩)) (fun _ => []) := by
 simp only [J8.av]
 refine Zf Tryd.func61 Tryd.ntmps61 ?_
 repeat' (first | refine Za ?_ | (with_reducible first | refine Zz.mk fun N hN mk hmk => ?_ | refine Zb.mk fun N hN => ?_ | refine Zi.mk fun h => ?_ | refine ⟨fun h => ?_, fun h => ?_⟩ | exact True.intro) | (refine hN _ ?_; clear hN N) | (refine Zk hmk ?_; clear hmk mk) | refine Zt aY.d ?_ | fail)
 all_goals rfl
theorem vQ (n : Int) : e8 Tryd.prog 62 [.v (.int .i32 n)] (fun _ => .agg (J8.av ⟨1, 0, n⟩)) (fun _ => []) := by
 simp only [J8.av]
 refine Zf Tryd.func62 Tryd.ntmps62 ?_
 repeat' (first | refine Za ?_ | (with_reducible first | refine Zz.mk fun N hN mk hmk => ?_ | refine Zb.mk fun N hN => ?_ | refine Zi.mk fun h => ?_ | refine ⟨fun h => ?_, fun h => ?_⟩ | exact True.intro) | (refine hN _ ?_; clear hN N) | (refine Zk hmk ?_; clear hmk mk) | refine Zt aY.d ?_ | fail)
 all_goals rfl
def xr (n : Int) : J8 := ⟨2, n, 0⟩
def xk (n : Int) : J8 := ⟨1, 0, n⟩
def exB : List c5 := [⟨[⟨1, 0, 0, xr 0, xk 1, O0, O0⟩, ⟨3, 10, 0, xr 1, xr 0, xr 0, O0⟩], ⟨2, 0, O0, xr 1, O0, 1, 2⟩⟩, ⟨[⟨1, 0, 0, xr 0, xk 2, O0, O0⟩], ⟨1, 0, O0, O0, O0, 2, 0⟩⟩, ⟨[⟨8, 0, 0, O0, xr 0, xr 1, O0⟩], ⟨5, 0, O0, O0, O0, 0, 0⟩⟩]
def kL : Code := { group := 2, sub := 1, r9 := 2, L3 := 0, params := 0, D7 := [⟨⟨#[97]⟩, 1, 1, 4⟩], loops := [], b := exB }
theorem a5d : e8 Tryd.prog 29 [] (fun _ => .agg kL.av) (fun _ => []) := by
 have J0 := a31 0
 have J1 := a31 1
 have K1 := vQ 1
 have K2 := vQ 2
 simp only [J8.av] at J0 J1 K1 K2
 refine Zf Tryd.func29 Tryd.ntmps29 ?_
 repeat' (first | refine Za ?_ | (with_reducible first | refine Zz.mk fun N hN mk hmk => ?_ | refine Zb.mk fun N hN => ?_ | refine Zi.mk fun h => ?_ | refine ⟨fun h => ?_, fun h => ?_⟩ | exact True.intro) | refine Zc J0 ?_ | refine Zc J1 ?_ | refine Zc K1 ?_ | refine Zc K2 ?_ | (refine hN _ ?_; clear hN N) | (refine Zk hmk ?_; clear hmk mk) | refine Zt aY.d ?_ | fail)
 all_goals rfl
def cX (I : List (List Int)) (b : Nat) (x : AV) : List (List AV) := (lists I).set b [x]
theorem uZ (I : List (List Int)) (b : Nat) (x : AV) : (cX I b x).length = I.length := by simp [cX, lists]
theorem a08 (I : List (List Int)) (b : Nat) (x : AV) (h : b < I.length) : (cX I b x)[b]? = some [x] := by simp [cX, lists, h]
theorem a3F (I : List (List Int)) (b : Nat) (x y : AV) : (cX I b x).modify b (fun e => u0 e 0 [y]) = cX I b y := by
 apply List.ext_getElem?
 intro j
 rw [List.getElem?_modify]
 simp only [cX, List.getElem?_set]
 by_cases h : b = j
 · subst h
   by_cases h2 : b < (lists I).length
   · simp [h2, u0]
   · simp [h2]
 · simp [h]
theorem a3E (I : List (List Int)) (b : Nat) (v : List Int) : cX I b (.b7 false (e7 v)) = lists (I.set b v) := by
 unfold cX lists; rw [List.map_set]
theorem uM (I : List (List Int)) (b : Nat) (x : AV) : (lists I).modify b (fun e => u0 e 0 [x]) = cX I b x := by
 apply List.ext_getElem?
 intro j
 rw [List.getElem?_modify]
 simp only [cX, List.getElem?_set, lists, List.getElem?_map, List.length_map]
 by_cases h : b = j
 · subst h
   by_cases h2 : b < I.length
   · simp [h2, u0]
   · simp [h2]
 · simp [h]
theorem b1b (I : List (List Int)) (b : Nat) (x : AV) : (∀ e ∈ cX I b x, e.length = 1) = True := by
 simp only [eq_iff_iff, iff_true]
 intro e he
 rcases List.mem_or_eq_of_mem_set he with h | rfl
 · simp [lists] at h; obtain ⟨a, _, rfl⟩ := h; rfl
 · rfl
theorem iU (I : List (List Int)) (b : Nat) (id n : Nat) (h : b < I.length) : ((cX I b (.own id 0 n)).all fun e => e.all AV.plain) = false := by
 apply Bool.eq_false_iff.2
 intro hh
 have hm : [AV.own id 0 n] ∈ cX I b (.own id 0 n) := List.mem_of_getElem? (a08 I b _ h)
 have := List.all_eq_true.1 hh _ hm
 simp [AV.plain] at this
theorem eW (I : List (List Int)) (b : Nat) (x : AV) (h : b < I.length) : cX I b x = lists (I.take b) ++ ([x] :: lists (I.drop (b + 1))) := by
 unfold cX lists
 rw [List.set_eq_take_append_cons_drop, if_pos (by simpa using h), ← List.map_take, ← List.map_drop]
theorem oA (I : List (List Int)) (b : Nat) (id n : Nat) (r : Nat → Option Nat) (h : b < I.length) : ((cX I b (.own id 0 n)).mapM fun (e : List AV) => e.mapM (m8 r 3)) = (r id).map fun j => cX I b (.own j 0 n) := by
 rw [eW I b _ h, eB (E3 _), List.mapM_cons, oG (E3 _)]
 cases hr : r id with
 | none => simp [m8, hr]
 | some j => simp [m8, hr, eW I b (.own j 0 n) h]
theorem a0i (I : List (List Int)) (b : Nat) (x : AV) (n : Nat) (h : I.length ≤ n) : List.take n (cX I b x) = cX I b x := List.take_of_length_le (by rw [uZ]; exact h)
theorem qW {n : Nat} {L : List (List Int)} (b : Nat) (v : List Int) (h : L.length = n) : List.take n (lists (L.set b v)) = lists (L.set b v) := e9 (by rw [List.length_set]; exact h)
theorem a3D (I : List (List Int)) (b : Nat) (id k : Nat) (h : Nat → RS) (n : Nat) : ((cX I b (.own id 0 k)).mapM fun (e : List AV) => e.mapM (D8 h n)) = if b < I.length then (D8 h n (.own id 0 k)).map (fun y => cX I b y) else some (lists I) := by
 have hf : ∀ l : List (List Int), ((lists l).mapM fun (e : List AV) => e.mapM (D8 h n)) = some (lists l) := fun l => iA fun e he => iA fun x hx => by
   simp only [lists, List.mem_map] at he
   obtain ⟨a, _, rfl⟩ := he
   rw [List.mem_singleton] at hx
   subst hx
   cases n <;> rfl
 by_cases hb : b < I.length
 · rw [if_pos hb, eW I b _ hb, vB, hf, List.mapM_cons, hf]
   cases hq : D8 h n (.own id 0 k) with
   | none => simp [hq]
   | some y => simp [hq, eW I b y hb]
 · rw [if_neg hb]
   have : cX I b (.own id 0 k) = lists I := by
     unfold cX; rw [List.set_eq_of_length_le (by simp [lists]; omega)]
   rw [this, hf]
theorem qX (I : List (List Int)) (b : Nat) (id k : Nat) (h : Nat → RS) (n : Nat) (hb : b < I.length) : ((cX I b (.own id 0 k)).flatMap fun (e : List AV) => e.flatMap (a8 h n)) = a8 h n (.own id 0 k) := by
 have hf : ∀ l : List (List Int), ((lists l).flatMap fun (e : List AV) => e.flatMap (a8 h n)) = [] := by
   intro l
   rw [List.flatMap_eq_nil_iff]
   intro e he
   simp only [lists, List.mem_map] at he
   obtain ⟨a, _, rfl⟩ := he
   cases n <;> rfl
 rw [eW I b _ hb, List.flatMap_append, hf, List.flatMap_cons, hf]
 simp
theorem kD (l : List Int) (r : Int) : (l8 l r).length ≤ l.length := List.length_filter_le _ _
theorem oO {l : List Int} {i : Nat} (h : i < l.length) (r : Int) : l8 (l.take (i + 1)) r = if l.getD i 0 = r then l8 (l.take i) r else l8 (l.take i) r ++ [l.getD i 0] := by
 rw [N0 l i 0 h]
 unfold l8
 rw [List.filter_append]
 by_cases e : l.getD i 0 = r
 · rw [if_pos e]; simp only [List.filter_cons, List.filter_nil, e, ne_eq, not_true_eq_false, decide_false, Bool.false_eq_true, if_false, List.append_nil]
 · rw [if_neg e]; simp only [List.filter_cons, List.filter_nil, e, ne_eq, not_false_eq_true, decide_true, if_true]
theorem a0g (l : List (List Int)) : (∀ e ∈ lists l, ∀ x ∈ e, AV.one x = true) = True := by
 simp only [eq_iff_iff, iff_true, lists, List.mem_map]
 rintro e ⟨_, _, rfl⟩ x hx
 simp only [List.mem_cons, List.not_mem_nil, or_false] at hx
 subst hx; rfl
def wY (l : List Int) (r : Int) : List Int := if (l8 l r).length = l.length then K9 l r else l8 l r
def nE (c : Code) (d1 : Int) : Nat := (d1 % c.b.length).toNat
def wZ (c : Code) (d2 : Int) : Int := d2 % (c.r9 + 2) - 1
def A8 (c : Code) (I O : List (List Int)) (d0 d1 d2 : Int) : List (List Int) × List (List Int) :=
 if d0 % 2 = 1 then (I, O.set (nE c d1) (wY (O.getD (nE c d1) []) (wZ c d2))) else (I.set (nE c d1) (wY (I.getD (nE c d1) []) (wZ c d2)), O)
def fO := ZZ.mk (Zq @uM (Zq @uZ (Zq @a08 (Zq @a3F (Zq @a3E (Zq @b1b (Zq @a3D (Zq @qX (Zq @a0i (Zq @s8 (Zq @s7 (Zq @E3 (Zq @H4 (Zq @a0g (Zq @z8 (Zq @e9 (Zq @qW (Zq @List.length_set.{0} (Zq @b8 (Zq @u7 (Zq @B4 (Zq @N9 (Zq @c6 (Zq @r6 (Zq @N7 (Zq @G7 (Zq @B1 (Zq @Int.toNat_natCast (Zq @not_true_eq_false (Zq @not_false_eq_true (Zq @decide_false (Zq @decide_true (Zq @b5 @b6)))))))))))))))))))))))))))))))))
theorem eQ (c : Code) (I O : List (List Int)) (d0 d1 d2 : Int) (hc : z6 c) (h1 : I.length = c.b.length) (h2 : O.length = c.b.length) (hd0 : 0 ≤ d0 ∧ d0 < 256) (hd1 : 0 ≤ d1 ∧ d1 < 256) (hd2 : 0 ≤ d2 ∧ d2 < 256) (hlI : M2 100000 I) (hlO : M2 100000 O) :
   e8 Tryd.prog 14 [.agg c.av, .agg [.b7 false (lists I), .b7 false (lists O)], .agg [.v (.int .u8 d0), .v (.int .u8 d1), .v (.int .u8 d2)]] (fun _ => .agg [.b7 false (lists (A8 c I O d0 d1 d2).1), .b7 false (lists (A8 c I O d0 d1 d2).2)]) (fun _ => []) := by
 have hr := hc.r
 have hn := hc.n
 obtain ⟨b, hbz, hbl⟩ : ∃ b : Nat, d1.tmod (c.b.length : Int) = b ∧ b < c.b.length := by
   have h3 := Int.emod_nonneg d1 (show (c.b.length : Int) ≠ 0 by omega)
   have h4 := Int.emod_lt_of_pos d1 (show (0 : Int) < c.b.length by omega)
   exact ⟨(d1 % c.b.length).toNat, by rw [p7 _ _ hd1.1]; omega, by omega⟩
 have hrb : 0 ≤ d2.tmod (c.r9 + 2) ∧ d2.tmod (c.r9 + 2) < c.r9 + 2 := by
   rw [p7 _ _ hd2.1]
   exact ⟨Int.emod_nonneg _ (by omega), Int.emod_lt_of_pos _ (by omega)⟩
 obtain ⟨q, hrz⟩ : ∃ q, d2.tmod (c.r9 + 2) = q := ⟨_, rfl⟩
 rw [hrz] at hrb
 obtain ⟨rr, hrr⟩ : ∃ rr, q = rr + 1 := ⟨q - 1, by omega⟩
 subst hrr
 have hss : rr + 1 - 1 = rr := by omega
 have hB : nE c d1 = b := by unfold nE; rw [← p7 _ _ hd1.1, hbz, Int.toNat_natCast]
 have hR : wZ c d2 = rr := by unfold wZ; rw [← p7 _ _ hd2.1, hrz]; omega
 unfold A8
 rw [hB, hR]
 by_cases hd : d0 % 2 = 1
 · have hdd : d0.tmod 2 = 1 := by rw [p7 _ _ hd0.1]; exact hd
   rw [if_pos hd]
   clear hB hR hd
   simp only
   have plL := fun id n => iU O b id n (by omega)
   have reL := fun id n r => oA O b id n r (by omega)
   have hol : (O.getD b []).length ≤ 100000 := hlO b
   obtain ⟨cP, hold⟩ : ∃ cP, cP = O.getD b [] := ⟨_, rfl⟩
   have hold' : O.getD b [] = cP := hold.symm
   rw [hold'] at hol
   have CA := bZ cP rr (by omega)
   refine Zf Tryd.func14 Tryd.ntmps14 ?_; simp only [Code.av]
   repeat' (first | refine Za ?_ | (with_reducible first | refine Zz.mk fun N hN mk hmk => ?_ | refine Zb.mk fun N hN => ?_ | refine Zi.mk fun h => ?_ | refine ⟨fun h => ?_, fun h => ?_⟩ | exact True.intro) | (refine hN _ ?_; clear hN N) | (refine Zk hmk ?_; clear hmk mk) | refine Zt (Zq fO.d (Zq hold' (Zq plL (Zq reL (Zq hdd (Zq hss (Zq h1 (Zq h2 (Zq hbz hrz))))))))) ?_ | fail)
   refine l9 (fun i => ⟨[.dead, .dead, .dead, .dead, .dead, .dead, .ptr 0 0 0, .v (.int .i64 b), .v (.int .i64 rr), .own 1 0 c.b.length, .own 2 0 c.b.length, .own 2 0 c.b.length, .b7 false (e7 cP), .v (.int .i64 i), .dead, .dead, .dead, .dead, .dead, .dead, .dead, .dead, .dead, .dead, .dead, .dead, .dead, .dead, .dead, .dead, .dead, .dead, .dead, .dead, .dead, .dead, .dead, .dead, .dead, .dead, .dead, .dead, .dead, .dead, .dead, .dead, .dead, .dead, .dead, .dead, .dead, .dead, .dead, .dead, .dead, .dead, .dead, .dead, .dead, .dead, .dead, .dead, .dead, .dead, .dead, .dead, .dead, .dead, .dead, .dead, .dead, .dead, .dead, .dead, .dead, .dead, .dead, .dead, .dead, .dead, .dead, .dead, .dead, .dead, .dead, .dead, .dead, .dead, .dead, .dead, .dead, .dead, .dead, .dead, .dead, .dead, .dead, .dead, .dead, .dead, .dead, .dead, .dead, .dead, .dead, .dead, .dead, .dead, .dead, .dead], [(0, .live ⟨2, [[.b7 true [], .b7 true []]], 0⟩), (1, .live ⟨1, lists I, 0⟩), (2, .live ⟨1, cX O b (.own 3 0 (l8 (cP.take i) rr).length), 0⟩), (3, .live ⟨1, e7 (l8 (cP.take i) rr), 0⟩)], 4⟩) cP.length (Zw [6,7,8,9,10,11,12,13] [24, 320, 352, 496] (Zq fO.d (Zq hold' (Zq plL (Zq reL (Zq hdd (Zq hss (Zq h1 (Zq h2 (Zq hbz hrz))))))))) ?_) ?_
   · rw [List.take_zero]; simp only [List.getD_eq_getElem?_getD]; rfl
   · intro i hi
     dsimp only
     have hwl := kD (cP.take i) rr
     rw [List.length_take] at hwl
     by_cases hin : i < cP.length
     · have hwn := oO hin rr
       rw [hold'] at *
       generalize l8 (cP.take i) rr = W at *
       repeat' (first | refine Za ?_ | (with_reducible first | refine Zz.mk fun N hN mk hmk => ?_ | refine Zb.mk fun N hN => ?_ | refine Zi.mk fun h => ?_ | refine ⟨fun h => ?_, fun h => ?_⟩ | exact True.intro) | (refine hN _ ?_; clear hN N) | (refine Zk hmk ?_; clear hmk mk) | refine Zt (Zq fO.d (Zq hold' (Zq plL (Zq reL (Zq hdd (Zq hss (Zq h1 (Zq h2 (Zq hbz hrz))))))))) ?_ | fail)
       · refine Zw [6,7,8,9,10,11,12,13] [0, 1, 2, 172] (Zq fO.d (Zq hold' (Zq plL (Zq reL (Zq hdd (Zq hss (Zq h1 (Zq h2 (Zq hbz hrz))))))))) ?_
         rw [hwn, if_neg (by first | assumption | omega), List.length_append]; rfl
       · refine Zw [6,7,8,9,10,11,12,13] [0, 1, 2, 3] (Zq fO.d (Zq hold' (Zq plL (Zq reL (Zq hdd (Zq hss (Zq h1 (Zq h2 (Zq hbz hrz))))))))) ?_
         rw [hwn, if_pos (by first | assumption | exact Decidable.not_not.1 ‹_›)]; rfl
     · have e : i = cP.length := by omega
       subst e
       simp only [List.take_length] at *
       unfold wY
       generalize l8 cP rr = W at *
       by_cases gD : W.length = cP.length
       · rw [if_pos gD]
         have hci : ((W.length : Int) = (cP.length : Int)) = True := by rw [gD]; simp
         repeat' (first | refine Za ?_ | (with_reducible first | refine Zz.mk fun N hN mk hmk => ?_ | refine Zb.mk fun N hN => ?_ | refine Zi.mk fun h => ?_ | refine ⟨fun h => ?_, fun h => ?_⟩ | exact True.intro) | refine Zc CA ?_ | (refine hN _ ?_; clear hN N) | (refine Zk hmk ?_; clear hmk mk) | refine Zt (Zq fO.d (Zq hci (Zq gD (Zq plL (Zq reL (Zq hdd (Zq hss (Zq h1 (Zq h2 (Zq hbz hrz)))))))))) ?_ | fail)
       · rw [if_neg gD]
         have hbT : (b < c.b.length) = True := by simp [hbl]
         have hci : ((W.length : Int) = (cP.length : Int)) = False := by simp; omega
         repeat' (first | refine Za ?_ | (with_reducible first | refine Zz.mk fun N hN mk hmk => ?_ | refine Zb.mk fun N hN => ?_ | refine Zi.mk fun h => ?_ | refine ⟨fun h => ?_, fun h => ?_⟩ | exact True.intro) | refine Zc CA ?_ | (refine hN _ ?_; clear hN N) | (refine Zk hmk ?_; clear hmk mk) | refine Zt (Zq fO.d (Zq hbT (Zq hci (Zq plL (Zq reL (Zq hdd (Zq hss (Zq h1 (Zq h2 (Zq hbz hrz)))))))))) ?_ | fail)
 · have hdd : d0.tmod 2 = 0 := by rw [p7 _ _ hd0.1]; omega
   rw [if_neg hd]
   clear hB hR hd
   simp only
   have plL := fun id n => iU I b id n (by omega)
   have reL := fun id n r => oA I b id n r (by omega)
   have hol : (I.getD b []).length ≤ 100000 := hlI b
   obtain ⟨cP, hold⟩ : ∃ cP, cP = I.getD b [] := ⟨_, rfl⟩
   have hold' : I.getD b [] = cP := hold.symm
   rw [hold'] at hol
   have CA := bZ cP rr (by omega)
   refine Zf Tryd.func14 Tryd.ntmps14 ?_; simp only [Code.av]
   repeat' (first | refine Za ?_ | (with_reducible first | refine Zz.mk fun N hN mk hmk => ?_ | refine Zb.mk fun N hN => ?_ | refine Zi.mk fun h => ?_ | refine ⟨fun h => ?_, fun h => ?_⟩ | exact True.intro) | (refine hN _ ?_; clear hN N) | (refine Zk hmk ?_; clear hmk mk) | refine Zt (Zq fO.d (Zq hold' (Zq plL (Zq reL (Zq hdd (Zq hss (Zq h1 (Zq h2 (Zq hbz hrz))))))))) ?_ | fail)
   refine l9 (fun i => ⟨[.dead, .dead, .dead, .dead, .dead, .dead, .ptr 0 0 0, .v (.int .i64 b), .v (.int .i64 rr), .own 1 0 c.b.length, .own 2 0 c.b.length, .own 1 0 c.b.length, .b7 false (e7 cP), .v (.int .i64 i), .dead, .dead, .dead, .dead, .dead, .dead, .dead, .dead, .dead, .dead, .dead, .dead, .dead, .dead, .dead, .dead, .dead, .dead, .dead, .dead, .dead, .dead, .dead, .dead, .dead, .dead, .dead, .dead, .dead, .dead, .dead, .dead, .dead, .dead, .dead, .dead, .dead, .dead, .dead, .dead, .dead, .dead, .dead, .dead, .dead, .dead, .dead, .dead, .dead, .dead, .dead, .dead, .dead, .dead, .dead, .dead, .dead, .dead, .dead, .dead, .dead, .dead, .dead, .dead, .dead, .dead, .dead, .dead, .dead, .dead, .dead, .dead, .dead, .dead, .dead, .dead, .dead, .dead, .dead, .dead, .dead, .dead, .dead, .dead, .dead, .dead, .dead, .dead, .dead, .dead, .dead, .dead, .dead, .dead, .dead, .dead], [(0, .live ⟨2, [[.b7 true [], .b7 true []]], 0⟩), (1, .live ⟨1, cX I b (.own 3 0 (l8 (cP.take i) rr).length), 0⟩), (2, .live ⟨1, lists O, 0⟩), (3, .live ⟨1, e7 (l8 (cP.take i) rr), 0⟩)], 4⟩) cP.length (Zw [6,7,8,9,10,11,12,13] [24, 320, 352, 480] (Zq fO.d (Zq hold' (Zq plL (Zq reL (Zq hdd (Zq hss (Zq h1 (Zq h2 (Zq hbz hrz))))))))) ?_) ?_
   · rw [List.take_zero]; simp only [List.getD_eq_getElem?_getD]; rfl
   · intro i hi
     dsimp only
     have hwl := kD (cP.take i) rr
     rw [List.length_take] at hwl
     by_cases hin : i < cP.length
     · have hwn := oO hin rr
       rw [hold'] at *
       generalize l8 (cP.take i) rr = W at *
       repeat' (first | refine Za ?_ | (with_reducible first | refine Zz.mk fun N hN mk hmk => ?_ | refine Zb.mk fun N hN => ?_ | refine Zi.mk fun h => ?_ | refine ⟨fun h => ?_, fun h => ?_⟩ | exact True.intro) | (refine hN _ ?_; clear hN N) | (refine Zk hmk ?_; clear hmk mk) | refine Zt (Zq fO.d (Zq hold' (Zq plL (Zq reL (Zq hdd (Zq hss (Zq h1 (Zq h2 (Zq hbz hrz))))))))) ?_ | fail)
       · refine Zw [6,7,8,9,10,11,12,13] [0, 1, 2, 172] (Zq fO.d (Zq hold' (Zq plL (Zq reL (Zq hdd (Zq hss (Zq h1 (Zq h2 (Zq hbz hrz))))))))) ?_
         rw [hwn, if_neg (by first | assumption | omega), List.length_append]; rfl
       · refine Zw [6,7,8,9,10,11,12,13] [0, 1, 2, 3] (Zq fO.d (Zq hold' (Zq plL (Zq reL (Zq hdd (Zq hss (Zq h1 (Zq h2 (Zq hbz hrz))))))))) ?_
         rw [hwn, if_pos (by first | assumption | exact Decidable.not_not.1 ‹_›)]; rfl
     · have e : i = cP.length := by omega
       subst e
       simp only [List.take_length] at *
       unfold wY
       generalize l8 cP rr = W at *
       by_cases gD : W.length = cP.length
       · rw [if_pos gD]
         have hci : ((W.length : Int) = (cP.length : Int)) = True := by rw [gD]; simp
         repeat' (first | refine Za ?_ | (with_reducible first | refine Zz.mk fun N hN mk hmk => ?_ | refine Zb.mk fun N hN => ?_ | refine Zi.mk fun h => ?_ | refine ⟨fun h => ?_, fun h => ?_⟩ | exact True.intro) | refine Zc CA ?_ | (refine hN _ ?_; clear hN N) | (refine Zk hmk ?_; clear hmk mk) | refine Zt (Zq fO.d (Zq hci (Zq gD (Zq plL (Zq reL (Zq hdd (Zq hss (Zq h1 (Zq h2 (Zq hbz hrz)))))))))) ?_ | fail)
       · rw [if_neg gD]
         have hbT : (b < c.b.length) = True := by simp [hbl]
         have hci : ((W.length : Int) = (cP.length : Int)) = False := by simp; omega
         repeat' (first | refine Za ?_ | (with_reducible first | refine Zz.mk fun N hN mk hmk => ?_ | refine Zb.mk fun N hN => ?_ | refine Zi.mk fun h => ?_ | refine ⟨fun h => ?_, fun h => ?_⟩ | exact True.intro) | refine Zc CA ?_ | (refine hN _ ?_; clear hN N) | (refine Zk hmk ?_; clear hmk mk) | refine Zt (Zq fO.d (Zq hbT (Zq hci (Zq plL (Zq reL (Zq hdd (Zq hss (Zq h1 (Zq h2 (Zq hbz hrz)))))))))) ?_ | fail)
def wI : List (List Int) := [[], [1], [0, 1]]
def wO : List (List Int) := [[0, 1], [0, 1], []]
theorem gC : z6 kL := by
 refine ⟨by decide, by decide, fun x hx => ?_⟩
 have oo : ∀ o : J8, (o = O0 ∨ o = xr 0 ∨ o = xr 1 ∨ o = xk 1 ∨ o = xk 2) → U3 kL.r9 o := by
   rintro o (rfl | rfl | rfl | rfl | rfl) h
   · simp [O0] at h
   · exact ⟨by decide, by decide⟩
   · exact ⟨by decide, by decide⟩
   · simp [xk] at h
   · simp [xk] at h
 simp only [kL, exB, List.mem_cons, List.not_mem_nil, or_false] at hx
 rcases hx with rfl | rfl | rfl
 · refine ⟨fun i hi => ?_, ⟨oo _ (by simp), oo _ (by simp), oo _ (by simp), fun _ => by decide, fun _ => by decide, fun h => by simp [O0] at h⟩, by decide⟩
   simp only [List.mem_cons, List.not_mem_nil, or_false] at hi
   rcases hi with rfl | rfl
   · exact ⟨oo _ (by simp), oo _ (by simp), oo _ (by simp), oo _ (by simp)⟩
   · exact ⟨oo _ (by simp), oo _ (by simp), oo _ (by simp), oo _ (by simp)⟩
 · refine ⟨fun i hi => ?_, ⟨oo _ (by simp), oo _ (by simp), oo _ (by simp), fun _ => by decide, fun h => by simp at h, fun h => by simp [O0] at h⟩, by decide⟩
   simp only [List.mem_cons, List.not_mem_nil, or_false] at hi
   rcases hi with rfl
   exact ⟨oo _ (by simp), oo _ (by simp), oo _ (by simp), oo _ (by simp)⟩
 · refine ⟨fun i hi => ?_, ⟨oo _ (by simp), oo _ (by simp), oo _ (by simp), fun h => by simp at h, fun h => by simp at h, fun h => by simp [O0] at h⟩, by decide⟩
   simp only [List.mem_cons, List.not_mem_nil, or_false] at hi
   rcases hi with rfl
   exact ⟨oo _ (by simp), oo _ (by simp), oo _ (by simp), oo _ (by simp)⟩
theorem exR : fF exB 0 ∧ fF exB 1 ∧ fF exB 2 := by
 have h0 : fF exB 0 := .zero
 have h1 : fF exB 1 := .step h0 (by decide)
 have h2 : fF exB 2 := .step h0 (by decide)
 exact ⟨h0, h1, h2⟩
theorem b0q : reachF kL.b = [true, true, true] := by
 apply List.ext_getElem?
 intro b
 have hl := M8 kL.b
 have hl3 : kL.b.length = 3 := rfl
 by_cases hb : b < 3
 · have h1 := T8 kL.b (b := b) (by omega)
   have h2 : (reachF kL.b).getD b false = true := h1.2 (by
     obtain ⟨a, b', c⟩ := exR
     rcases (show b = 0 ∨ b = 1 ∨ b = 2 by omega) with rfl | rfl | rfl
     · exact a
     · exact b'
     · exact c)
   rw [List.getD_eq_getElem?_getD, List.getElem?_eq_getElem (by omega)] at h2
   rw [List.getElem?_eq_getElem (by omega)]
   have h2 : (reachF kL.b)[b] = true := h2
   refine (congrArg some h2).trans ?_
   rcases (show b = 0 ∨ b = 1 ∨ b = 2 by omega) with rfl | rfl | rfl <;> rfl
 · rw [List.getElem?_eq_none (by omega), List.getElem?_eq_none (by simp; omega)]
theorem pC : cI kL.r9 wI ∧ cI kL.r9 wO := by
 constructor <;> · unfold cI rC; decide
theorem b5f : chkF kL wI wO = 0 := by
 refine kK ⟨⟨pC.1, rfl⟩, ⟨pC.2, rfl⟩, fun b hb _ => ?_⟩
 have hb : b < 3 := hb
 rcases (show b = 0 ∨ b = 1 ∨ b = 2 by omega) with rfl | rfl | rfl <;> (unfold a4Z; decide)
theorem b5d : chkF kL [[], [], [0, 1]] wO = 100 := by
 refine aZ fun h => ?_
 have := h.2.2 1 (by decide) exR.2.1
 revert this
 unfold a4Z; decide
theorem b5e : chkF kL [] [] = 100 := aZ fun h => by have := h.1.2; simp [kL, exB] at this
theorem b6z : prF kL wI wO kL.b.length = 2 := by
 show prF kL wI wO 3 = 2
 simp only [prF, b0q]
 decide
theorem b5b : atR kL wO 0 1 = [0] := by decide
theorem b5c : atR kL wO 3 0 = [] := by decide
theorem b6w : FI kL wI wO := by
 have f := ((( FI.zero kL).set gC (b := 2) (by decide) exR.2.2).set gC (b := 1) (by decide) exR.2.1).set gC (b := 0) (by decide) exR.1
 have h : ∀ I O, FI kL I O → I = wI → O = wO → FI kL wI wO := fun I O h e1 e2 => e1 ▸ e2 ▸ h
 exact h _ _ f (by decide) (by decide)
theorem b2A : liveF kL = (wI, wO) := b6w.done fun b hb _ => by
 have hb : b < 3 := hb
 rcases (show b = 0 ∨ b = 1 ∨ b = 2 by omega) with rfl | rfl | rfl <;> decide
structure Stop (p : Prop) : Prop where
 out : p
theorem jB {p : Prop} (h : Stop p) : p := h.out
theorem fD {p : Prop} (h : p) : Stop p := ⟨h⟩
theorem b08 (l : List (List Int)) (h : ∀ x ∈ l, x.length ≤ 1000) (i : Nat) : (l.getD i []).length ≤ 1000 := by
 by_cases hi : i < l.length
 · rw [List.getD_eq_getElem?_getD, List.getElem?_eq_getElem hi]; exact h _ (List.getElem_mem hi)
 · rw [List.getD_eq_getElem?_getD, List.getElem?_eq_none (by omega)]; simp
theorem bW : e8 Tryd.prog 9 [] (fun _ => .v (.bool true)) (fun _ => []) := by
 have C1 := a5d
 have C2 := gO kL gC
 rw [b2A] at C2
 have lw : ∀ i, (wI.getD i []).length ≤ 1000 := b08 _ (by decide)
 have lo : ∀ i, (wO.getD i []).length ≤ 1000 := b08 _ (by decide)
 have C3 := a0p wI wO wI wO (by decide) (by decide) (by decide) (by decide) lw lo
 rw [decide_eq_true ⟨rfl, rfl⟩] at C3
 have C4 := P7 kL wI wO gC (by decide) lw (by decide) lo
 rw [b5f] at C4
 have C5 := P7 kL [[], [], [0, 1]] wO gC (by decide) (b08 _ (by decide)) (by decide) lo
 rw [b5d] at C5
 have C6 := P7 kL [] [] gC (by decide) (by simp) (by decide) (by simp)
 rw [b5e] at C6
 have C7 := cD kL wI wO gC (by decide) pC.1 pC.2 rfl rfl
 rw [b6z] at C7
 have C8 := a4Q kL wI wO 0 1 gC rfl (eZ pC.2 (by decide)) lo
 rw [b5b] at C8
 have C9 := a4Q kL wI wO 3 0 gC rfl (eZ pC.2 (by decide)) lo
 rw [b5c] at C9
 have C0 := oE [0] [0] (by decide)
 rw [show wD [0] [0] = true from by decide] at C0
 generalize kL = xc at *
 simp only [Code.av] at C1 C2 C4 C5 C6 C7 C8 C9
 generalize Q5 xc.D7 = xa at *
 generalize loops xc.loops = xl at *
 generalize E0 xc.b = xb at *
 refine Zf Tryd.func9 Tryd.ntmps9 ?_
 repeat' (first | (guard_target =~ AK Tryd.prog (Go.Code.seq (Go.Code.region 4 _ _) _) _ _ _; refine jB ?_) | refine Za ?_ | (with_reducible first | refine Zz.mk fun N hN mk hmk => ?_ | refine Zb.mk fun N hN => ?_ | refine Zi.mk fun h => ?_ | refine ⟨fun h => ?_, fun h => ?_⟩ | exact True.intro) | refine Zc C1 ?_ | refine Zc C2 ?_ | (refine hN _ ?_; clear hN N) | (refine Zk hmk ?_; clear hmk mk) | refine Zt aY.d ?_ | fail)
 refine fD ?_
 refine w7 (L5 136 0 0 6 (.own 88 0 3) (.b7 false (lists wI)) rfl rfl rfl) ?_
 simp (maxSteps := 10000000) (disch := omega) only [a8, n6, A9, L8, aY.d, r7, Z3, A2, H3, x9, u6, AV.kept, l7, n6, A3, I6, y7, x5, Go.MapKept.IsKey, r8, B8, AV.plain, rd, D8, a8, Z2, w6, AV.j8, AV.aS, AV.I5, AV.V7, AV.scalar, bC, y8, H6, H9, I3, H8, x4, H5, bD, y9, H7, G9, m9, bB, o9, F2, F1, Z8, F9, o6, TD.isRow, A1, n8, o8, n4, L8, Value.oneCell', ↓reduceIte, Int.reduceNe, Int.reduceEq, Nat.reduceAdd, Nat.reduceLT, Nat.reduceLeDiff, Nat.reduceSub, Nat.reduceMul, Nat.reduceBEq, Nat.reduceEqDiff, reduceCtorEq, Int.reduceToNat, ← decide_not, ← Bool.decide_and, sA, sN]
 refine w7 (L5 136 0 1 6 (.own 120 0 3) (.b7 false (lists wO)) rfl rfl rfl) ?_
 simp (maxSteps := 10000000) (disch := omega) only [a8, n6, A9, L8, aY.d, r7, Z3, A2, H3, x9, u6, AV.kept, l7, n6, A3, I6, y7, x5, Go.MapKept.IsKey, r8, B8, AV.plain, rd, D8, a8, Z2, w6, AV.j8, AV.aS, AV.I5, AV.V7, AV.scalar, bC, y8, H6, H9, I3, H8, x4, H5, bD, y9, H7, G9, m9, bB, o9, F2, F1, Z8, F9, o6, TD.isRow, A1, n8, o8, n4, L8, Value.oneCell', ↓reduceIte, Int.reduceNe, Int.reduceEq, Nat.reduceAdd, Nat.reduceLT, Nat.reduceLeDiff, Nat.reduceSub, Nat.reduceMul, Nat.reduceBEq, Nat.reduceEqDiff, reduceCtorEq, Int.reduceToNat, ← decide_not, ← Bool.decide_and, sA, sN]
 generalize hwI : lists wI = LI at *
 generalize hwO : lists wO = LO at *
 repeat' (first | (guard_target =~ AK Tryd.prog (Go.Code.seq (Go.Code.region 5 _ _) _) _ _ _; refine jB ?_) | refine Za ?_ | (with_reducible first | refine Zz.mk fun N hN mk hmk => ?_ | refine Zb.mk fun N hN => ?_ | refine Zi.mk fun h => ?_ | refine ⟨fun h => ?_, fun h => ?_⟩ | exact True.intro) | (refine hN _ ?_; clear hN N) | (refine Zk hmk ?_; clear hmk mk) | refine Zt aY.d ?_ | fail)
 refine fD ?_
 refine w7 (L5 208 0 0 6 (.own 176 0 3) (.b7 false (lists [[], [], [0, 1]])) rfl rfl rfl) ?_
 simp (maxSteps := 10000000) (disch := omega) only [a8, n6, A9, L8, aY.d, r7, Z3, A2, H3, x9, u6, AV.kept, l7, n6, A3, I6, y7, x5, Go.MapKept.IsKey, r8, B8, AV.plain, rd, D8, a8, Z2, w6, AV.j8, AV.aS, AV.I5, AV.V7, AV.scalar, bC, y8, H6, H9, I3, H8, x4, H5, bD, y9, H7, G9, m9, bB, o9, F2, F1, Z8, F9, o6, TD.isRow, A1, n8, o8, n4, L8, Value.oneCell', ↓reduceIte, Int.reduceNe, Int.reduceEq, Nat.reduceAdd, Nat.reduceLT, Nat.reduceLeDiff, Nat.reduceSub, Nat.reduceMul, Nat.reduceBEq, Nat.reduceEqDiff, reduceCtorEq, Int.reduceToNat, ← decide_not, ← Bool.decide_and, sA, sN]
 generalize hwB : lists [[], [], [0, 1]] = LB at *
 simp only [e7, lists, List.map_cons, List.map_nil] at C0 C6 C8 C9
 repeat' (first | refine Za ?_ | (with_reducible first | refine Zz.mk fun N hN mk hmk => ?_ | refine Zb.mk fun N hN => ?_ | refine Zi.mk fun h => ?_ | refine ⟨fun h => ?_, fun h => ?_⟩ | exact True.intro) | refine Zc C3 ?_ | refine Zc C4 ?_ | refine Zc C5 ?_ | (refine aA C6 rfl ?_ rfl ?_; (next => (simp (disch := omega) only [aY.d, D8, Nat.reduceBEq, AV.plain, Nat.reduceAdd, Nat.reduceLeDiff, Nat.reduceLT, ↓reduceIte, sF] <;> first | done | rfl))) | (refine X3 C6 rfl ?_ rfl ?_; (next => (simp (disch := omega) only [aY.d, D8, Nat.reduceBEq, AV.plain, Nat.reduceAdd, Nat.reduceLeDiff, Nat.reduceLT, ↓reduceIte, sF] <;> first | done | rfl))) | refine Zc C7 ?_ | refine Zc C8 ?_ | refine Zc C9 ?_ | (refine aA C0 rfl ?_ rfl ?_; (next => (simp (disch := omega) only [aY.d, D8, Nat.reduceBEq, AV.plain, Nat.reduceAdd, Nat.reduceLeDiff, Nat.reduceLT, ↓reduceIte, sF] <;> first | done | rfl))) | (refine X3 C0 rfl ?_ rfl ?_; (next => (simp (disch := omega) only [aY.d, D8, Nat.reduceBEq, AV.plain, Nat.reduceAdd, Nat.reduceLeDiff, Nat.reduceLT, ↓reduceIte, sF] <;> first | done | rfl))) | (refine hN _ ?_; clear hN N) | (refine Zk hmk ?_; clear hmk mk) | refine Zt aY.d ?_ | fail)
 all_goals simp
end Go.Proofs.YtfccigmfcpimgaaDoor
end
