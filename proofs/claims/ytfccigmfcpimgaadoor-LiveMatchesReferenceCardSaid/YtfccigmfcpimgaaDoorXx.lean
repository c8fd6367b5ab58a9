/- Own work (by an AI agent; no person has read it): part of a proof of the seat YtfccigmfcpimgaaDoor. -/
import Derived.Test.YtfccigmfcpimgaaDoorXi
import Derived.Test.YtfccigmfcpimgaaDoorXj
set_option linter.unusedSimpArgs false
set_option linter.unusedVariables false
set_option maxRecDepth 100000
set_option maxHeartbeats 10000000
section
namespace Go.Proofs.YtfccigmfcpimgaaDoor
open Go.Ab
def prV (B : c5) (out : List Int) (i : Nat) : Int := (U2 (eE B out (i + 1)) (O8 (B.i.getD i I0))).length
def mE (B : c5) (out : List Int) (m : Int) (l : List Nat) : Int := l.foldl (fun m i => mx m (prV B out i)) m
theorem b1m (a b c : Int) : mx (mx a b) c = mx (mx a c) b := by
 unfold mx
 repeat' split
 all_goals omega
theorem b3g (B : c5) (out : List Int) (l : List Nat) : ∀ (m y : Int), mE B out (mx m y) l = mx (mE B out m l) y := by
 induction l with
 | nil => intro m y; rfl
 | cons x l ih => intro m y; show mE B out (mx (mx m y) _) l = mx (mE B out (mx m _) l) y; rw [b1m, ih]
theorem b1E (B : c5) (out : List Int) (l : List Nat) (m : Int) : mE B out m l.reverse = mE B out m l := by
 induction l generalizing m with
 | nil => rfl
 | cons x l ih =>
   rw [List.reverse_cons]
   show (l.reverse ++ [x]).foldl _ m = _
   rw [List.foldl_append]
   show mx (mE B out m l.reverse) _ = mE B out (mx m _) l
   rw [ih, b3g]
theorem a0N (B : c5) (out : List Int) (k : Nat) (hk : k ≤ B.i.length) : cM B.i out (L7 B.i.length k) = eE B out (B.i.length - k) := by
 unfold cM eE
 induction k with
 | zero => simp [L7]
 | succ k ih =>
   rw [fR, List.foldl_append, ih (by omega), show B.i.length - k = (B.i.length - (k + 1)) + 1 from by omega, List.drop_eq_getElem_cons (i := B.i.length - (k + 1)) (by omega), List.foldr_cons]
   simp only [List.foldl_cons, List.foldl_nil]
   rw [show B.i.length - 1 - k = B.i.length - (k + 1) from by omega, List.getD_eq_getElem?_getD, List.getElem?_eq_getElem (by omega)]
   rfl
theorem b3f (B : c5) (out : List Int) (m : Int) (k : Nat) (hk : k ≤ B.i.length) : (lG B.i m out (L7 B.i.length k)).1 = mE B out m (L7 B.i.length k) := by
 induction k with
 | zero => rfl
 | succ k ih =>
   rw [fR, a0n]
   show mx (lG B.i m out (L7 B.i.length k)).1 (U2 (lG B.i m out (L7 B.i.length k)).2 _).length = (L7 B.i.length k ++ [B.i.length - 1 - k]).foldl _ m
   rw [List.foldl_append, ih (by omega), a3W, a0N B out k (by omega)]
   show _ = mx (mE B out m (L7 B.i.length k)) (prV B out (B.i.length - 1 - k))
   unfold prV
   rw [show B.i.length - 1 - k + 1 = B.i.length - k from by omega]
theorem a47 (n : Nat) : L7 n n = (List.range n).reverse := by
 apply List.ext_getElem
 · simp [L7]
 · intro i h1 h2
   simp [L7] at h1 ⊢
theorem b5w (I O : List (List Int)) (B : c5) (b : Nat) (m : Int) : prB I O B b m = prT I B.t (mE B (O.getD b []) (mx (mx m (I.getD b []).length) (O.getD b []).length) (List.range B.i.length)) := by
 unfold prB
 rw [b3f B _ _ _ (Nat.le_refl _), a47, b1E]
theorem a8W (B : c5) (out : List Int) (m : Int) (i : Nat) : mE B out m (List.range (i + 1)) = mx (mE B out m (List.range i)) (prV B out i) := by
 unfold mE; rw [List.range_succ, List.foldl_append]; rfl
def a4C := ZZ.mk (Zq @s8 (Zq @z8 (Zq @H4 (Zq @s7 (Zq @u7 (Zq @m6 (Zq @cW (Zq @u4 (Zq @c5.av.eq_1 (Zq @u2.av.eq_1 (Zq @List.cons_append.{0} (Zq @List.nil_append.{0} (Zq @L4 (Zq @M6 (Zq @aM (Zq @E6 (Zq @F8 (Zq @b8 (Zq @F7 (Zq @L9 (Zq @c9 (Zq @b5 @b6))))))))))))))))))))))
def b6o := ZZ.mk (Zq @j9.av.eq_1 (Zq @s8 (Zq @z8 (Zq @H4 (Zq @s7 (Zq @u7 (Zq @m6 (Zq @cW (Zq @u4 (Zq @c5.av.eq_1 (Zq @u2.av.eq_1 (Zq @List.cons_append.{0} (Zq @List.nil_append.{0} (Zq @L4 (Zq @M6 (Zq @aM (Zq @E6 (Zq @F8 (Zq @b8 (Zq @F7 (Zq @L9 (Zq @c9 (Zq @b5 @b6)))))))))))))))))))))))
theorem oD (c : Code) (I O : List (List Int)) (hc : z6 c) (hi : cI c.r9 I) (ho : cI c.r9 O) (hil : I.length = c.b.length) (hol : O.length = c.b.length) :
   e8 Tryd.prog 19 [.agg c.av, .agg [.b7 false (lists I), .b7 false (lists O)]] (fun _ => .v (.int .i64 (prF c I O c.b.length))) (fun _ => []) := by
 have hr := hc.r
 have hn := hc.n
 have hrl := M8 c.b
 have C3 := iG c hc.succ (by omega)
 simp only [Code.av] at C3
 refine Zf Tryd.func19 Tryd.ntmps19 ?_; simp only [Code.av]
 repeat' (first | refine Za ?_ | (with_reducible first | refine Zz.mk fun N hN mk hmk => ?_ | refine Zb.mk fun N hN => ?_ | refine Zi.mk fun h => ?_ | refine ⟨fun h => ?_, fun h => ?_⟩ | exact True.intro) | refine Zc C3 ?_ | (refine hN _ ?_; clear hN N) | (refine Zk hmk ?_; clear hmk mk) | refine Zt aY.d ?_ | fail)
 refine l9 (fun b => ⟨[.dead, .dead, .ptr 0 0 0, .ptr 1 0 0, .dead, .v (.int .i64 (prF c I O b)), .b7 false (H0 (reachF c.b)), .v (.int .i64 b), .dead, .dead, .dead, .dead, .dead, .dead, .dead, .dead, .dead, .dead, .dead, .dead, .dead, .dead, .dead, .dead, .dead, .dead, .dead, .dead, .dead, .dead, .dead, .dead, .dead, .dead, .dead, .dead, .dead, .dead, .dead, .dead, .dead, .dead, .dead, .dead, .dead, .dead, .dead, .dead, .dead, .dead, .dead, .dead, .dead, .dead, .dead, .dead, .dead, .dead, .dead, .dead, .dead, .dead, .dead, .dead, .dead, .dead, .dead, .dead, .dead, .dead, .dead, .dead, .dead, .dead, .dead, .dead, .dead, .dead, .dead, .dead, .dead, .dead, .dead, .dead, .dead, .dead, .dead, .dead, .dead, .dead, .dead, .dead, .dead, .dead, .dead, .dead, .dead, .dead, .dead], [(0, .live ⟨8, [[.v (.int .i64 c.group), .v (.int .i64 c.sub), .v (.int .i64 c.r9), .v (.int .i64 c.L3), .v (.int .i64 c.params), .b7 false (Q5 c.D7), .b7 false (loops c.loops), .b7 false (E0 c.b)]], 0⟩), (1, .live ⟨2, [[.b7 false (lists I), .b7 false (lists O)]], 0⟩)], 2⟩) c.b.length (Zw [2,3,5,6,7] [0, 8] aY.d ?_) ?_
 · rfl
 · intro b hb
   dsimp only
   by_cases hlt : b < c.b.length
   · obtain ⟨B, hB⟩ : ∃ B, B = F3 c.b b := ⟨_, rfl⟩
     have hB' : c.b.getD b B0 = B := hB.symm
     have hgt := hc.rbT hlt
     have hgi := hc.rb hlt
     have hbl := (hc.tH hlt).l
     rw [← hB] at hgt hgi hbl
     obtain ⟨i1, i2⟩ := N8 hi b
     obtain ⟨o1, o2⟩ := N8 ho b
     have ilen := i1.len i2 (by omega)
     have olen := o1.len o2 (by omega)
     repeat' (first | refine Za ?_ | (with_reducible first | refine Zz.mk fun N hN mk hmk => ?_ | refine Zb.mk fun N hN => ?_ | refine Zi.mk fun h => ?_ | refine ⟨fun h => ?_, fun h => ?_⟩ | exact True.intro) | (refine hN _ ?_; clear hN N) | (refine Zk hmk ?_; clear hmk mk) | refine Zt (Zq a4C.d (Zq hB' (Zq hrl (Zq hil hol)))) ?_ | fail)
     · refine Zw [2,3,5,6,7] [0, 1] (Zq a4C.d (Zq hB' (Zq hrl (Zq hil hol)))) ?_
       rw [show prF c I O (b + 1) = prF c I O b from by show (if _ then _ else _) = _; rw [if_neg (by simp_all)]]
       rfl
     · have hpr : prF c I O (b + 1) = prB I O B b (prF c I O b) := by rw [hB]; show (if _ then _ else _) = _; rw [if_pos (by simp_all)]
       rw [b5w] at hpr
       have htt : 0 ≤ P8 B.t → 0 ≤ B.t.t0 ∧ B.t.t0 < c.b.length := fun h => by
         have hb0 := (hc.tH hlt).t
         rw [← hB] at hb0
         have hk : B.t.d.k = 2 := by
           apply Classical.byContradiction
           intro hk
           have : P8 B.t = -1 := by show (if _ then _ else _) = _; rw [if_neg hk]
           omega
         exact hb0.to (hb0.dk hk)
       refine l9 (fun i => ⟨[.dead, .dead, .ptr 0 0 0, .ptr 1 0 0, .dead, .v (.int .i64 (mE B (O.getD b []) (mx (mx (prF c I O b) (I.getD b []).length) (O.getD b []).length) (List.range i))), .b7 false (H0 (reachF c.b)), .v (.int .i64 b), .v (.int .i64 i), .dead, .dead, .dead, .dead, .dead, .dead, .dead, .dead, .dead, .dead, .dead, .dead, .dead, .dead, .dead, .dead, .dead, .dead, .dead, .dead, .dead, .dead, .dead, .dead, .dead, .dead, .dead, .dead, .dead, .dead, .dead, .dead, .dead, .dead, .dead, .dead, .dead, .dead, .dead, .dead, .dead, .dead, .dead, .dead, .dead, .dead, .dead, .dead, .dead, .dead, .dead, .dead, .dead, .dead, .dead, .dead, .dead, .dead, .dead, .dead, .dead, .dead, .dead, .dead, .dead, .dead, .dead, .dead, .dead, .dead, .dead, .dead, .dead, .dead, .dead, .dead, .dead, .dead, .dead, .dead, .dead, .dead, .dead, .dead, .dead, .dead, .dead, .dead, .dead, .dead], [(0, .live ⟨8, [[.v (.int .i64 c.group), .v (.int .i64 c.sub), .v (.int .i64 c.r9), .v (.int .i64 c.L3), .v (.int .i64 c.params), .b7 false (Q5 c.D7), .b7 false (loops c.loops), .b7 false (E0 c.b)]], 0⟩), (1, .live ⟨2, [[.b7 false (lists I), .b7 false (lists O)]], 0⟩)], 2⟩) B.i.length (Zw [2,3,5,6,7,8] [0, 1] (Zq a4C.d (Zq hB' (Zq hrl (Zq hil hol)))) ?_) ?_
       · rfl
       · intro i hi2
         dsimp only
         by_cases hil2 : i < B.i.length
         · have J1 := vT B (O.getD b []) (i + 1) (by omega) (by omega) olen
           have ha : RB c.r9 (eE B (O.getD b []) (i + 1)) := a2N o1 hgi (i + 1)
           have sa : K8 (eE B (O.getD b []) (i + 1)) := cZ o2
           have la := ha.len sa (by omega)
           have J2 := a1l (B.i.getD i I0)
           have J3 := a37 (eE B (O.getD b []) (i + 1)) (O8 (B.i.getD i I0)) (by omega)
           have hu := a8W B (O.getD b []) (mx (mx (prF c I O b) (I.getD b []).length) (O.getD b []).length) i
           simp only [c5.av, u2.av, List.cons_append, List.nil_append, j9.av] at J1 J2
           rw [show (((i + 1 : Nat)) : Int) = (i : Int) + 1 from rfl] at J1
           repeat' (first | refine Za ?_ | (with_reducible first | refine Zz.mk fun N hN mk hmk => ?_ | refine Zb.mk fun N hN => ?_ | refine Zi.mk fun h => ?_ | refine ⟨fun h => ?_, fun h => ?_⟩ | exact True.intro) | refine Zc J1 ?_ | refine Zc J2 ?_ | refine Zc J3 ?_ | (refine hN _ ?_; clear hN N) | (refine Zk hmk ?_; clear hmk mk) | refine Zt (Zq b6o.d (Zq hB' (Zq hrl (Zq hil hol)))) ?_ | fail)
           refine Zw [2,3,5,6,7,8] [0, 1] (Zq b6o.d (Zq hB' (Zq hrl (Zq hil hol)))) ?_
           rw [hu]; rfl
         · obtain rfl : i = B.i.length := by omega
           rw [hpr]
           have J1 := vU B.t
           simp only [u2.av] at J1
           by_cases hd : 0 ≤ P8 B.t
           · obtain ⟨t1, t2⟩ := htt hd
             obtain ⟨q1, q2⟩ := N8 hi B.t.t0.toNat
             have qlen := q1.len q2 (by omega)
             have J3 := a37 (I.getD B.t.t0.toNat []) (P8 B.t) (by omega)
             have ee : ∀ m, prT I B.t m = mx m (U2 (I.getD B.t.t0.toNat []) (P8 B.t)).length := fun m => by unfold prT; rw [if_pos hd]
             rw [ee]
             repeat' (first | refine Za ?_ | (with_reducible first | refine Zz.mk fun N hN mk hmk => ?_ | refine Zb.mk fun N hN => ?_ | refine Zi.mk fun h => ?_ | refine ⟨fun h => ?_, fun h => ?_⟩ | exact True.intro) | refine Zc J1 ?_ | refine Zc J3 ?_ | (refine hN _ ?_; clear hN N) | (refine Zk hmk ?_; clear hmk mk) | refine Zt (Zq a4C.d (Zq hB' (Zq hrl (Zq hil hol)))) ?_ | fail)
             refine Zw [2, 3, 5, 6, 7] [0, 1] (Zq a4C.d (Zq hB' (Zq hrl (Zq hil hol)))) ?_
             rfl
           · have ee : ∀ m, prT I B.t m = m := fun m => by unfold prT; rw [if_neg hd]
             rw [ee]
             repeat' (first | refine Za ?_ | (with_reducible first | refine Zz.mk fun N hN mk hmk => ?_ | refine Zb.mk fun N hN => ?_ | refine Zi.mk fun h => ?_ | refine ⟨fun h => ?_, fun h => ?_⟩ | exact True.intro) | refine Zc J1 ?_ | (refine hN _ ?_; clear hN N) | (refine Zk hmk ?_; clear hmk mk) | refine Zt (Zq a4C.d (Zq hB' (Zq hrl (Zq hil hol)))) ?_ | fail)
             refine Zw [2, 3, 5, 6, 7] [0, 1] (Zq a4C.d (Zq hB' (Zq hrl (Zq hil hol)))) ?_
             rfl
   · obtain rfl : b = c.b.length := by omega
     repeat' (first | refine Za ?_ | (with_reducible first | refine Zz.mk fun N hN mk hmk => ?_ | refine Zb.mk fun N hN => ?_ | refine Zi.mk fun h => ?_ | refine ⟨fun h => ?_, fun h => ?_⟩ | exact True.intro) | (refine hN _ ?_; clear hN N) | (refine Zk hmk ?_; clear hmk mk) | refine Zt b2l.d ?_ | fail)
end Go.Proofs.YtfccigmfcpimgaaDoor
end
