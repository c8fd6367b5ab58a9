/- Own work (by an AI agent; no person has read it): part of a proof of the seat YtfccigmfcpimgaaDoor. -/
import Derived.RangeFuncBox
import Derived.RangeFuncLeaves
import Derived.Shelf.Abstract
import Derived.WalkKit
import Derived.OwnWalkIn
import Derived.TacticsInMore
import Derived.LoopNIn
import Derived.LoopIn
import Derived.Test.YtfccigmfcpimgaaDoorXc
set_option linter.unusedSimpArgs false
set_option linter.unusedVariables false
set_option maxRecDepth 100000
set_option maxHeartbeats 10000000
section
namespace Go.Proofs.YtfccigmfcpimgaaDoor
open Go.Ab
def aY := ZZ.mk (Zq @b5 @b6)
theorem a6Z (o : J8) : e8 Tryd.prog 73 [.agg o.av] (fun _ => .v (.int .i64 (tU o))) (fun _ => []) := by
 refine Zf Tryd.func73 Tryd.ntmps73 ?_; simp only [J8.av]
 repeat' (first | refine Za ?_ | (with_reducible first | refine Zz.mk fun N hN mk hmk => ?_ | refine Zb.mk fun N hN => ?_ | refine Zi.mk fun h => ?_ | refine ⟨fun h => ?_, fun h => ?_⟩ | exact True.intro) | (refine hN _ ?_; clear hN N) | (refine Zk hmk ?_; clear hmk mk) | refine Zt aY.d ?_ | fail)
 all_goals (unfold tU; split <;> first | rfl | omega)
theorem a6X (i : j9) : e8 Tryd.prog 54 [.agg i.av] (fun _ => .v (.int .i64 (O8 i))) (fun _ => []) := by
 have C := a6Z i.d
 simp only [J8.av] at C
 refine Zf Tryd.func54 Tryd.ntmps54 ?_; simp only [j9.av]
 repeat' (first | refine Za ?_ | (with_reducible first | refine Zz.mk fun N hN mk hmk => ?_ | refine Zb.mk fun N hN => ?_ | refine Zi.mk fun h => ?_ | refine ⟨fun h => ?_, fun h => ?_⟩ | exact True.intro) | refine Zc C ?_ | (refine hN _ ?_; clear hN N) | (refine Zk hmk ?_; clear hmk mk) | refine Zt aY.d ?_ | fail)
 rfl
theorem a2Q (t : u2) : e8 Tryd.prog 56 [.agg t.av] (fun _ => .v (.int .i64 (P8 t))) (fun _ => []) := by
 have C := a6Z t.d
 simp only [J8.av] at C
 refine Zf Tryd.func56 Tryd.ntmps56 ?_; simp only [u2.av]
 repeat' (first | refine Za ?_ | (with_reducible first | refine Zz.mk fun N hN mk hmk => ?_ | refine Zb.mk fun N hN => ?_ | refine Zi.mk fun h => ?_ | refine ⟨fun h => ?_, fun h => ?_⟩ | exact True.intro) | refine Zc C ?_ | (refine hN _ ?_; clear hN N) | (refine Zk hmk ?_; clear hmk mk) | refine Zt aY.d ?_ | fail)
 rfl
theorem a1l (i : j9) : e8 Tryd.prog 27 [.agg i.av] (fun _ => .v (.int .i64 (O8 i))) (fun _ => []) := by
 refine Zf Tryd.func27 Tryd.ntmps27 ?_; simp only [j9.av]
 repeat' (first | refine Za ?_ | (with_reducible first | refine Zz.mk fun N hN mk hmk => ?_ | refine Zb.mk fun N hN => ?_ | refine Zi.mk fun h => ?_ | refine ⟨fun h => ?_, fun h => ?_⟩ | exact True.intro) | (refine hN _ ?_; clear hN N) | (refine Zk hmk ?_; clear hmk mk) | refine Zt aY.d ?_ | fail)
 all_goals (unfold O8 tU; split <;> first | rfl | omega)
theorem vU (t : u2) : e8 Tryd.prog 58 [.agg t.av] (fun _ => .v (.int .i64 (P8 t))) (fun _ => []) := by
 refine Zf Tryd.func58 Tryd.ntmps58 ?_; simp only [u2.av]
 repeat' (first | refine Za ?_ | (with_reducible first | refine Zz.mk fun N hN mk hmk => ?_ | refine Zb.mk fun N hN => ?_ | refine Zi.mk fun h => ?_ | refine ⟨fun h => ?_, fun h => ?_⟩ | exact True.intro) | (refine hN _ ?_; clear hN N) | (refine Zk hmk ?_; clear hmk mk) | refine Zt aY.d ?_ | fail)
 all_goals (unfold P8 tU; split <;> first | rfl | omega)
theorem vW (t : u2) : e8 Tryd.prog 59 [.agg t.av] (fun _ => .b7 false (e7 (c8 t))) (fun _ => []) := by
 obtain ⟨k, s, ⟨dk, dn, dv⟩, ⟨ak, an, av⟩, ⟨bk, bn, bv⟩, t0, t1⟩ := t
 refine Zf Tryd.func59 Tryd.ntmps59 ?_; simp only [u2.av]
 repeat' (first | refine Za ?_ | (with_reducible first | refine Zz.mk fun N hN mk hmk => ?_ | refine Zb.mk fun N hN => ?_ | refine Zi.mk fun h => ?_ | refine ⟨fun h => ?_, fun h => ?_⟩ | exact True.intro) | (refine hN _ ?_; clear hN N) | (refine Zk hmk ?_; clear hmk mk) | refine Zt aY.d ?_ | fail)
 all_goals (unfold c8; (repeat' split) <;> first | rfl | (exfalso; omega) | (exfalso; simp_all; done) | simp_all)
def wD (a b : List Int) : Bool := decide (a = b)
def mY := ZZ.mk (Zq @u7 (Zq @K0 (Zq @B4 (Zq @N9 (Zq @c6 (Zq @b5 @b6))))))
theorem dC (l : List Int) (n : Int) (hl : l.length ≤ 1000000) : e8 Tryd.prog 26 [.b7 false (e7 l), .v (.int .i64 n)] (fun _ => .v (.bool (decide (n ∈ l)))) (fun _ => []) := by
 refine Zf Tryd.func26 Tryd.ntmps26 ?_
 repeat' (first | refine Za ?_ | (with_reducible first | refine Zz.mk fun N hN mk hmk => ?_ | refine Zb.mk fun N hN => ?_ | refine Zi.mk fun h => ?_ | refine ⟨fun h => ?_, fun h => ?_⟩ | exact True.intro) | (refine hN _ ?_; clear hN N) | (refine Zk hmk ?_; clear hmk mk) | refine Zt mY.d ?_ | fail)
 refine M5 (fun i => ⟨[.b7 false (e7 l), .v (.int .i64 n), .dead, .dead, .dead, .v (.int .i64 i), .dead, .dead, .dead, .dead, .dead, .dead, .dead, .dead, .dead, .dead, .dead, .dead], [], 0⟩) (fun ii => Go.Ab.Z7 ((fun i => ∀ k, k < i → l.getD k 0 ≠ n) ii)) l.length (Zw [0,1,5] [] mY.d ?_) ?_ ?_
 · simp
 · exact ⟨fun k hk => by omega⟩
 · intro i hi hI
   have hI := hI.out
   repeat' (first | refine Za ?_ | (with_reducible first | refine Zz.mk fun N hN mk hmk => ?_ | refine Zb.mk fun N hN => ?_ | refine Zi.mk fun h => ?_ | refine ⟨fun h => ?_, fun h => ?_⟩ | exact True.intro) | (refine hN _ ?_; clear hN N) | (refine Zk hmk ?_; clear hmk mk) | refine Zt mY.d ?_ | fail)
   · refine (decide_eq_true ?_).symm
     have : i < l.length := by omega
     rw [← ‹l.getD i 0 = n›]
     rw [List.getD_eq_getElem?_getD, List.getElem?_eq_getElem this]
     exact List.getElem_mem this
   · refine ⟨⟨fun k hk => ?_⟩, ?_⟩
     · rcases Nat.lt_succ_iff_lt_or_eq.1 hk with h1 | rfl
       · exact hI k h1
       · assumption
     · refine Zw [0,1,5] [] mY.d ?_
       rfl
   · refine (decide_eq_false ?_).symm
     intro hm
     obtain ⟨k, hk, e⟩ := List.getElem_of_mem hm
     refine hI k (by omega) ?_
     rw [List.getD_eq_getElem?_getD, List.getElem?_eq_getElem hk]
     exact e
theorem oE (a b : List Int) (hl : a.length ≤ 1000000) : e8 Tryd.prog 20 [.b7 false (e7 a), .b7 false (e7 b)] (fun _ => .v (.bool (wD a b))) (fun _ => []) := by
 refine Zf Tryd.func20 Tryd.ntmps20 ?_
 repeat' (first | refine Za ?_ | (with_reducible first | refine Zz.mk fun N hN mk hmk => ?_ | refine Zb.mk fun N hN => ?_ | refine Zi.mk fun h => ?_ | refine ⟨fun h => ?_, fun h => ?_⟩ | exact True.intro) | (refine hN _ ?_; clear hN N) | (refine Zk hmk ?_; clear hmk mk) | refine Zt mY.d ?_ | fail)
 · refine (decide_eq_false ?_).symm
   rintro rfl
   omega
 · refine M5 (fun i => ⟨[.b7 false (e7 a), .b7 false (e7 b), .dead, .dead, .dead, .v (.int .i64 i), .dead, .dead, .dead, .dead, .dead, .dead, .dead, .dead, .dead, .dead, .dead, .dead, .dead, .dead, .dead, .dead, .dead, .dead, .dead, .dead], [], 0⟩) (fun ii => Go.Ab.Z7 ((fun i => ∀ k, k < i → a.getD k 0 = b.getD k 0) ii)) a.length (Zw [0,1,5] [] mY.d ?_) ?_ ?_
   · simp
   · exact ⟨fun k hk => by omega⟩
   · intro i hi hI
     have hI := hI.out
     repeat' (first | refine Za ?_ | (with_reducible first | refine Zz.mk fun N hN mk hmk => ?_ | refine Zb.mk fun N hN => ?_ | refine Zi.mk fun h => ?_ | refine ⟨fun h => ?_, fun h => ?_⟩ | exact True.intro) | (refine hN _ ?_; clear hN N) | (refine Zk hmk ?_; clear hmk mk) | refine Zt mY.d ?_ | fail)
     · refine (decide_eq_false ?_).symm
       rintro rfl
       exact absurd rfl ‹¬a.getD i 0 = a.getD i 0›
     · refine ⟨⟨fun k hk => ?_⟩, ?_⟩
       · rcases Nat.lt_succ_iff_lt_or_eq.1 hk with h1 | rfl
         · exact hI k h1
         · exact Decidable.not_not.1 ‹¬¬ _›
       · refine Zw [0,1,5] [] mY.d ?_
         rfl
     · refine (decide_eq_true ?_).symm
       refine List.ext_getElem (by omega) fun k h1 h2 => ?_
       have := hI k (by omega)
       rwa [List.getD_eq_getElem?_getD, List.getD_eq_getElem?_getD, List.getElem?_eq_getElem h1, List.getElem?_eq_getElem h2] at this
def eD (a b : List Int) : Bool := decide (∀ x ∈ a, x ∈ b)
theorem cY (a b : List Int) (hl : a.length ≤ 1000000) (hl2 : b.length ≤ 1000000) : e8 Tryd.prog 23 [.b7 false (e7 a), .b7 false (e7 b)] (fun _ => .v (.bool (eD a b))) (fun _ => []) := by
 refine Zf Tryd.func23 Tryd.ntmps23 ?_
 repeat' (first | refine Za ?_ | (with_reducible first | refine Zz.mk fun N hN mk hmk => ?_ | refine Zb.mk fun N hN => ?_ | refine Zi.mk fun h => ?_ | refine ⟨fun h => ?_, fun h => ?_⟩ | exact True.intro) | (refine hN _ ?_; clear hN N) | (refine Zk hmk ?_; clear hmk mk) | refine Zt mY.d ?_ | fail)
 · refine M5 (fun i => ⟨[.b7 false (e7 a), .b7 false (e7 b), .dead, .dead, .dead, .v (.int .i64 i), .dead, .dead, .dead, .dead, .dead, .dead, .dead, .dead, .dead, .dead, .dead, .dead, .dead], [], 0⟩) (fun ii => Go.Ab.Z7 ((fun i => ∀ k, k < i → a.getD k 0 ∈ b) ii)) a.length (Zw [0,1,5] [] mY.d ?_) ?_ ?_
   · simp
   · exact ⟨fun k hk => by omega⟩
   · intro i hi hI
     have hI := hI.out
     repeat' (first | refine Za ?_ | (with_reducible first | refine Zz.mk fun N hN mk hmk => ?_ | refine Zb.mk fun N hN => ?_ | refine Zi.mk fun h => ?_ | refine ⟨fun h => ?_, fun h => ?_⟩ | exact True.intro) | refine Zc (dC b _ hl2) ?_ | (refine hN _ ?_; clear hN N) | (refine Zk hmk ?_; clear hmk mk) | refine Zt mY.d ?_ | fail)
     · refine (decide_eq_false ?_).symm
       intro hh
       refine ‹¬a.getD i 0 ∈ b› (hh _ ?_)
       have : i < a.length := by omega
       rw [List.getD_eq_getElem?_getD, List.getElem?_eq_getElem this]
       exact List.getElem_mem this
     · refine ⟨⟨fun k hk => ?_⟩, ?_⟩
       · rcases Nat.lt_succ_iff_lt_or_eq.1 hk with h1 | rfl
         · exact hI k h1
         · exact Decidable.not_not.1 ‹¬¬ _›
       · refine Zw [0,1,5] [] mY.d ?_
         rfl
     · refine (decide_eq_true ?_).symm
       intro x hx
       obtain ⟨k, hk, e⟩ := List.getElem_of_mem hx
       have := hI k (by omega)
       rw [List.getD_eq_getElem?_getD, List.getElem?_eq_getElem hk] at this
       rw [← e]; exact this
theorem b7n (i : Nat) : ((i : Int) - 0).toNat = i := by omega
theorem b7m (a b : Nat) : ((a : Int) - (b : Int)).toNat = a - b := by omega
theorem a58 {l : List Int} {n : Int} {i : Nat} (hi : i ≤ l.length) (h : ∀ k, k < i → l.getD k 0 < n) (he : i = l.length ∨ n ≤ l.getD i 0) : l.takeWhile (fun x => decide (x < n)) = l.take i ∧ l.dropWhile (fun x => decide (x < n)) = l.drop i := by
 induction l generalizing i with
 | nil => have : i = 0 := by simpa using hi
          subst this; simp
 | cons a l ih =>
   cases i with
   | zero =>
     have : n ≤ a := by rcases he with he | he
                        · simp at he
                        · simpa using he
     rw [List.takeWhile_cons, List.dropWhile_cons, if_neg (by simp; omega), if_neg (by simp; omega)]; simp
   | succ i =>
     have h0 : a < n := by simpa using h 0 (by omega)
     obtain ⟨h1, h2⟩ := ih (i := i) (by simpa using hi) (fun k hk => by simpa using h (k + 1) (by omega)) (by simpa using he)
     rw [List.takeWhile_cons, List.dropWhile_cons, if_pos (by simpa using h0), if_pos (by simpa using h0), h1, h2]; simp
theorem nN (a b : List Int) : e7 a ++ e7 b = e7 (a ++ b) := by simp [e7]
theorem a8B (l : List Int) (n : Nat) : (e7 l).take n = e7 (l.take n) := by simp [e7]
theorem a8A (l : List Int) (n : Nat) : (e7 l).drop n = e7 (l.drop n) := by simp [e7]
theorem N7 (l : List Int) : (∀ e ∈ e7 l, ∀ x ∈ e, AV.one x = true) = True := by
 simp only [eq_iff_iff, iff_true]
 intro e he x hx
 simp only [e7, List.mem_map] at he
 obtain ⟨j, _, rfl⟩ := he
 simp only [List.mem_cons, List.not_mem_nil, or_false] at hx
 subst hx; rfl
theorem r6 (l : List Int) : w8 (e7 l) = true := by rw [w8]; exact c6 l
theorem a2E {l : List Int} {n : Int} {i : Nat} (hm : ¬ n ∈ l) (hi : i ≤ l.length) (h : ∀ k, k < i → l.getD k 0 < n) (he : i = l.length ∨ n ≤ l.getD i 0) : K9 l n = l.take i ++ n :: l.drop i := by
 obtain ⟨h1, h2⟩ := a58 hi h he
 unfold K9
 rw [if_neg hm, h1, h2]
def b6e := ZZ.mk (Zq @b7n (Zq @b7m (Zq @a8B (Zq @a8A (Zq @nN (Zq @G7 (Zq @N7 (Zq @r6 (Zq @u7 (Zq @K0 (Zq @B4 (Zq @N9 (Zq @c6 (Zq @b5 (Zq @b6 (Zq @B1 @List.length_drop.{0}))))))))))))))))
theorem bZ (l : List Int) (n : Int) (hl : l.length ≤ 1000000) : e8 Tryd.prog 45 [.b7 false (e7 l), .v (.int .i64 n)] (fun _ => .b7 false (e7 (K9 l n))) (fun _ => []) := by
 refine Zf Tryd.func45 Tryd.ntmps45 ?_
 repeat' (first | refine Za ?_ | (with_reducible first | refine Zz.mk fun N hN mk hmk => ?_ | refine Zb.mk fun N hN => ?_ | refine Zi.mk fun h => ?_ | refine ⟨fun h => ?_, fun h => ?_⟩ | exact True.intro) | refine Zc (dC l n hl) ?_ | (refine hN _ ?_; clear hN N) | (refine Zk hmk ?_; clear hmk mk) | refine Zt mY.d ?_ | fail)
 · unfold K9; rw [if_pos ‹n ∈ l›]
 · have hm : ¬ n ∈ l := ‹¬ n ∈ l›
   refine M5 (fun i => ⟨[.b7 false (e7 l), .v (.int .i64 n), .dead, .dead, .dead, .v (.int .i64 i), .dead, .dead, .dead, .dead, .dead, .dead, .dead, .dead, .dead, .dead, .dead, .dead, .dead, .dead, .dead, .dead, .dead, .dead, .dead, .dead, .dead, .dead, .dead, .dead, .dead, .dead, .dead, .dead, .dead, .dead], [], 0⟩) (fun ii => Go.Ab.Z7 ((fun i => ∀ k, k < i → l.getD k 0 < n) ii)) l.length (Zw [0,1,5] [] mY.d ?_) ?_ ?_
   · simp
   · exact ⟨fun k hk => by omega⟩
   · intro i hi hI
     have hI := hI.out
     have hd : (l.drop i).take (l.length - i) = l.drop i := List.take_of_length_le (by simp)
     have ht : (l.take i).length = i := by simp; omega
     have ht2 : (l.take i).take i = l.take i := List.take_of_length_le (by omega)
     have ht3 : (l.take i ++ [n]).take (i + 1) = l.take i ++ [n] := List.take_of_length_le (by simp; omega)
     have hln : i + 1 + (l.length - i) = (l.take i ++ [n] ++ l.drop i).length := by simp; omega
     repeat' (first | refine Za ?_ | (with_reducible first | refine Zz.mk fun N hN mk hmk => ?_ | refine Zb.mk fun N hN => ?_ | refine Zi.mk fun h => ?_ | refine ⟨fun h => ?_, fun h => ?_⟩ | exact True.intro) | (refine hN _ ?_; clear hN N) | (refine Zk hmk ?_; clear hmk mk) | refine Zt (Zq b6e.d (Zq hd (Zq ht (Zq ht2 ht3)))) ?_ | fail)
     · refine ⟨⟨fun k hk => ?_⟩, ?_⟩
       · rcases Nat.lt_succ_iff_lt_or_eq.1 hk with h1 | rfl
         · exact hI k h1
         · assumption
       · refine Zw [0,1,5] [] (Zq b6e.d (Zq hd (Zq ht (Zq ht2 ht3)))) ?_
         rfl
     · rw [hln, List.take_length, a2E hm hi hI (.inr (by omega))]; simp
     · rw [hln, List.take_length, a2E hm hi hI (.inl (by omega))]; simp
theorem a0b (l : List Int) (n : Int) : (K9 l n).length ≤ l.length + 1 := by
 unfold K9
 split
 · omega
 · have := congrArg List.length (List.takeWhile_append_dropWhile (p := fun x => decide (x < n)) (l := l))
   rw [List.length_append] at this; simp only [List.length_append, List.length_cons]; omega
theorem gY (a b : List Int) : (q9 a b).length ≤ a.length + b.length := by
 unfold q9
 induction b generalizing a with
 | nil => simp
 | cons y b ih => have h1 := ih (K9 a y); have h2 := a0b a y; rw [List.foldl_cons]; simp; omega
theorem bX (l : List Int) (n : Int) : (l8 l n).length ≤ l.length := List.length_filter_le _ _
theorem N0 {α : Type} (l : List α) (i : Nat) (d : α) (h : i < l.length) : l.take (i + 1) = l.take i ++ [l.getD i d] := by
 rw [List.take_add_one, List.getD_eq_getElem?_getD, List.getElem?_eq_getElem h]; rfl
theorem mP (a b : List Int) (i : Nat) (h : i < b.length) : q9 a (b.take (i + 1)) = K9 (q9 a (b.take i)) (b.getD i 0) := by
 rw [N0 b i 0 h]; unfold q9; rw [List.foldl_append]; rfl
theorem a7Z {l : List Int} {n : Int} (h : n ∈ l) : K9 l n = l := by unfold K9; rw [if_pos h]
theorem oP (l : List Int) (n : Int) (i : Nat) (h : i < l.length) : l8 (l.take (i + 1)) n = l8 (l.take i) n ++ (if l.getD i 0 ≠ n then [l.getD i 0] else []) := by
 rw [N0 l i 0 h]; unfold l8; rw [List.filter_append]
 congr 1
 by_cases hh : l.getD i 0 = n <;> simp [List.filter_cons, hh]
def eM := ZZ.mk (Zq @u7 (Zq @K0 (Zq @B4 (Zq @N9 (Zq @c6 (Zq @r6 (Zq @N7 (Zq @G7 (Zq @B1 (Zq @b5 @b6))))))))))
theorem jX (l : List Int) (n : Int) (hl : l.length ≤ 1000000) : e8 Tryd.prog 68 [.b7 false (e7 l), .v (.int .i64 n)] (fun _ => .b7 false (e7 (l8 l n))) (fun _ => []) := by
 refine Zf Tryd.func68 Tryd.ntmps68 ?_
 repeat' (first | refine Za ?_ | (with_reducible first | refine Zz.mk fun N hN mk hmk => ?_ | refine Zb.mk fun N hN => ?_ | refine Zi.mk fun h => ?_ | refine ⟨fun h => ?_, fun h => ?_⟩ | exact True.intro) | (refine hN _ ?_; clear hN N) | (refine Zk hmk ?_; clear hmk mk) | refine Zt eM.d ?_ | fail)
 refine l9 (fun i => ⟨[.b7 false (e7 l), .v (.int .i64 n), .dead, .dead, .dead, .own 0 0 (l8 (l.take i) n).length, .v (.int .i64 i), .dead, .dead, .dead, .dead, .dead, .dead, .dead, .dead, .dead, .dead, .dead, .dead, .dead, .dead, .dead, .dead, .dead, .dead, .dead, .dead, .dead], [(0, .live ⟨1, e7 (l8 (l.take i) n), 0⟩)], 1⟩) l.length (Zw [0,1,5,6] [8] eM.d ?_) ?_
 · simp [l8, e7]
 · intro i hi
   have hlen : (l8 (l.take i) n).length ≤ i := Nat.le_trans (bX _ _) (by simp; omega)
   repeat' (first | refine Za ?_ | (with_reducible first | refine Zz.mk fun N hN mk hmk => ?_ | refine Zb.mk fun N hN => ?_ | refine Zi.mk fun h => ?_ | refine ⟨fun h => ?_, fun h => ?_⟩ | exact True.intro) | (refine hN _ ?_; clear hN N) | (refine Zk hmk ?_; clear hmk mk) | refine Zt eM.d ?_ | fail)
   · refine Zw [0,1,5,6] [129] eM.d ?_
     rw [oP l n i (by omega), if_pos (by assumption)]; simp
   · refine Zw [0,1,5,6] [0] eM.d ?_
     rw [oP l n i (by omega), if_neg (by assumption), List.append_nil]; rfl
   · rw [show i = l.length by omega, List.take_length]
theorem cA (a b : List Int) (ha : a.length ≤ 100000) (hb : b.length ≤ 100000) : e8 Tryd.prog 46 [.b7 false (e7 a), .b7 false (e7 b)] (fun _ => .b7 false (e7 (q9 a b))) (fun _ => []) := by
 refine Zf Tryd.func46 Tryd.ntmps46 ?_
 repeat' (first | refine Za ?_ | (with_reducible first | refine Zz.mk fun N hN mk hmk => ?_ | refine Zb.mk fun N hN => ?_ | refine Zi.mk fun h => ?_ | refine ⟨fun h => ?_, fun h => ?_⟩ | exact True.intro) | (refine hN _ ?_; clear hN N) | (refine Zk hmk ?_; clear hmk mk) | refine Zt eM.d ?_ | fail)
 refine oU 5 (y := .b7 false (e7 a)) (by simp (maxSteps := 10000000) (disch := omega) only [eM.d, r7, Z3, A2, H3, x9, u6, AV.kept, l7, n6, A3, I6, y7, x5, Go.MapKept.IsKey, r8, B8, AV.plain, rd, D8, a8, Z2, w6, AV.j8, AV.aS, AV.I5, AV.V7, AV.scalar, bC, y8, H6, H9, I3, H8, x4, H5, bD, y9, H7, G9, m9, bB, o9, F2, F1, Z8, F9, o6, TD.isRow, A1, n8, o8, n4, L8, Value.oneCell', ↓reduceIte, Int.reduceNe, Int.reduceEq, Nat.reduceAdd, Nat.reduceLT, Nat.reduceLeDiff, Nat.reduceSub, Nat.reduceMul, Nat.reduceBEq, Nat.reduceEqDiff, reduceCtorEq, Int.reduceToNat, ← decide_not, ← Bool.decide_and, sA, sN] <;> first | done | rfl) rfl ?_; simp (maxSteps := 10000000) (disch := omega) only [a8, n6, A9, eM.d, r7, Z3, A2, H3, x9, u6, AV.kept, l7, n6, A3, I6, y7, x5, Go.MapKept.IsKey, r8, B8, AV.plain, rd, D8, a8, Z2, w6, AV.j8, AV.aS, AV.I5, AV.V7, AV.scalar, bC, y8, H6, H9, I3, H8, x4, H5, bD, y9, H7, G9, m9, bB, o9, F2, F1, Z8, F9, o6, TD.isRow, A1, n8, o8, n4, L8, Value.oneCell', ↓reduceIte, Int.reduceNe, Int.reduceEq, Nat.reduceAdd, Nat.reduceLT, Nat.reduceLeDiff, Nat.reduceSub, Nat.reduceMul, Nat.reduceBEq, Nat.reduceEqDiff, reduceCtorEq, Int.reduceToNat, ← decide_not, ← Bool.decide_and, sA, sN]
 refine l9 (fun i => ⟨[.b7 false (e7 a), .b7 false (e7 b), .dead, .dead, .dead, .b7 false (e7 (q9 a (b.take i))), .v (.int .i64 i), .dead, .dead, .dead, .dead, .dead, .dead, .dead, .dead, .dead, .dead, .dead, .dead, .dead, .dead, .dead, .dead, .dead, .dead, .dead, .dead, .dead, .dead, .dead], [], 0⟩) b.length (Zw [0,1,5,6] [] eM.d ?_) ?_
 · simp [q9]
 · intro i hi
   have hlen := gY a (b.take i)
   have hlt : (b.take i).length ≤ b.length := by simp; omega
   repeat' (first | refine Za ?_ | (with_reducible first | refine Zz.mk fun N hN mk hmk => ?_ | refine Zb.mk fun N hN => ?_ | refine Zi.mk fun h => ?_ | refine ⟨fun h => ?_, fun h => ?_⟩ | exact True.intro) | refine kI (dC (q9 a (b.take i)) (b.getD i 0) (by omega)) rfl ?_ | refine dK (dC (q9 a (b.take i)) (b.getD i 0) (by omega)) rfl rfl ?_ | refine iO (dC (q9 a (b.take i)) (b.getD i 0) (by omega)) rfl ?_ | refine kI (bZ (q9 a (b.take i)) (b.getD i 0) (by omega)) rfl ?_ | refine dK (bZ (q9 a (b.take i)) (b.getD i 0) (by omega)) rfl rfl ?_ | refine iO (bZ (q9 a (b.take i)) (b.getD i 0) (by omega)) rfl ?_ | (refine hN _ ?_; clear hN N) | (refine Zk hmk ?_; clear hmk mk) | refine Zt eM.d ?_ | fail)
   · refine Zw [0,1,5,6] [] eM.d ?_
     rw [mP a b i (by omega)]; rfl
   · refine Zw [0,1,5,6] [] eM.d ?_
     rw [mP a b i (by omega), a7Z (Decidable.not_not.1 ‹¬¬ _›)]; rfl
   · rw [show i = b.length by omega, List.take_length]
theorem a37 (l : List Int) (n : Int) (hl : l.length ≤ 100000) : e8 Tryd.prog 57 [.b7 false (e7 l), .v (.int .i64 n)] (fun _ => .b7 false (e7 (U2 l n))) (fun _ => []) := by
 have C := cA l [n] hl (by simp)
 rw [show e7 [n] = [[.v (.int .i64 n)]] from rfl] at C
 refine Zf Tryd.func57 Tryd.ntmps57 ?_
 repeat' (first | refine Za ?_ | (with_reducible first | refine Zz.mk fun N hN mk hmk => ?_ | refine Zb.mk fun N hN => ?_ | refine Zi.mk fun h => ?_ | refine ⟨fun h => ?_, fun h => ?_⟩ | exact True.intro) | (refine Y5 C ?_ rfl ?_ ?_; (next => (simp (disch := omega) only [eM.d, D8, Nat.reduceBEq, AV.plain, Nat.reduceAdd, Nat.reduceLeDiff, Nat.reduceLT, ↓reduceIte, sF] <;> first | done | rfl)); (next => (simp only [apply_ite List.length, List.length_cons, List.length_nil] <;> (try split) <;> omega))) | (refine V5 C ?_ rfl ?_ ?_; (next => (simp (disch := omega) only [eM.d, D8, Nat.reduceBEq, AV.plain, Nat.reduceAdd, Nat.reduceLeDiff, Nat.reduceLT, ↓reduceIte, sF] <;> first | done | rfl)); (next => (simp only [apply_ite List.length, List.length_cons, List.length_nil] <;> (try split) <;> omega))) | (refine hN _ ?_; clear hN N) | (refine Zk hmk ?_; clear hmk mk) | refine Zt eM.d ?_ | fail)
 all_goals (unfold U2; split <;> first | rfl | omega)
def dO (l : List J8) : List (List AV) := l.map J8.av
theorem a3T (l : List J8) : (dO l).length = l.length := by simp [dO]
theorem a8Q (l : List J8) (z : Nat) (h : z < l.length) : (dO l)[z]? = some (l.getD z O0).av := by simp [dO, h, List.getD_eq_getElem?_getD]
theorem b5o (l : List J8) : (∀ e ∈ dO l, e.length = 3) = True := by simp [dO, J8.av]
def a1m (out : List Int) (o : J8) : List Int := if o.k = 2 then K9 out o.n else out
theorem a0s (l : List J8) (i : Nat) (h : i < l.length) : s9 (l.take (i + 1)) = a1m (s9 (l.take i)) (l.getD i O0) := by
 rw [N0 l i O0 h]; unfold s9; rw [List.foldl_append]; rfl
theorem uK (l : List J8) : (s9 l).length ≤ l.length := by
 unfold s9
 have : ∀ (l : List J8) (out : List Int), (l.foldl (fun out o => if o.k = 2 then K9 out o.n else out) out).length ≤ out.length + l.length := by
   intro l
   induction l with
   | nil => intro out; simp
   | cons o l ih =>
     intro out
     rw [List.foldl_cons]
     have h1 := ih (if o.k = 2 then K9 out o.n else out)
     have h2 : (if o.k = 2 then K9 out o.n else out).length ≤ out.length + 1 := by
       split
       · exact a0b _ _
       · omega
     simp; omega
 simpa using this l []
def fM := ZZ.mk (Zq @J8.av.eq_1 (Zq @a3T (Zq @a8Q (Zq @b5o (Zq @u7 (Zq @K0 (Zq @B4 (Zq @N9 (Zq @c6 (Zq @r6 (Zq @N7 (Zq @G7 (Zq @B1 (Zq @b5 @b6))))))))))))))
theorem lS (l : List J8) (hl : l.length ≤ 1000) : e8 Tryd.prog 60 [.b7 false (dO l)] (fun _ => .b7 false (e7 (s9 l))) (fun _ => []) := by
 refine Zf Tryd.func60 Tryd.ntmps60 ?_
 repeat' (first | refine Za ?_ | (with_reducible first | refine Zz.mk fun N hN mk hmk => ?_ | refine Zb.mk fun N hN => ?_ | refine Zi.mk fun h => ?_ | refine ⟨fun h => ?_, fun h => ?_⟩ | exact True.intro) | (refine hN _ ?_; clear hN N) | (refine Zk hmk ?_; clear hmk mk) | refine Zt fM.d ?_ | fail)
 refine oU 3 (y := .b7 false (e7 [])) (by simp (maxSteps := 10000000) (disch := omega) only [fM.d, r7, Z3, A2, H3, x9, u6, AV.kept, l7, n6, A3, I6, y7, x5, Go.MapKept.IsKey, r8, B8, AV.plain, rd, D8, a8, Z2, w6, AV.j8, AV.aS, AV.I5, AV.V7, AV.scalar, bC, y8, H6, H9, I3, H8, x4, H5, bD, y9, H7, G9, m9, bB, o9, F2, F1, Z8, F9, o6, TD.isRow, A1, n8, o8, n4, L8, Value.oneCell', ↓reduceIte, Int.reduceNe, Int.reduceEq, Nat.reduceAdd, Nat.reduceLT, Nat.reduceLeDiff, Nat.reduceSub, Nat.reduceMul, Nat.reduceBEq, Nat.reduceEqDiff, reduceCtorEq, Int.reduceToNat, ← decide_not, ← Bool.decide_and, sA, sN] <;> first | done | rfl) rfl ?_; simp (maxSteps := 10000000) (disch := omega) only [a8, n6, A9, fM.d, r7, Z3, A2, H3, x9, u6, AV.kept, l7, n6, A3, I6, y7, x5, Go.MapKept.IsKey, r8, B8, AV.plain, rd, D8, a8, Z2, w6, AV.j8, AV.aS, AV.I5, AV.V7, AV.scalar, bC, y8, H6, H9, I3, H8, x4, H5, bD, y9, H7, G9, m9, bB, o9, F2, F1, Z8, F9, o6, TD.isRow, A1, n8, o8, n4, L8, Value.oneCell', ↓reduceIte, Int.reduceNe, Int.reduceEq, Nat.reduceAdd, Nat.reduceLT, Nat.reduceLeDiff, Nat.reduceSub, Nat.reduceMul, Nat.reduceBEq, Nat.reduceEqDiff, reduceCtorEq, Int.reduceToNat, ← decide_not, ← Bool.decide_and, sA, sN]
 refine l9 (fun i => ⟨[.b7 false (dO l), .dead, .dead, .b7 false (e7 (s9 (l.take i))), .v (.int .i64 i), .dead, .dead, .dead, .dead, .dead, .dead, .dead, .dead, .dead, .dead, .dead, .dead, .dead, .dead, .dead, .dead, .dead, .dead, .dead, .dead, .dead], [], 0⟩) l.length (Zw [0,3,4] [] fM.d ?_) ?_
 · simp [s9]
 · intro i hi
   have hlen := uK (l.take i)
   have hlt : (l.take i).length ≤ l.length := by simp; omega
   repeat' (first | refine Za ?_ | (with_reducible first | refine Zz.mk fun N hN mk hmk => ?_ | refine Zb.mk fun N hN => ?_ | refine Zi.mk fun h => ?_ | refine ⟨fun h => ?_, fun h => ?_⟩ | exact True.intro) | refine kI (bZ (s9 (l.take i)) (l.getD i O0).n (by omega)) rfl ?_ | refine dK (bZ (s9 (l.take i)) (l.getD i O0).n (by omega)) rfl rfl ?_ | refine iO (bZ (s9 (l.take i)) (l.getD i O0).n (by omega)) rfl ?_ | (refine hN _ ?_; clear hN N) | (refine Zk hmk ?_; clear hmk mk) | refine Zt fM.d ?_ | fail)
   · refine Zw [0,3,4] [] fM.d ?_
     rw [a0s l i (by omega), a1m, if_pos (by assumption)]; rfl
   · refine Zw [0,3,4] [] fM.d ?_
     rw [a0s l i (by omega), a1m, if_neg (by assumption)]; rfl
   · rw [show i = l.length by omega, List.take_length]
theorem vX (i : j9) : e8 Tryd.prog 25 [.agg i.av] (fun _ => .b7 false (e7 (M4 i))) (fun _ => []) := by
 have C := lS [i.a, i.b, i.c] (by simp)
 simp only [dO, List.map_cons, List.map_nil, J8.av] at C
 refine Zf Tryd.func25 Tryd.ntmps25 ?_; simp only [j9.av]
 repeat' (first | refine Za ?_ | (with_reducible first | refine Zz.mk fun N hN mk hmk => ?_ | refine Zb.mk fun N hN => ?_ | refine Zi.mk fun h => ?_ | refine ⟨fun h => ?_, fun h => ?_⟩ | exact True.intro) | (refine Y5 C ?_ rfl ?_ ?_; (next => (simp (disch := omega) only [fM.d, D8, Nat.reduceBEq, AV.plain, Nat.reduceAdd, Nat.reduceLeDiff, Nat.reduceLT, ↓reduceIte, sF] <;> first | done | rfl)); (next => (simp only [apply_ite List.length, List.length_cons, List.length_nil] <;> (try split) <;> omega))) | (refine V5 C ?_ rfl ?_ ?_; (next => (simp (disch := omega) only [fM.d, D8, Nat.reduceBEq, AV.plain, Nat.reduceAdd, Nat.reduceLeDiff, Nat.reduceLT, ↓reduceIte, sF] <;> first | done | rfl)); (next => (simp only [apply_ite List.length, List.length_cons, List.length_nil] <;> (try split) <;> omega))) | (refine hN _ ?_; clear hN N) | (refine Zk hmk ?_; clear hmk mk) | refine Zt fM.d ?_ | fail)
 all_goals rfl
theorem a0q (t : u2) : e8 Tryd.prog 69 [.agg t.av] (fun _ => .b7 false (e7 (bA t))) (fun _ => []) := by
 have C := lS [t.a, t.b] (by simp)
 simp only [dO, List.map_cons, List.map_nil, J8.av] at C
 refine Zf Tryd.func69 Tryd.ntmps69 ?_; simp only [u2.av]
 repeat' (first | refine Za ?_ | (with_reducible first | refine Zz.mk fun N hN mk hmk => ?_ | refine Zb.mk fun N hN => ?_ | refine Zi.mk fun h => ?_ | refine ⟨fun h => ?_, fun h => ?_⟩ | exact True.intro) | (refine Y5 C ?_ rfl ?_ ?_; (next => (simp (disch := omega) only [fM.d, D8, Nat.reduceBEq, AV.plain, Nat.reduceAdd, Nat.reduceLeDiff, Nat.reduceLT, ↓reduceIte, sF] <;> first | done | rfl)); (next => (simp only [apply_ite List.length, List.length_cons, List.length_nil] <;> (try split) <;> omega))) | (refine V5 C ?_ rfl ?_ ?_; (next => (simp (disch := omega) only [fM.d, D8, Nat.reduceBEq, AV.plain, Nat.reduceAdd, Nat.reduceLeDiff, Nat.reduceLT, ↓reduceIte, sF] <;> first | done | rfl)); (next => (simp only [apply_ite List.length, List.length_cons, List.length_nil] <;> (try split) <;> omega))) | (refine hN _ ?_; clear hN N) | (refine Zk hmk ?_; clear hmk mk) | refine Zt fM.d ?_ | fail)
 all_goals rfl
theorem jQ (i : j9) : (M4 i).length ≤ 3 := uK _
theorem kS (t : u2) : (bA t).length ≤ 2 := uK _
theorem a5N (x : j9) (l : List Int) (hl : l.length ≤ 10000) : e8 Tryd.prog 70 [.agg x.av, .b7 false (e7 l)] (fun _ => .b7 false (e7 (D4 x l))) (fun _ => []) := by
 have C1 := a1l x
 have C2 := vX x
 have h1 := jQ x
 have h2 := bX l (O8 x)
 have C3 := jX l (O8 x) (by omega)
 have C4 := cA (l8 l (O8 x)) (M4 x) (by omega) (by omega)
 simp only [j9.av] at C1 C2
 refine Zf Tryd.func70 Tryd.ntmps70 ?_; simp only [j9.av]
 repeat' (first | refine Za ?_ | (with_reducible first | refine Zz.mk fun N hN mk hmk => ?_ | refine Zb.mk fun N hN => ?_ | refine Zi.mk fun h => ?_ | refine ⟨fun h => ?_, fun h => ?_⟩ | exact True.intro) | refine Zc C1 ?_ | refine Zc C2 ?_ | refine Zc C3 ?_ | refine Zc C4 ?_ | (refine hN _ ?_; clear hN N) | (refine Zk hmk ?_; clear hmk mk) | refine Zt fM.d ?_ | fail)
 all_goals rfl
theorem a5u (x : j9) (l : List Int) : (D4 x l).length ≤ l.length + 3 := by
 have h1 := jQ x
 have h2 := bX l (O8 x)
 have h3 := gY (l8 l (O8 x)) (M4 x)
 unfold D4; omega
theorem a8G (l : List j9) (out : List Int) : (l.foldr D4 out).length ≤ out.length + 3 * l.length := by
 induction l with
 | nil => simp
 | cons x l ih => have := a5u x (l.foldr D4 out); rw [List.foldr_cons]; simp; omega
theorem eR {α : Type} (l : List α) (i : Nat) (d : α) (h : i < l.length) : l.drop i = l.getD i d :: l.drop (i + 1) := by
 rw [List.drop_eq_getElem_cons h, List.getD_eq_getElem?_getD, List.getElem?_eq_getElem h]; rfl
theorem b2r (b : c5) (out : List Int) (i : Nat) (h : i < b.i.length) : eE b out i = D4 (b.i.getD i I0) (eE b out (i + 1)) := by
 unfold eE; rw [eR b.i i I0 h]; rfl
theorem b45 (b : c5) (out : List Int) : eE b out b.i.length = out := by unfold eE; simp
theorem b06 (b : c5) (out : List Int) (i : Nat) : (eE b out i).length ≤ out.length + 3 * b.i.length := by
 have := a8G (b.i.drop i) out
 unfold eE; simp at this ⊢; omega
def a2A := ZZ.mk (Zq @j9.av.eq_1 (Zq @u2.av.eq_1 (Zq @m6 (Zq @cW (Zq @u4 (Zq @l0 (Zq @u7 (Zq @K0 (Zq @B4 (Zq @N9 (Zq @c6 (Zq @r6 (Zq @N7 (Zq @G7 (Zq @B1 (Zq @b5 @b6))))))))))))))))
theorem vT (b : c5) (out : List Int) (i0 : Nat) (hi0 : i0 ≤ b.i.length) (hb : b.i.length ≤ 1000) (ho : out.length ≤ 1000) : e8 Tryd.prog 44 [.agg b.av, .b7 false (e7 out), .v (.int .i64 i0)] (fun _ => .b7 false (e7 (eE b out i0))) (fun _ => []) := by
 obtain ⟨n, hn⟩ : ∃ n, n = b.i.length - i0 := ⟨_, rfl⟩
 refine Zf Tryd.func44 Tryd.ntmps44 ?_; simp only [c5.av, u2.av]
 repeat' (first | refine Za ?_ | (with_reducible first | refine Zz.mk fun N hN mk hmk => ?_ | refine Zb.mk fun N hN => ?_ | refine Zi.mk fun h => ?_ | refine ⟨fun h => ?_, fun h => ?_⟩ | exact True.intro) | (refine hN _ ?_; clear hN N) | (refine Zk hmk ?_; clear hmk mk) | refine Zt a2A.d ?_ | fail)
 refine l9 (fun j => ⟨[.dead, .dead, .v (.int .i64 i0), .ptr 0 0 0, .dead, .dead, .dead, .b7 false (e7 (eE b out (b.i.length - j))), .v (.int .i64 ((b.i.length : Int) - 1 - j)), .dead, .dead, .dead, .dead, .dead, .dead, .dead, .dead, .dead, .dead, .dead, .dead, .dead, .dead, .dead, .dead, .dead, .dead], [(0, .live ⟨14, [b.av], 0⟩)], 1⟩) n (Zw [2,3,7,8] [0] a2A.d ?_) ?_
 · simp only [Nat.sub_zero, b45, c5.av, u2.av, Int.natCast_zero, Int.sub_zero]
 · intro j hj
   have hlen := b06 b out (b.i.length - j)
   simp only [c5.av, u2.av]
   by_cases hjn : j < n
   · have e : ((b.i.length : Int) - 1 - j).toNat = b.i.length - (j + 1) := by omega
     have C := a5N (b.i.getD (b.i.length - (j + 1)) I0) (eE b out (b.i.length - j)) (by omega)
     simp only [j9.av] at C
     repeat' (first | refine Za ?_ | (with_reducible first | refine Zz.mk fun N hN mk hmk => ?_ | refine Zb.mk fun N hN => ?_ | refine Zi.mk fun h => ?_ | refine ⟨fun h => ?_, fun h => ?_⟩ | exact True.intro) | refine Zc C ?_ | (refine hN _ ?_; clear hN N) | (refine Zk hmk ?_; clear hmk mk) | refine Zt (Zq a2A.d e) ?_ | fail)
     refine Zw [2,3,7,8] [0] (Zq a2A.d e) ?_
     rw [b2r b out (b.i.length - (j + 1)) (by omega), show b.i.length - (j + 1) + 1 = b.i.length - j by omega, show (b.i.length : Int) - 1 - ((j + 1 : Nat) : Int) = (b.i.length : Int) - 1 - j - 1 by omega]
   · have e : b.i.length - j = i0 := by omega
     repeat' (first | refine Za ?_ | (with_reducible first | refine Zz.mk fun N hN mk hmk => ?_ | refine Zb.mk fun N hN => ?_ | refine Zi.mk fun h => ?_ | refine ⟨fun h => ?_, fun h => ?_⟩ | exact True.intro) | (refine hN _ ?_; clear hN N) | (refine Zk hmk ?_; clear hmk mk) | refine Zt (Zq a2A.d e) ?_ | fail)
     all_goals first | rfl | rw [e]
def lists (l : List (List Int)) : List (List AV) := l.map fun x => [.b7 false (e7 x)]
theorem s8 (l : List (List Int)) : (lists l).length = l.length := by simp [lists]
theorem z8 (l : List (List Int)) (z : Nat) (h : z < l.length) : (lists l)[z]? = some [.b7 false (e7 (l.getD z []))] := by simp [lists, h, List.getD_eq_getElem?_getD]
theorem H4 (l : List (List Int)) : (∀ e ∈ lists l, e.length = 1) = True := by simp [lists]
theorem s7 (l : List (List Int)) : ((lists l).all fun e => e.all AV.plain) = true := by simp [lists, AV.plain]
theorem E3 (l : List (List Int)) : w8 (lists l) = true := s7 l
def M2 (n : Nat) (l : List (List Int)) : Prop := ∀ z, (l.getD z []).length ≤ n
def O7 (inn : List (List Int)) (l : List Int) : List Int := l.foldl (fun s to => q9 s (inn.getD to.toNat [])) []
theorem mM (inn : List (List Int)) (l : List Int) (i : Nat) (h : i < l.length) : O7 inn (l.take (i + 1)) = q9 (O7 inn (l.take i)) (inn.getD (l.getD i 0).toNat []) := by
 rw [N0 l i 0 h]; unfold O7; rw [List.foldl_append]; rfl
theorem gX {n : Nat} {inn : List (List Int)} (h : M2 n inn) (l : List Int) : (O7 inn l).length ≤ n * l.length := by
 have : ∀ (l : List Int) (s : List Int), (l.foldl (fun s to => q9 s (inn.getD to.toNat [])) s).length ≤ s.length + n * l.length := by
   intro l
   induction l with
   | nil => intro s; simp
   | cons a l ih =>
     intro s
     rw [List.foldl_cons]
     have h1 := ih (q9 s (inn.getD a.toNat []))
     have h2 := gY s (inn.getD a.toNat [])
     have h3 := h a.toNat
     rw [List.length_cons, Nat.mul_add, Nat.mul_one]; omega
 have h := this l []
 rw [List.length_nil, Nat.zero_add] at h
 exact h
theorem eU (t : u2) : (c8 t).length ≤ 2 := by
 unfold c8
 split
 · simp
 · split <;> simp
theorem a8P (t : u2) (inn : List (List Int)) : I7 t inn = q9 (l8 (O7 inn (c8 t)) (P8 t)) (bA t) := rfl
theorem a5v {n : Nat} {inn : List (List Int)} (h : M2 n inn) (t : u2) : (I7 t inn).length ≤ 2 * n + 2 := by
 have h1 := gX h (c8 t)
 have h2 := eU t
 have h3 := bX (O7 inn (c8 t)) (P8 t)
 have h4 := kS t
 have h5 := gY (l8 (O7 inn (c8 t)) (P8 t)) (bA t)
 have h6 : n * (c8 t).length ≤ n * 2 := Nat.mul_le_mul_left _ h2
 rw [a8P]; omega
theorem aE {l : List Int} {i : Nat} (h : i < l.length) : l.getD i 0 ∈ l := by
 rw [List.getD_eq_getElem?_getD, List.getElem?_eq_getElem h]; exact List.getElem_mem h
def eN := ZZ.mk (Zq @u2.av.eq_1 (Zq @b8 (Zq @F7 (Zq @L9 (Zq @c9 (Zq @c5.av.eq_1 (Zq @s8 (Zq @z8 (Zq @H4 (Zq @s7 (Zq @E3 (Zq @u7 (Zq @K0 (Zq @B4 (Zq @N9 (Zq @c6 (Zq @r6 (Zq @N7 (Zq @G7 (Zq @B1 (Zq @b5 @b6)))))))))))))))))))))
theorem a5O (c : Code) (b : Nat) (inn : List (List Int)) (hc : aV c.b) (hb : b < c.b.length) (hl : inn.length = c.b.length) (hn : M2 1000 inn) : e8 Tryd.prog 43 [.agg c.av, .v (.int .i64 b), .b7 false (lists inn)] (fun _ => .b7 false (e7 (I7 (F3 c.b b).t inn))) (fun _ => []) := by
 obtain ⟨t, ht⟩ : ∃ t, t = (F3 c.b b).t := ⟨_, rfl⟩
 have hs : ∀ to ∈ c8 t, 0 ≤ to ∧ to < c.b.length := by rw [ht]; exact hc.2 _ (W0 hb)
 have ht' : (c.b.getD b B0).t = t := ht.symm
 have C1 := vW t
 have C2 := vU t
 have C3 := a0q t
 have hl1 := gX hn (c8 t)
 have hl2 := eU t
 have hl3 := bX (O7 inn (c8 t)) (P8 t)
 have hl4 := kS t
 have C4 := jX (O7 inn (c8 t)) (P8 t) (by omega)
 have C5 := cA (l8 (O7 inn (c8 t)) (P8 t)) (bA t) (by omega) (by omega)
 rw [← ht]
 simp only [u2.av] at C1 C2 C3
 refine Zf Tryd.func43 Tryd.ntmps43 ?_; simp only [Code.av]
 repeat' (first | refine Za ?_ | (with_reducible first | refine Zz.mk fun N hN mk hmk => ?_ | refine Zb.mk fun N hN => ?_ | refine Zi.mk fun h => ?_ | refine ⟨fun h => ?_, fun h => ?_⟩ | exact True.intro) | refine Zc C1 ?_ | (refine hN _ ?_; clear hN N) | (refine Zk hmk ?_; clear hmk mk) | refine Zt (Zq eN.d ht') ?_ | fail)
 refine oU 8 (y := .b7 false (e7 [])) (by simp (maxSteps := 10000000) (disch := omega) only [eN.d, ht', r7, Z3, A2, H3, x9, u6, AV.kept, l7, n6, A3, I6, y7, x5, Go.MapKept.IsKey, r8, B8, AV.plain, rd, D8, a8, Z2, w6, AV.j8, AV.aS, AV.I5, AV.V7, AV.scalar, bC, y8, H6, H9, I3, H8, x4, H5, bD, y9, H7, G9, m9, bB, o9, F2, F1, Z8, F9, o6, TD.isRow, A1, n8, o8, n4, L8, Value.oneCell', ↓reduceIte, Int.reduceNe, Int.reduceEq, Nat.reduceAdd, Nat.reduceLT, Nat.reduceLeDiff, Nat.reduceSub, Nat.reduceMul, Nat.reduceBEq, Nat.reduceEqDiff, reduceCtorEq, Int.reduceToNat, ← decide_not, ← Bool.decide_and, sA, sN] <;> first | done | rfl) rfl ?_; simp (maxSteps := 10000000) (disch := omega) only [a8, n6, A9, eN.d, ht', r7, Z3, A2, H3, x9, u6, AV.kept, l7, n6, A3, I6, y7, x5, Go.MapKept.IsKey, r8, B8, AV.plain, rd, D8, a8, Z2, w6, AV.j8, AV.aS, AV.I5, AV.V7, AV.scalar, bC, y8, H6, H9, I3, H8, x4, H5, bD, y9, H7, G9, m9, bB, o9, F2, F1, Z8, F9, o6, TD.isRow, A1, n8, o8, n4, L8, Value.oneCell', ↓reduceIte, Int.reduceNe, Int.reduceEq, Nat.reduceAdd, Nat.reduceLT, Nat.reduceLeDiff, Nat.reduceSub, Nat.reduceMul, Nat.reduceBEq, Nat.reduceEqDiff, reduceCtorEq, Int.reduceToNat, ← decide_not, ← Bool.decide_and, sA, sN]
 refine l9 (fun i => ⟨[.dead, .dead, .b7 false (lists inn), .dead, .dead, .dead, .dead, .ptr 0 0 0, .b7 false (e7 (O7 inn ((c8 t).take i))), .b7 false (e7 (c8 t)), .v (.int .i64 i), .dead, .dead, .dead, .dead, .dead, .dead, .dead, .dead, .dead, .dead, .dead, .dead, .dead, .dead, .dead, .dead, .dead, .dead, .dead, .dead, .dead, .dead, .dead, .dead, .dead, .dead, .dead, .dead, .dead, .dead, .dead], [(0, .live ⟨13, [[.v (.int .i64 t.kind), .v (.int .i64 t.sub), .v (.int .i64 t.d.k), .v (.int .i64 t.d.n), .v (.int .i32 t.d.v), .v (.int .i64 t.a.k), .v (.int .i64 t.a.n), .v (.int .i32 t.a.v), .v (.int .i64 t.b.k), .v (.int .i64 t.b.n), .v (.int .i32 t.b.v), .v (.int .i64 t.t0), .v (.int .i64 t.t1)]], 0⟩)], 1⟩) (c8 t).length (Zw [2,7,8,9,10] [64] (Zq eN.d ht') ?_) ?_
 · simp [O7]
 · intro i hi
   by_cases hin : i < (c8 t).length
   · have hto := hs _ (aE hin)
     have h1 := gX hn ((c8 t).take i)
     have h2 : ((c8 t).take i).length ≤ 2 := by simp; omega
     have h3 := hn ((c8 t).getD i 0).toNat
     have C6 := cA (O7 inn ((c8 t).take i)) (inn.getD ((c8 t).getD i 0).toNat []) (by omega) (by omega)
     repeat' (first | refine Za ?_ | (with_reducible first | refine Zz.mk fun N hN mk hmk => ?_ | refine Zb.mk fun N hN => ?_ | refine Zi.mk fun h => ?_ | refine ⟨fun h => ?_, fun h => ?_⟩ | exact True.intro) | refine Zc C6 ?_ | (refine hN _ ?_; clear hN N) | (refine Zk hmk ?_; clear hmk mk) | refine Zt (Zq eN.d ht') ?_ | fail)
     refine Zw [2,7,8,9,10] [0] (Zq eN.d ht') ?_
     rw [mM inn (c8 t) i hin]; rfl
   · have e : (c8 t).take i = c8 t := List.take_of_length_le (by omega)
     rw [e]
     repeat' (first | refine Za ?_ | (with_reducible first | refine Zz.mk fun N hN mk hmk => ?_ | refine Zb.mk fun N hN => ?_ | refine Zi.mk fun h => ?_ | refine ⟨fun h => ?_, fun h => ?_⟩ | exact True.intro) | refine Zc C2 ?_ | refine Zc C3 ?_ | refine Zc C4 ?_ | refine Zc C5 ?_ | (refine hN _ ?_; clear hN N) | (refine Zk hmk ?_; clear hmk mk) | refine Zt (Zq eN.d ht') ?_ | fail)
     all_goals rfl
end Go.Proofs.YtfccigmfcpimgaaDoor
end
section
namespace Go.Proofs.YtfccigmfcpimgaaDoor
open Go.Ab
open Go.RowKit Go.Shelf
section
attribute [local go_sem] Oper.semAt_some
def j9.wN (i : j9) : List Value := [.int .i64 i.op, .int .i64 i.sub, .int .i64 i.n, .int .i64 i.d.k, .int .i64 i.d.n, .int .i32 i.d.v, .int .i64 i.a.k, .int .i64 i.a.n, .int .i32 i.a.v, .int .i64 i.b.k, .int .i64 i.b.n, .int .i32 i.b.v, .int .i64 i.c.k, .int .i64 i.c.n, .int .i32 i.c.v]
theorem j9.a6U (i : j9) : i.av = i.wN.map .v := rfl
theorem j9.b46 (i : j9) {j : Nat} (h : j < 15) : i.av[j]? = some (.v (i.wN.getD j undef)) := by
 have h : j < i.wN.length := h
 rw [j9.a6U, List.getElem?_map, List.getElem?_eq_getElem h, List.getD_eq_getElem?_getD, List.getElem?_eq_getElem h]; rfl
def j9.val (i : j9) : Value := .agg i.wN.toArray
def L7 (n k : Nat) : List Nat := (List.range k).map fun j => n - 1 - j
theorem fR (n k : Nat) : L7 n (k + 1) = L7 n k ++ [n - 1 - k] := by simp [L7, List.range_succ]
theorem xB (n k : Nat) : (L7 n k).length = k := by simp [L7]
theorem a4L (L : List j9) (hL : L.length ≤ 1000) (X : Nat → Nat → Value → Prop) (B BO b o cap : Nat) (a : Option Addr) (ha : L ≠ [] → a = some ⟨b, o, none⟩) (hcap : L.length ≤ cap) (hB : X B BO (.slice a L.length cap))
   (hX : ∀ i j, i < L.length → j < 15 → X b (o + i * 15 + j) ((L.getD i I0).wN.getD j undef)) (w : World) (hw : HX X w) :
   SeqStopsK Fence.wide 2 Tryd.prog 72 #[.pointer (some ⟨B, BO, none⟩)] (fun i : Nat => #[.int .i64 i, (L.getD i I0).val]) (fun W W' => HX X W → HX X W') (fun xs => xs = L7 L.length L.length) (fun _ => True) L.length w := by
 intro l J Jx W hW hJ hJx hY h0
 have hXW : HX X W := fun b o c h => by
   have h1 := hw b o c h
   have hlt : b < w.heap.size := by
     unfold World.cell? at h1
     simp only at h1
     cases hh : w.heap[b]? with
     | none => rw [hh] at h1; simp at h1
     | some y => exact E7 hh
   exact (hW.cell (p := ⟨b, o, none⟩) hlt).trans h1
 refine callsIn_of_wp Tryd.func72 rfl trivial ?_ rfl
 simp only [Tryd.ntmps72, List.size_toArray, List.length_cons, List.length_nil, Nat.reduceAdd, Nat.reduceSub, Array.replicate_succ, Array.replicate_zero, List.push_toArray, List.append_toArray, List.nil_append, List.cons_append]
 have hBW := hXW _ _ _ hB
 gi_wp2
 gi_loopw [3] (fun i wr => ∃ k : Nat, k ≤ L.length ∧ i = .int .i64 ((L.length : Int) - 1 - k) ∧ J (L7 L.length k) wr ∧ HX X wr)
   (fun i _ => (intOf i + 1).toNat)
 case atStart => exact ⟨0, Nat.zero_le _, by simp, h0, hXW⟩
 case round =>
   obtain ⟨k, hk, rfl, hJs, hHX⟩ := hrel
   by_cases hlt : k < L.length
   · obtain ⟨i, hi⟩ : ∃ i : Nat, i = L.length - 1 - k := ⟨_, rfl⟩
     have hie : (L.length : Int) - 1 - k = i := by omega
     rw [hie]
     have hiL : i < L.length := by omega
     obtain ⟨fn, tmps, assign, body, hy, hR⟩ := hY _ i wr hJs (by rw [xB]; exact hlt)
     have hBw := hHX _ _ _ hB
     have hc0 := hHX _ _ _ (hX i 0 hiL (by omega))
     have hc1 := hHX _ _ _ (hX i 1 hiL (by omega))
     have hc2 := hHX _ _ _ (hX i 2 hiL (by omega))
     have hc3 := hHX _ _ _ (hX i 3 hiL (by omega))
     have hc4 := hHX _ _ _ (hX i 4 hiL (by omega))
     have hc5 := hHX _ _ _ (hX i 5 hiL (by omega))
     have hc6 := hHX _ _ _ (hX i 6 hiL (by omega))
     have hc7 := hHX _ _ _ (hX i 7 hiL (by omega))
     have hc8 := hHX _ _ _ (hX i 8 hiL (by omega))
     have hc9 := hHX _ _ _ (hX i 9 hiL (by omega))
     have hc10 := hHX _ _ _ (hX i 10 hiL (by omega))
     have hc11 := hHX _ _ _ (hX i 11 hiL (by omega))
     have hc12 := hHX _ _ _ (hX i 12 hiL (by omega))
     have hc13 := hHX _ _ _ (hX i 13 hiL (by omega))
     have hc14 := hHX _ _ _ (hX i 14 hiL (by omega))
     simp only [Nat.add_zero, List.getD_cons_zero, List.getD_cons_succ, j9.wN] at hc0 hc1 hc2 hc3 hc4 hc5 hc6 hc7 hc8 hc9 hc10 hc11 hc12 hc13 hc14
     clear hi
     rw [ha (by intro e; rw [e] at hiL; cases hiL)] at hBw
     have hval : (L.getD i I0).val = .agg (L.getD i I0).wN.toArray := rfl
     simp only [j9.wN] at hval
     rw [hval] at hy
     clear hval
     obtain ⟨x, hx⟩ : ∃ x, x = L.getD i I0 := ⟨_, rfl⟩
     simp only [← hx] at hy hc0 hc1 hc2 hc3 hc4 hc5 hc6 hc7 hc8 hc9 hc10 hc11 hc12 hc13 hc14
     clear hx
     gi_wp2
     refine hR.mono ?_
     rintro e W3 (⟨rfl, hJ3, hk3⟩ | ⟨rfl, hJx3⟩)
     · gi_wp2
       go_roundw
       case rel => exact ⟨k + 1, by omega, by first | (simp; done) | (simp; omega), by rw [fR, show L.length - 1 - k = i from by omega]; exact hJ3, hk3 hHX⟩
       case measure => (simp [intOf]; try omega)
     · gi_wp2
       refine bodyPost_ret (results_none rfl _ _ _) rfl ?_
       exact ⟨⟨_, rfl⟩, .inr ⟨_, trivial, hJx3⟩⟩
   · obtain rfl : k = L.length := by omega
     gi_wp2
     go_end0
     exact ⟨⟨_, rfl⟩, .inl ⟨_, rfl, hJs⟩⟩
theorem a6P {P : Program} [j5 P] {g p1 p2 : Tmp} {assign body : Go.Code} {s : LS} {k : List KF} {K : Exit → LS → Prop} (hP : P = Tryd.prog) (L : List j9) (S : List Nat → LS) (lab : Nat) (keep : List Nat)
   (hL : L.length ≤ 1000) (hg : LS.tf (S []).t g = .fn 72 [.aP [[.b7 false (p8 L)]] 0 0]) (hw : Q9 s (S [])) (hp : ∀ pre, p1 < (S pre).t.length ∧ p2 < (S pre).t.length) (hmp : ∀ pre, a7o (S pre).h = true) (hfr : ∀ pre, l7 lab (S pre).h)
   (hround : ∀ (pre : List Nat) (x : Nat), pre.length < L.length → AK (md := true) P assign [] (b1O (S pre).t (S pre).h (S pre).nx keep lab p1 p2 (.v (.int .i64 x)) (.agg (L.getD x I0).av))
     (S8 (fun s1 => a7o s1.h = true ∧ AK (md := true) P body [] s1 (S8 (b5z (S pre).t keep lab (S (pre ++ [x]))) (fun _ _ => False))) (fun _ _ => False)))
   (hK : X6 (md := false) P K k .normal (S (L7 L.length L.length))) : AK (md := false) P (.rangeFunc (.tmp g) #[p1, p2] assign body) k s K := by
 subst hP
 refine a79 (gf := 72) (α := Nat) L.length (fun x => .int .i64 x) (fun x => (L.getD x I0).val) (fun x => .v (.int .i64 x)) (fun x => .agg (L.getD x I0).av) S (fun xs => xs = L7 L.length L.length) lab keep
   (fun x => ⟨fun M ρ w => .v _, fun M ρ w => .agg _ _ (by simp [j9.val, j9.av, j9.wN]) (fun i y u h1 h2 => ?_)⟩) ⟨Tryd.f72, rfl, rfl, rfl⟩ hw hp (fun pre => a1i (hmp pre)) hfr ?_ (fun pre x h => ?_) (fun xs h => by rw [h]; exact hK)
 · rw [j9.a6U, List.getElem?_map] at h1
   have h2 : (L.getD x I0).wN[i]? = some u := by simpa using h2
   rw [h2] at h1; cases h1; exact .v _
 · intro G M0 w0 ρ a w R
   have h1 := R.1.tm g
   rw [show (S []).n9.t g = _ from hg] at h1
   obtain ⟨y, e1, h2⟩ := b2D h1
   obtain ⟨B, BO, c, rfl, hM, hc, h3⟩ := b0K h2
   obtain ⟨a', cap, b, o, sz, cell, rfl, hcap, aO, ha, hm, hr⟩ := b2L h3
   rw [show (p8 L).length = L.length from by simp [p8]] at *
   refine ⟨#[.pointer (some ⟨B, BO, none⟩)], e1, fun X hX hw => ?_⟩
   refine a4L L hL X B BO b o cap a' (fun h => ha (by simpa [p8] using h)) hcap (hX _ _ _ hM hc) (fun i j hi hj => ?_) w hw
   have he : (p8 L)[i]? = some (L.getD i I0).av := by simp [p8, hi, List.getD_eq_getElem?_getD]
   have hs15 : sz = 15 := by have := aO _ (List.mem_of_getElem? he); rw [← this]; rfl
   subst hs15
   have h4 := hm i j hi hj
   have h5 := hr i j _ (.v ((L.getD i I0).wN.getD j undef)) he (j9.b46 _ hj)
   have h6 := h5.X5
   rw [← h6]
   exact hX _ _ _ h4.1 h4.2
 · refine gH.mono (hround pre x h) fun e s' hs => ?_
   cases e with
   | normal => exact ⟨a1i hs.1, hs.2⟩
   | _ => exact hs
end
end Go.Proofs.YtfccigmfcpimgaaDoor
end
section
namespace Go.Proofs.YtfccigmfcpimgaaDoor
open Go.Ab
def lY (p : List Int) (x : Int) : List Int := p.takeWhile (fun y => decide (y ≤ x)) ++ x :: p.dropWhile (fun y => decide (y ≤ x))
def J6 (l : List Int) : List Int := l.foldl lY []
def Le (l : List Int) : Prop := l.Pairwise (· ≤ ·)
theorem b2Z {p : List Int} {x y : Int} : y ∈ lY p x ↔ y = x ∨ y ∈ p := by
 unfold lY
 rw [List.mem_append, List.mem_cons]
 conv => rhs; rw [← List.takeWhile_append_dropWhile (p := fun y => decide (y ≤ x)) (l := p), List.mem_append]
 constructor
 · rintro (h | h | h)
   · exact .inr (.inl h)
   · exact .inl h
   · exact .inr (.inr h)
 · rintro (h | h | h)
   · exact .inr (.inl h)
   · exact .inl h
   · exact .inr (.inr h)
theorem b2R (p : List Int) (x : Int) : (lY p x).length = p.length + 1 := by
 have := congrArg List.length (List.takeWhile_append_dropWhile (p := fun y => decide (y ≤ x)) (l := p))
 rw [List.length_append] at this
 unfold lY
 simp only [List.length_append, List.length_cons]; omega
theorem b6X {l : List Int} {n : Int} : ∀ x ∈ l.takeWhile (fun x => decide (x ≤ n)), x ≤ n := by
 induction l with
 | nil => intro x hx; simp at hx
 | cons a l ih =>
   intro x hx
   rw [List.takeWhile_cons] at hx
   split at hx
   · rename_i h
     rcases List.mem_cons.1 hx with rfl | hx
     · simpa using h
     · exact ih x hx
   · simp at hx
theorem b3J {l : List Int} (hl : Le l) {n : Int} : ∀ x ∈ l.dropWhile (fun x => decide (x ≤ n)), n < x := by
 induction l with
 | nil => intro x hx; simp at hx
 | cons a l ih =>
   obtain ⟨h1, h2⟩ := List.pairwise_cons.1 hl
   intro x hx
   rw [List.dropWhile_cons] at hx
   split at hx
   · exact ih h2 x hx
   · rename_i h
     have ha : n < a := by simpa using h
     rcases List.mem_cons.1 hx with rfl | hx
     · exact ha
     · have := h1 x hx; omega
theorem b5l {p : List Int} (hp : Le p) (x : Int) : Le (lY p x) := by
 unfold lY
 have hs1 : (p.takeWhile (fun y => decide (y ≤ x))).Sublist p := List.takeWhile_sublist _
 have hs2 : (p.dropWhile (fun y => decide (y ≤ x))).Sublist p := List.dropWhile_sublist _
 refine List.pairwise_append.2 ⟨hp.sublist hs1, List.pairwise_cons.2 ⟨fun y hy => ?_, hp.sublist hs2⟩, fun y hy z hz => ?_⟩
 · have := b3J hp y hy; omega
 · have h1 := b6X y hy
   rcases List.mem_cons.1 hz with rfl | hz
   · exact h1
   · have := b3J hp z hz; omega
theorem kP : ∀ (l p : List Int), Le p → Le (l.foldl lY p) ∧ (l.foldl lY p).length = p.length + l.length ∧ ∀ x, x ∈ l.foldl lY p ↔ x ∈ p ∨ x ∈ l
 | [], p, h => ⟨h, rfl, fun x => by simp⟩
 | a :: l, p, h => by
   obtain ⟨h1, h2, h3⟩ := kP l (lY p a) (b5l h a)
   refine ⟨h1, by rw [List.foldl_cons, h2, b2R, List.length_cons]; omega, fun x => ?_⟩
   rw [List.foldl_cons, h3, b2Z, List.mem_cons]
   constructor
   · rintro ((h | h) | h)
     · exact .inr (.inl h)
     · exact .inl h
     · exact .inr (.inr h)
   · rintro (h | h | h)
     · exact .inl (.inr h)
     · exact .inl (.inl h)
     · exact .inr h
theorem a3v (l : List Int) : Le (J6 l) := (kP l [] List.Pairwise.nil).1
theorem pI (l : List Int) : (J6 l).length = l.length := by have := (kP l [] List.Pairwise.nil).2.1; rw [List.length_nil, Nat.zero_add] at this; exact this
theorem a8C {l : List Int} {x : Int} : x ∈ J6 l ↔ x ∈ l := by have := (kP l [] List.Pairwise.nil).2.2 x; simp only [List.not_mem_nil, false_or] at this; exact this
theorem a5r (l : List Int) (i : Nat) (h : i < l.length) : J6 (l.take (i + 1)) = lY (J6 (l.take i)) (l.getD i 0) := by
 rw [N0 l i 0 h]; unfold J6; rw [List.foldl_append]; rfl
theorem a4q {l : List Int} {q : Int → Bool} {i : Nat} (hi : i ≤ l.length) (h : ∀ k, k < i → q (l.getD k 0) = true) (he : i = l.length ∨ q (l.getD i 0) = false) : l.takeWhile q = l.take i ∧ l.dropWhile q = l.drop i := by
 induction l generalizing i with
 | nil => have : i = 0 := by simpa using hi
          subst this; simp
 | cons a l ih =>
   cases i with
   | zero =>
     have : q a = false := by rcases he with he | he
                              · simp at he
                              · simpa using he
     rw [List.takeWhile_cons, List.dropWhile_cons, if_neg (by simp [this]), if_neg (by simp [this])]; simp
   | succ i =>
     have h0 : q a = true := by simpa using h 0 (by omega)
     obtain ⟨h1, h2⟩ := ih (i := i) (by simpa using hi) (fun k hk => by simpa using h (k + 1) (by omega)) (by simpa using he)
     rw [List.takeWhile_cons, List.dropWhile_cons, if_pos h0, if_pos h0, h1, h2]; simp
def bV (p : List Int) (x : Int) (j : Nat) : List Int := p.take j ++ x :: p.drop j
theorem nV (p : List Int) (x : Int) (j : Nat) (h : j ≤ p.length) : (bV p x j).length = p.length + 1 := by unfold bV; simp; omega
theorem b5k {p : List Int} (hp : Le p) {k j : Nat} (h : k ≤ j) (hj : j < p.length) : p.getD k 0 ≤ p.getD j 0 := by
 rcases Nat.lt_or_eq_of_le h with h | rfl
 · have := (List.pairwise_iff_getElem.1 hp) k j (by omega) hj h
   rw [List.getD_eq_getElem?_getD, List.getD_eq_getElem?_getD, List.getElem?_eq_getElem hj, List.getElem?_eq_getElem (show k < p.length by omega)]; exact this
 · exact Int.le_refl _
theorem a26 {p : List Int} {x : Int} {j : Nat} (hp : Le p) (hj : j ≤ p.length) (h1 : j = 0 ∨ p.getD (j - 1) 0 ≤ x) (h2 : j = p.length ∨ x < p.getD j 0) : lY p x = bV p x j := by
 obtain ⟨e1, e2⟩ := a4q (q := fun y => decide (y ≤ x)) hj (fun k hk => by
   have := b5k hp (k := k) (j := j - 1) (by omega) (by omega)
   have : p.getD k 0 ≤ x := by omega
   simpa using this) (by
   rcases h2 with h2 | h2
   · exact .inl h2
   · exact .inr (by simpa using h2))
 unfold lY bV; rw [e1, e2]
theorem b0k (p : List Int) (x : Int) : bV p x p.length = p ++ [x] := by unfold bV; simp
theorem b2x (p : List Int) (x : Int) (j : Nat) (r : List Int) (hj : j ≤ p.length) : (bV p x j ++ r).getD j 0 = x := by
 unfold bV
 rw [List.getD_eq_getElem?_getD, List.append_assoc, List.getElem?_append_right (by simp; omega)]
 simp [show j - min j p.length = 0 by omega]
theorem b0l (p : List Int) (x : Int) (j k : Nat) (r : List Int) (hk : k < j) (hj : j ≤ p.length) : (bV p x j ++ r).getD k 0 = p.getD k 0 := by
 unfold bV
 rw [List.getD_eq_getElem?_getD, List.append_assoc, List.getElem?_append_left (by simp; omega), List.getElem?_take_of_lt hk, List.getD_eq_getElem?_getD]
theorem a24 (p : List Int) (x : Int) (j : Nat) (r : List Int) (hj : j ≤ p.length) (k : Nat) : (bV p x j ++ r)[k]? = if k < j then p[k]? else if k = j then some x else if k < p.length + 1 then p[k - 1]? else r[k - (p.length + 1)]? := by
 have hl := nV p x j hj
 by_cases h1 : k < j
 · rw [if_pos h1, List.getElem?_append_left (by omega)]
   unfold bV
   rw [List.getElem?_append_left (by simp; omega), List.getElem?_take_of_lt h1]
 · rw [if_neg h1]
   by_cases h2 : k = j
   · subst h2
     rw [if_pos rfl, List.getElem?_append_left (by omega)]
     unfold bV
     rw [List.getElem?_append_right (by simp; omega)]
     simp [show k - min k p.length = 0 by omega]
   · rw [if_neg h2]
     by_cases h3 : k < p.length + 1
     · rw [if_pos h3, List.getElem?_append_left (by omega)]
       unfold bV
       rw [List.getElem?_append_right (by simp; omega), List.length_take, Nat.min_eq_left hj]
       obtain ⟨d, rfl⟩ : ∃ d, k = j + (d + 1) := ⟨k - j - 1, by omega⟩
       rw [Nat.add_sub_cancel_left, List.getElem?_cons_succ, List.getElem?_drop]; rfl
     · rw [if_neg h3, List.getElem?_append_right (by omega), hl]
theorem a8k (p : List Int) (x : Int) (j : Nat) (r : List Int) (h0 : 0 < j) (hj : j ≤ p.length) : ((bV p x j ++ r).set j (p.getD (j - 1) 0)).set (j - 1) x = bV p x (j - 1) ++ r := by
 apply List.ext_getElem?
 intro k
 have hl : (bV p x j ++ r).length = p.length + 1 + r.length := by rw [List.length_append, nV p x j hj]
 rw [a24 p x (j - 1) r (by omega), List.getElem?_set, List.getElem?_set, List.length_set, hl, a24 p x j r hj]
 by_cases h1 : j - 1 = k
 · rw [if_pos h1, if_pos (by omega), if_neg (by omega), if_pos (by omega)]
 · rw [if_neg h1]
   by_cases h2 : j = k
   · subst h2
     rw [if_pos rfl, if_pos (by omega), if_neg (by omega), if_neg (by omega), if_pos (by omega), List.getD_eq_getElem?_getD, List.getElem?_eq_getElem (show j - 1 < p.length by omega)]; rfl
   · rw [if_neg h2]
     by_cases h3 : k < j - 1
     · rw [if_pos (by omega), if_pos h3]
     · simp only [show ¬ k < j by omega, show ¬ k = j by omega, h3, show ¬ k = j - 1 by omega, if_false]
theorem a3u (a : Int) : e8 Tryd.prog 97 [.v (.int .i64 a)] (fun _ => .v (.bool false)) (fun _ => []) := by
 refine Zf Tryd.func97 Tryd.ntmps97 ?_
 repeat' (first | refine Za ?_ | (with_reducible first | refine Zz.mk fun N hN mk hmk => ?_ | refine Zb.mk fun N hN => ?_ | refine Zi.mk fun h => ?_ | refine ⟨fun h => ?_, fun h => ?_⟩ | exact True.intro) | (refine hN _ ?_; clear hN N) | (refine Zk hmk ?_; clear hmk mk) | refine Zt aY.d ?_ | fail)
 all_goals simp
theorem b2T (a b : Int) : e8 Tryd.prog 87 [.v (.int .i64 a), .v (.int .i64 b)] (fun _ => .v (.bool (decide (a < b)))) (fun _ => []) := by
 refine Zf Tryd.func87 Tryd.ntmps87 ?_
 repeat' (first | refine Za ?_ | (with_reducible first | refine Zz.mk fun N hN mk hmk => ?_ | refine Zb.mk fun N hN => ?_ | refine Zi.mk fun h => ?_ | refine ⟨fun h => ?_, fun h => ?_⟩ | exact True.intro) | refine Zc (a3u a) ?_ | refine Zc (a3u b) ?_ | (refine hN _ ?_; clear hN N) | (refine Zk hmk ?_; clear hmk mk) | refine Zt aY.d ?_ | fail)
theorem a3t (l : List Int) (k : Nat) (v : Int) : (e7 l).modify k (fun e => u0 e 0 [.v (.int .i64 v)]) = e7 (l.set k v) := by
 apply List.ext_getElem?
 intro j
 rw [List.getElem?_modify]
 simp only [e7, List.getElem?_map, List.getElem?_set]
 by_cases h : k = j
 · subst h
   by_cases h2 : k < l.length
   · simp [h2, u0]
   · simp [h2]
 · simp [h]
def zD := ZZ.mk (Zq @a3t (Zq @u7 (Zq @K0 (Zq @B4 (Zq @N9 (Zq @c6 (Zq @r6 (Zq @N7 (Zq @B1 (Zq @b5 @b6))))))))))
def a2B := ZZ.mk (Zq @List.length_set.{0} (Zq @a3t (Zq @u7 (Zq @K0 (Zq @B4 (Zq @N9 (Zq @c6 (Zq @r6 (Zq @N7 (Zq @B1 (Zq @b5 @b6)))))))))))
theorem b01 (l : List Int) (hl : l.length ≤ 12) : B2 Tryd.prog 81 [.own 0 0 l.length, .v (.int .i64 0), .v (.int .i64 l.length)] [⟨1, e7 l, 0⟩] 1 (fun _ : Unit => True) (fun _ => .Q8 []) (fun _ => [⟨1, e7 (J6 l), 0⟩]) := by
 refine Zf Tryd.func81 Tryd.ntmps81 ?_
 repeat' (first | refine Za ?_ | (with_reducible first | refine Zz.mk fun N hN mk hmk => ?_ | refine Zb.mk fun N hN => ?_ | refine Zi.mk fun h => ?_ | refine ⟨fun h => ?_, fun h => ?_⟩ | exact True.intro) | (refine hN _ ?_; clear hN N) | (refine Zk hmk ?_; clear hmk mk) | refine Zt zD.d ?_ | fail)
 refine l9 (fun i => ⟨[.own 0 0 l.length, .v (.int .i64 0), .v (.int .i64 l.length), .dead, .dead, .dead, .v (.int .i64 ((i + 1 : Nat) : Int)), .dead, .dead, .dead, .dead, .dead, .dead, .dead, .dead, .dead, .dead, .dead, .dead, .dead, .dead, .dead, .dead, .dead, .dead, .dead, .dead, .dead, .dead, .dead, .dead, .dead, .dead, .dead, .dead, .dead, .dead, .dead, .dead, .dead, .dead, .dead, .dead, .dead, .dead, .dead, .dead, .dead, .dead], [(0, .live ⟨1, e7 (J6 (l.take (i + 1)) ++ l.drop (i + 1)), 0⟩), (1, .B3 99 [.ptr 0 0 0])], 2⟩) (l.length - 1) (Zw [0,1,2,6] [0] zD.d ?_) ?_
 · have e : J6 (l.take 1) ++ l.drop 1 = l := by
     cases l with
     | nil => rfl
     | cons a l => rfl
   simp only [Nat.zero_add, e, Int.zero_add, Int.natCast_one]
 · intro i hi
   obtain ⟨p, hp⟩ : ∃ p, p = J6 (l.take (i + 1)) := ⟨_, rfl⟩
   have hpl : p.length = (l.take (i + 1)).length := by rw [hp, pI]
   have hps : Le p := by rw [hp]; exact a3v _
   rw [List.length_take] at hpl
   rw [← hp]
   by_cases hin : i + 1 < l.length
   · obtain ⟨x, hx⟩ : ∃ x, x = l.getD (i + 1) 0 := ⟨_, rfl⟩
     obtain ⟨r, hr⟩ : ∃ r, r = l.drop (i + 1 + 1) := ⟨_, rfl⟩
     have hrl : r.length = l.length - (i + 1 + 1) := by rw [hr]; simp
     have hd : l.drop (i + 1) = x :: r := by
       rw [hx, hr, List.drop_eq_getElem_cons hin, List.getD_eq_getElem?_getD, List.getElem?_eq_getElem hin]; rfl
     have he : p ++ x :: r = bV p x p.length ++ r := by rw [b0k]; simp
     rw [hd, he]
     have hn : J6 (l.take (i + 1 + 1)) = lY p x := by rw [a5r l (i + 1) hin, hp, hx]
     rw [hn, ← hr]
     have hle := nV p x p.length (Nat.le_refl _)
     have hpi : p.length = i + 1 := by omega
     have hrr : p.length + 1 + r.length = l.length := by omega
     repeat' (first | refine Za ?_ | (with_reducible first | refine Zz.mk fun N hN mk hmk => ?_ | refine Zb.mk fun N hN => ?_ | refine Zi.mk fun h => ?_ | refine ⟨fun h => ?_, fun h => ?_⟩ | exact True.intro) | (refine hN _ ?_; clear hN N) | (refine Zk hmk ?_; clear hmk mk) | refine Zt zD.d ?_ | fail)
     refine M5 (fun m => ⟨[.own 0 0 l.length, .v (.int .i64 0), .v (.int .i64 l.length), .dead, .dead, .dead, .v (.int .i64 ((i + 1 : Nat) : Int)), .v (.int .i64 ((p.length - m : Nat) : Int)), .dead, .dead, .dead, .dead, .dead, .dead, .dead, .dead, .dead, .dead, .dead, .dead, .dead, .dead, .dead, .dead, .dead, .dead, .dead, .dead, .dead, .dead, .dead, .dead, .dead, .dead, .dead, .dead, .dead, .dead, .dead, .dead, .dead, .dead, .dead, .dead, .dead, .dead, .dead, .dead, .dead], [(0, .live ⟨1, e7 (bV p x (p.length - m) ++ r), 0⟩), (1, .B3 99 [.ptr 0 0 0])], 2⟩) (fun ii => Go.Ab.Z7 ((fun m => ∀ k, p.length - m ≤ k → k < p.length → x < p.getD k 0) ii)) p.length (Zw [0,1,2,6,7] [0] zD.d ?_) ?_ ?_
     · rw [Nat.sub_zero, hpi]
     · exact ⟨fun k h1 h2 => by omega⟩
     · intro m hm hI
       have hI := hI.out
       obtain ⟨j, hj⟩ : ∃ j, j = p.length - m := ⟨_, rfl⟩
       have hj1 : p.length - (m + 1) = j - 1 := by omega
       simp only [← hj] at hI ⊢
       rw [hj1]
       have hjl : j ≤ p.length := by omega
       have hA := b2x p x j r hjl
       have hL : (bV p x j ++ r).length = l.length := by rw [List.length_append, nV p x j hjl]; exact hrr
       by_cases hj0 : 0 < j
       · have hB := b0l p x j (j - 1) r (by omega) hjl
         have e1 : ((j : Int) - 1).toNat = j - 1 := by omega
         have C := b2T x (p.getD (j - 1) 0)
         have hW := a8k p x j r hj0 hjl
         repeat' (first | refine Za ?_ | (with_reducible first | refine Zz.mk fun N hN mk hmk => ?_ | refine Zb.mk fun N hN => ?_ | refine Zi.mk fun h => ?_ | refine ⟨fun h => ?_, fun h => ?_⟩ | exact True.intro) | refine Zc C ?_ | (refine hN _ ?_; clear hN N) | (refine Zk hmk ?_; clear hmk mk) | refine Zt (Zq a2B.d (Zq hA (Zq hB (Zq e1 (Zq hL hW))))) ?_ | fail)
         · refine ⟨⟨fun k h1 h2 => ?_⟩, ?_⟩
           · by_cases hk : k = j - 1
             · rw [hk]; assumption
             · exact hI k (by omega) h2
           · refine Zw [0,1,2,6,7] [0] (Zq a2B.d (Zq hA (Zq hB (Zq e1 (Zq hL hW))))) ?_
             rw [show (j : Int) - 1 = ((j - 1 : Nat) : Int) by omega]
         · refine Zw [0, 1, 2, 6] [0] (Zq a2B.d (Zq hA (Zq hB (Zq e1 (Zq hL hW))))) ?_
           rw [a26 hps hjl (.inr (by omega)) (by
             by_cases hjp : j = p.length
             · exact .inl hjp
             · exact .inr (hI j (Nat.le_refl _) (by omega)))]
           rfl
         · exfalso; omega
       · obtain rfl : j = 0 := by omega
         repeat' (first | refine Za ?_ | (with_reducible first | refine Zz.mk fun N hN mk hmk => ?_ | refine Zb.mk fun N hN => ?_ | refine Zi.mk fun h => ?_ | refine ⟨fun h => ?_, fun h => ?_⟩ | exact True.intro) | (refine hN _ ?_; clear hN N) | (refine Zk hmk ?_; clear hmk mk) | refine Zt (Zq a2B.d (Zq hA hL)) ?_ | fail)
         all_goals first
           | (exfalso; omega)
           | (refine Zw [0, 1, 2, 6] [0] (Zq a2B.d (Zq hA hL)) ?_
              rw [a26 hps hjl (.inl rfl) (by
                by_cases hjp : 0 = p.length
                · exact .inl hjp
                · exact .inr (hI 0 (Nat.le_refl _) (by omega)))]
              rfl)
   ·
     have e : p ++ l.drop (i + 1) = J6 l := by
       rw [hp, List.drop_of_length_le (by omega), List.append_nil, List.take_of_length_le (by omega)]
     rw [e]
     repeat' (first | refine Za ?_ | (with_reducible first | refine Zz.mk fun N hN mk hmk => ?_ | refine Zb.mk fun N hN => ?_ | refine Zi.mk fun h => ?_ | refine ⟨fun h => ?_, fun h => ?_⟩ | exact True.intro) | (refine hN _ ?_; clear hN N) | (refine Zk hmk ?_; clear hmk mk) | refine Zt zD.d ?_ | fail)
     refine Zr (()) [0] zD.d ?_
     trivial
def b3y := ZZ.mk (Zq @bM (Zq @u7 (Zq @c6 (Zq @r6 (Zq @b5 (Zq @b6 @E9))))))
def sZ := ZZ.mk (Zq @bM (Zq @u7 (Zq @c6 (Zq @r6 (Zq @b5 @b6)))))
theorem b5t (l : List Int) (d : Int) (hl : l.length ≤ 12) : B2 Tryd.prog 79 [.own 0 0 l.length, .v (.int .i64 0), .v (.int .i64 l.length), .v (.int .i64 d)] [⟨1, e7 l, 0⟩] 1 (fun _ : Unit => True) (fun _ => .Q8 []) (fun _ => [⟨1, e7 (J6 l), 0⟩]) := by
 have C := b01 l hl
 refine Zf Tryd.func79 Tryd.ntmps79 ?_
 repeat' (first | refine Za ?_ | (with_reducible first | refine Zz.mk fun N hN mk hmk => ?_ | refine Zb.mk fun N hN => ?_ | refine Zi.mk fun h => ?_ | refine ⟨fun h => ?_, fun h => ?_⟩ | exact True.intro) | (guard_target =~ AK Tryd.prog _ _ _ _; refine A4 [()] ?_) | (refine Zp C [0] b3y.d ?_; with_reducible intro _ _) | (refine hN _ ?_; clear hN N) | (refine Zk hmk ?_; clear hmk mk) | refine Zt b3y.d ?_ | fail)
 refine Zr (()) [0] sZ.d ?_
 trivial
theorem b4T (n : Int) : IntKind.u8.wrap n = n % 256 := by simp [IntKind.wrap, IntKind.signed, IntKind.bits]
theorem b05 (n : Nat) (hn : n ≤ 12) : ∃ v : Int, e8 Tryd.prog 91 [.v (.int .u64 n)] (fun _ => .v (.int .i64 v)) (fun _ => []) := by
 refine Exists.intro ?v ?_
 rotate_left
 refine Zf Tryd.func91 Tryd.ntmps91 ?_
 repeat' (first | refine Za ?_ | (with_reducible first | refine Zz.mk fun N hN mk hmk => ?_ | refine Zb.mk fun N hN => ?_ | refine Zi.mk fun h => ?_ | refine ⟨fun h => ?_, fun h => ?_⟩ | exact True.intro) | (refine hN _ ?_; clear hN N) | (refine Zk hmk ?_; clear hmk mk) | refine Zt sZ.d ?_ | fail)
 refine ⟨⟨by rw [b4T]; omega, Int.lt_of_lt_of_le (show IntKind.u8.wrap (n : Int) < 256 by rw [b4T]; omega) (by decide)⟩, ?_⟩
 repeat' (first | refine Za ?_ | (with_reducible first | refine Zz.mk fun N hN mk hmk => ?_ | refine Zb.mk fun N hN => ?_ | refine Zi.mk fun h => ?_ | refine ⟨fun h => ?_, fun h => ?_⟩ | exact True.intro) | (refine hN _ ?_; clear hN N) | (refine Zk hmk ?_; clear hmk mk) | refine Zt sZ.d ?_ | fail)
 rfl
theorem b07 (n : Nat) (hn : n ≤ 12) : ∃ v : Int, e8 Tryd.prog 80 [.v (.int .u64 n)] (fun _ => .v (.int .i64 v)) (fun _ => []) := by
 obtain ⟨v, C⟩ := b05 n hn
 refine ⟨v, ?_⟩
 refine Zf Tryd.func80 Tryd.ntmps80 ?_
 repeat' (first | refine Za ?_ | (with_reducible first | refine Zz.mk fun N hN mk hmk => ?_ | refine Zb.mk fun N hN => ?_ | refine Zi.mk fun h => ?_ | refine ⟨fun h => ?_, fun h => ?_⟩ | exact True.intro) | refine Zc C ?_ | (refine hN _ ?_; clear hN N) | (refine Zk hmk ?_; clear hmk mk) | refine Zt sZ.d ?_ | fail)
theorem dF (l : List Int) (hl : l.length ≤ 12) : B2 Tryd.prog 77 [.own 0 0 l.length] [⟨1, e7 l, 0⟩] 1 (fun _ : Unit => True) (fun _ => .Q8 []) (fun _ => [⟨1, e7 (J6 l), 0⟩]) := by
 obtain ⟨v, C⟩ := b07 l.length hl
 have C2 := b5t l v hl
 refine Zf Tryd.func77 Tryd.ntmps77 ?_
 repeat' (first | refine Za ?_ | (with_reducible first | refine Zz.mk fun N hN mk hmk => ?_ | refine Zb.mk fun N hN => ?_ | refine Zi.mk fun h => ?_ | refine ⟨fun h => ?_, fun h => ?_⟩ | exact True.intro) | refine Zc C ?_ | (refine Zp C2 [0] sZ.d ?_; with_reducible intro _ _) | (refine hN _ ?_; clear hN N) | (refine Zk hmk ?_; clear hmk mk) | refine Zt sZ.d ?_ | fail)
 refine Zr (()) [0] sZ.d ?_
 trivial
theorem tQ (t : u2) : e8 Tryd.prog 39 [.agg t.av] (fun _ => .b7 false (e7 (c8 t))) (fun _ => []) := by
 obtain ⟨k, s, ⟨dk, dn, dv⟩, ⟨ak, an, av⟩, ⟨bk, bn, bv⟩, t0, t1⟩ := t
 refine Zf Tryd.func39 Tryd.ntmps39 ?_; simp only [u2.av]
 repeat' (first | (guard_target =~ AK Tryd.prog (Go.Code.region 4 _ _) _ _ _; (refine a9R 1 rfl rfl (fun c => by simp) ?_; intro N N2 hN hN2)) | refine Za ?_ | (with_reducible first | refine Zz.mk fun N hN mk hmk => ?_ | refine Zb.mk fun N hN => ?_ | refine Zi.mk fun h => ?_ | refine ⟨fun h => ?_, fun h => ?_⟩ | exact True.intro) | (refine hN _ ?_; clear hN N) | (refine Zk hmk ?_; clear hmk mk) | refine Zt aY.d ?_ | fail)
 rotate_left
 · refine b3m (n := 2) (E := T3) rfl b14 rfl (by simp [V0]) rfl rfl rfl (by simp) rfl (by decide) ?_
   refine hN2 _ ?_
   clear hN2
   repeat' (first | refine Za ?_ | (with_reducible first | refine Zz.mk fun N hN mk hmk => ?_ | refine Zb.mk fun N hN => ?_ | refine Zi.mk fun h => ?_ | refine ⟨fun h => ?_, fun h => ?_⟩ | exact True.intro) | (refine hN _ ?_; clear hN N) | (refine Zk hmk ?_; clear hmk mk) | refine Zt aY.d ?_ | fail)
   rw [show c8 ⟨k, s, ⟨dk, dn, dv⟩, ⟨ak, an, av⟩, ⟨bk, bn, bv⟩, t0, t1⟩ = [t0, t1] from (if_neg ‹¬k = 5›).trans (if_pos ⟨‹k = 2›, ‹¬t0 = t1›⟩)]; rfl
 all_goals (unfold c8; (repeat' split) <;> first | rfl | (exfalso; omega) | (exfalso; simp_all; done) | simp_all)
def H2 : List Int → List Int
 | [] => []
 | [a] => [a]
 | a :: b :: l => if a = b then H2 (b :: l) else a :: H2 (b :: l)
theorem b3Y : T3.zero.all Value.oneCell' = true := rfl
theorem ct1 : ((1 : Nat) : Int) = 1 := rfl
theorem ct2 : ((2 : Nat) : Int) = 2 := rfl
theorem ct3 : ((3 : Nat) : Int) = 3 := rfl
theorem jR : ∀ (l : List Int) (x : Int), x ∈ H2 l ↔ x ∈ l
 | [], x => Iff.rfl
 | [a], x => Iff.rfl
 | a :: b :: l, x => by
   have ih := jR (b :: l) x
   rw [H2]
   split
   · rename_i h
     subst h
     rw [ih]; simp
   · rw [List.mem_cons, ih, List.mem_cons (a := x) (b := a)]
theorem rJ : ∀ (l : List Int), Le l → K8 (H2 l)
 | [], _ => List.Pairwise.nil
 | [a], _ => List.pairwise_singleton _ _
 | a :: b :: l, h => by
   obtain ⟨h1, h2⟩ := List.pairwise_cons.1 h
   obtain ⟨h3, h4⟩ := List.pairwise_cons.1 h2
   have ih := rJ (b :: l) h2
   rw [H2]
   split
   · exact ih
   · rename_i hne
     refine List.pairwise_cons.2 ⟨fun y hy => ?_, ih⟩
     have hy' := (jR (b :: l) y).1 hy
     have hab := h1 b (by simp)
     rcases List.mem_cons.1 hy' with rfl | hy'
     · omega
     · have := h3 y hy'; omega
def lH := ZZ.mk (Zq @b3Y (Zq @b5 (Zq @b6 (Zq @W6.eq_1 (Zq @ct1 (Zq @ct2 (Zq @ct3 (Zq @or_false (Zq @true_or (Zq @or_true @List.length_append.{0}))))))))))
def zE := ZZ.mk (Zq @b3Y (Zq @b5 (Zq @b6 (Zq @W6.eq_1 (Zq @ct1 (Zq @ct2 (Zq @ct3 (Zq @or_false (Zq @true_or (Zq @or_true (Zq @List.length_append.{0} @E9)))))))))))
theorem a40 (l : List Int) (hl : l.length ≤ 3) : B2 Tryd.prog 78 [.own 0 0 l.length] [⟨1, e7 l, 0⟩] 1 (fun _ : Unit => True) (fun _ => .own 0 0 (H2 l).length) (fun _ => [⟨1, e7 (H2 l) ++ List.replicate (l.length - (H2 l).length) [.dead], 0⟩]) := by
 match l, hl with
 | [], _ =>
   simp only [H2, e7, List.map_nil, List.length_nil, Nat.sub_self, List.replicate_zero, List.append_nil]
   refine Zf Tryd.func78 Tryd.ntmps78 ?_
   repeat' (first | refine Za ?_ | (with_reducible first | refine Zz.mk fun N hN mk hmk => ?_ | refine Zb.mk fun N hN => ?_ | refine Zi.mk fun h => ?_ | refine ⟨fun h => ?_, fun h => ?_⟩ | exact True.intro) | (refine hN _ ?_; clear hN N) | (refine Zk hmk ?_; clear hmk mk) | refine oQ lH.d ?_ | fail)
   refine Zr (()) [0] lH.d ?_
   trivial
 | [a], _ =>
   simp only [H2, e7, List.map_nil, List.map_cons, List.length_cons, List.length_nil, Nat.sub_self, List.replicate_zero, List.append_nil]
   refine Zf Tryd.func78 Tryd.ntmps78 ?_
   repeat' (first | refine Za ?_ | (with_reducible first | refine Zz.mk fun N hN mk hmk => ?_ | refine Zb.mk fun N hN => ?_ | refine Zi.mk fun h => ?_ | refine ⟨fun h => ?_, fun h => ?_⟩ | exact True.intro) | (refine hN _ ?_; clear hN N) | (refine Zk hmk ?_; clear hmk mk) | refine oQ lH.d ?_ | fail)
   refine Zr (()) [0] lH.d ?_
   trivial
 | [a, b], _ =>
   by_cases h1 : a = b
   · subst h1
     simp only [H2, if_true, e7, List.map_nil, List.map_cons, List.length_cons, List.length_nil, Nat.reduceAdd, Nat.reduceSub, List.replicate_succ, List.replicate_zero, List.cons_append, List.nil_append, List.append_nil]
     refine Zf Tryd.func78 Tryd.ntmps78 ?_
     repeat' (first | refine Za ?_ | (with_reducible first | refine Zz.mk fun N hN mk hmk => ?_ | refine Zb.mk fun N hN => ?_ | refine Zi.mk fun h => ?_ | refine ⟨fun h => ?_, fun h => ?_⟩ | exact True.intro) | (guard_target =~ AK Tryd.prog _ _ _ _; refine A4 [(), (), ()] ?_) | (refine hN _ ?_; clear hN N) | (refine Zk hmk ?_; clear hmk mk) | refine oQ zE.d ?_ | fail)
     all_goals first
       | (exfalso; omega)
       | (refine Zr (()) [0] lH.d ?_
          trivial)
   · simp only [H2, h1, if_false, e7, List.map_nil, List.map_cons, List.length_cons, List.length_nil, Nat.reduceAdd, Nat.reduceSub, List.replicate_succ, List.replicate_zero, List.cons_append, List.nil_append, List.append_nil]
     refine Zf Tryd.func78 Tryd.ntmps78 ?_
     repeat' (first | refine Za ?_ | (with_reducible first | refine Zz.mk fun N hN mk hmk => ?_ | refine Zb.mk fun N hN => ?_ | refine Zi.mk fun h => ?_ | refine ⟨fun h => ?_, fun h => ?_⟩ | exact True.intro) | (guard_target =~ AK Tryd.prog _ _ _ _; refine A4 [(), (), ()] ?_) | (refine hN _ ?_; clear hN N) | (refine Zk hmk ?_; clear hmk mk) | refine oQ zE.d ?_ | fail)
     all_goals first
       | (exfalso; omega)
       | (refine Zr (()) [0] lH.d ?_
          trivial)
 | [a, b, c], _ =>
   by_cases h1 : a = b
   · subst h1
     by_cases h2 : a = c
     · subst h2
       simp only [H2, if_true, e7, List.map_nil, List.map_cons, List.length_cons, List.length_nil, Nat.reduceAdd, Nat.reduceSub, List.replicate_succ, List.replicate_zero, List.cons_append, List.nil_append, List.append_nil]
       refine Zf Tryd.func78 Tryd.ntmps78 ?_
       repeat' (first | refine Za ?_ | (with_reducible first | refine Zz.mk fun N hN mk hmk => ?_ | refine Zb.mk fun N hN => ?_ | refine Zi.mk fun h => ?_ | refine ⟨fun h => ?_, fun h => ?_⟩ | exact True.intro) | (guard_target =~ AK Tryd.prog _ _ _ _; refine A4 [(), (), ()] ?_) | (refine hN _ ?_; clear hN N) | (refine Zk hmk ?_; clear hmk mk) | refine oQ zE.d ?_ | fail)
       all_goals first
         | (exfalso; omega)
         | (refine Zr (()) [0] lH.d ?_
            trivial)
     · simp only [H2, h2, if_true, if_false, e7, List.map_nil, List.map_cons, List.length_cons, List.length_nil, Nat.reduceAdd, Nat.reduceSub, List.replicate_succ, List.replicate_zero, List.cons_append, List.nil_append, List.append_nil]
       refine Zf Tryd.func78 Tryd.ntmps78 ?_
       repeat' (first | refine Za ?_ | (with_reducible first | refine Zz.mk fun N hN mk hmk => ?_ | refine Zb.mk fun N hN => ?_ | refine Zi.mk fun h => ?_ | refine ⟨fun h => ?_, fun h => ?_⟩ | exact True.intro) | (guard_target =~ AK Tryd.prog _ _ _ _; refine A4 [(), (), ()] ?_) | (refine hN _ ?_; clear hN N) | (refine Zk hmk ?_; clear hmk mk) | refine oQ zE.d ?_ | fail)
       all_goals first
         | (exfalso; omega)
         | (refine Zr (()) [0] lH.d ?_
            trivial)
   · by_cases h2 : b = c
     · subst h2
       simp only [H2, h1, if_true, if_false, e7, List.map_nil, List.map_cons, List.length_cons, List.length_nil, Nat.reduceAdd, Nat.reduceSub, List.replicate_succ, List.replicate_zero, List.cons_append, List.nil_append, List.append_nil]
       refine Zf Tryd.func78 Tryd.ntmps78 ?_
       repeat' (first | refine Za ?_ | (with_reducible first | refine Zz.mk fun N hN mk hmk => ?_ | refine Zb.mk fun N hN => ?_ | refine Zi.mk fun h => ?_ | refine ⟨fun h => ?_, fun h => ?_⟩ | exact True.intro) | (guard_target =~ AK Tryd.prog _ _ _ _; refine A4 [(), (), ()] ?_) | (refine hN _ ?_; clear hN N) | (refine Zk hmk ?_; clear hmk mk) | refine oQ zE.d ?_ | fail)
       all_goals first
         | (exfalso; omega)
         | (refine Zr (()) [0] lH.d ?_
            trivial)
     · simp only [H2, h1, h2, if_false, e7, List.map_nil, List.map_cons, List.length_cons, List.length_nil, Nat.reduceAdd, Nat.reduceSub, List.replicate_succ, List.replicate_zero, List.cons_append, List.nil_append, List.append_nil]
       refine Zf Tryd.func78 Tryd.ntmps78 ?_
       repeat' (first | refine Za ?_ | (with_reducible first | refine Zz.mk fun N hN mk hmk => ?_ | refine Zb.mk fun N hN => ?_ | refine Zi.mk fun h => ?_ | refine ⟨fun h => ?_, fun h => ?_⟩ | exact True.intro) | (guard_target =~ AK Tryd.prog _ _ _ _; refine A4 [(), (), ()] ?_) | (refine hN _ ?_; clear hN N) | (refine Zk hmk ?_; clear hmk mk) | refine oQ zE.d ?_ | fail)
       all_goals first
         | (exfalso; omega)
         | (refine Zr (()) [0] lH.d ?_
            trivial)
end Go.Proofs.YtfccigmfcpimgaaDoor
end
