/- Own work (by an AI agent; no person has read it): part of a proof of the seat YtfccigmfcpimgaaDoor. -/
import Derived.WalkKit
import Derived.Shelf.Spec.TrailingZeros
import Derived.Test.YtfccigmfcpimgaaDoorXd
set_option linter.unusedSimpArgs false
set_option linter.unusedVariables false
set_option maxRecDepth 100000
set_option maxHeartbeats 10000000
section
namespace Go.Proofs.YtfccigmfcpimgaaDoor
open Go.Ab
theorem xK (c : List Int) (X : List (List AV)) : (e7 c ++ X).take c.length = e7 c := by
 rw [List.take_append_of_le_length (by rw [u7]; exact Nat.le_refl _), B1]
theorem a9g (q : List Int) (n : Nat) (g : Nat → Nat) : List.map (fun (e : List AV) => List.map (B8 g 3) e) (e7 q ++ List.replicate n [AV.dead]) = e7 q ++ List.replicate n [AV.dead] := by
 rw [List.map_append]
 congr 1
 · simp [e7, B8]
 · simp [B8]
def gF (ops : List J8) : List Int := (ops.filter fun o => decide (o.k = 2)).map fun o => o.n
theorem Y2 (o : J8) (l : List J8) : gF (o :: l) = if o.k = 2 then o.n :: gF l else gF l := by
 unfold gF
 rw [List.filter_cons]
 by_cases h : o.k = 2 <;> simp [h]
theorem bN : gF [] = [] := rfl
theorem b20 {ops : List J8} {x : Int} : x ∈ gF ops ↔ ∃ o ∈ ops, o.k = 2 ∧ o.n = x := by
 unfold gF
 rw [List.mem_map]
 constructor
 · rintro ⟨o, h1, h2⟩
   obtain ⟨h3, h4⟩ := List.mem_filter.1 h1
   exact ⟨o, h3, by simpa using h4, h2⟩
 · rintro ⟨o, h1, h2, h3⟩
   exact ⟨o, List.mem_filter.2 ⟨h1, by simpa using h2⟩, h3⟩
theorem b3i (ops : List J8) : H2 (J6 (gF ops)) = s9 ops := by
 refine K8.ext (rJ _ (a3v _)) (xJ _) fun x => ?_
 rw [jR, a8C, b20, lR]
theorem Y3 {ops : List J8} {l : List Int} (h : gF ops = l) : H2 (J6 l) = s9 ops := by rw [← h]; exact b3i ops
theorem I4 (l : List Int) (hl : l.length ≤ 3) : B2 Tryd.prog 78 [.own 0 0 l.length] [⟨1, e7 (J6 l), 0⟩] 1 (fun _ : Unit => True) (fun _ => .own 0 0 (H2 (J6 l)).length) (fun _ => [⟨1, e7 (H2 (J6 l)) ++ List.replicate (l.length - (H2 (J6 l)).length) [.dead], 0⟩]) := by
 have C := a40 (J6 l) (by rw [pI]; exact hl)
 rw [pI] at C
 exact C
def b3z := ZZ.mk (Zq @bM (Zq @b5 (Zq @b6 @E9)))
theorem a8D : e8 Tryd.prog 81 [.b7 false [], .v (.int .i64 0), .v (.int .i64 0)] (fun _ => .Q8 []) (fun _ => []) := by
 refine Zf Tryd.func81 Tryd.ntmps81 ?_
 repeat' (first | refine Za ?_ | (with_reducible first | refine Zz.mk fun N hN mk hmk => ?_ | refine Zb.mk fun N hN => ?_ | refine Zi.mk fun h => ?_ | refine ⟨fun h => ?_, fun h => ?_⟩ | exact True.intro) | (guard_target =~ AK Tryd.prog _ _ _ _; refine A4 [()] ?_) | (refine hN _ ?_; clear hN N) | (refine Zk hmk ?_; clear hmk mk) | refine Zt b3z.d ?_ | fail)
theorem b3a (d : Int) : e8 Tryd.prog 79 [.b7 false [], .v (.int .i64 0), .v (.int .i64 0), .v (.int .i64 d)] (fun _ => .Q8 []) (fun _ => []) := by
 refine Zf Tryd.func79 Tryd.ntmps79 ?_
 repeat' (first | refine Za ?_ | (with_reducible first | refine Zz.mk fun N hN mk hmk => ?_ | refine Zb.mk fun N hN => ?_ | refine Zi.mk fun h => ?_ | refine ⟨fun h => ?_, fun h => ?_⟩ | exact True.intro) | (guard_target =~ AK Tryd.prog _ _ _ _; refine A4 [()] ?_) | refine Zc a8D ?_ | (refine hN _ ?_; clear hN N) | (refine Zk hmk ?_; clear hmk mk) | refine Zt b3z.d ?_ | fail)
def b3A := ZZ.mk (Zq @bM (Zq @b5 @b6))
theorem a4k : e8 Tryd.prog 77 [.b7 false []] (fun _ => .Q8 []) (fun _ => []) := by
 obtain ⟨v, C⟩ := b07 0 (by omega)
 have C2 := b3a v
 simp only [Int.natCast_zero] at C
 refine Zf Tryd.func77 Tryd.ntmps77 ?_
 repeat' (first | refine Za ?_ | (with_reducible first | refine Zz.mk fun N hN mk hmk => ?_ | refine Zb.mk fun N hN => ?_ | refine Zi.mk fun h => ?_ | refine ⟨fun h => ?_, fun h => ?_⟩ | exact True.intro) | refine Zc C ?_ | refine Zc C2 ?_ | (refine hN _ ?_; clear hN N) | (refine Zk hmk ?_; clear hmk mk) | refine Zt b3A.d ?_ | fail)
theorem qT : e8 Tryd.prog 78 [.b7 false []] (fun _ => .b7 false []) (fun _ => []) := by
 refine Zf Tryd.func78 Tryd.ntmps78 ?_
 repeat' (first | refine Za ?_ | (with_reducible first | refine Zz.mk fun N hN mk hmk => ?_ | refine Zb.mk fun N hN => ?_ | refine Zi.mk fun h => ?_ | refine ⟨fun h => ?_, fun h => ?_⟩ | exact True.intro) | (refine hN _ ?_; clear hN N) | (refine Zk hmk ?_; clear hmk mk) | refine Zt b3A.d ?_ | fail)
 all_goals skip
def T2 := ZZ.mk (Zq @a9g (Zq @ite_self.{1} (Zq @u7 (Zq @ct1 (Zq @ct2 (Zq @ct3 (Zq @List.length_append.{0} (Zq @Nat.le_add_right (Zq @xK (Zq @a3T (Zq @c6 (Zq @r6 (Zq @b5 (Zq @b6 @E9))))))))))))))
theorem a8e (a b : J8) : e8 Tryd.prog 76 [.b7 false (dO [a, b])] (fun _ => .b7 false (e7 (s9 [a, b]))) (fun _ => []) := by
 obtain ⟨ak, an, av⟩ := a
 obtain ⟨bk, bn, bv⟩ := b
 by_cases ha : ak = 2
 · by_cases hb : bk = 2
   · have hr : gF [⟨ak, an, av⟩, ⟨bk, bn, bv⟩] = [an, bn] := by simp only [Y2, bN, ha, hb, if_true, if_false]
     have e := Y3 hr
     have C1 := dF [an, bn] (by simp)
     have C2 := I4 [an, bn] (by simp)
     rw [e] at C2
     generalize hC : J6 [an, bn] = w at C1 C2
     clear hC e hr
     generalize s9 [⟨ak, an, av⟩, ⟨bk, bn, bv⟩] = q at *
     simp only [e7, List.map_cons, List.map_nil, List.length_cons, List.length_nil, Nat.reduceAdd] at C1
     simp only [List.length_cons, List.length_nil, Nat.reduceAdd] at C2
     rw [show (List.map (fun z => [AV.v (Value.int IntKind.i64 z)]) w) = e7 w from rfl] at C1
     refine Zf Tryd.func76 Tryd.ntmps76 ?_; simp only [dO, J8.av, List.map_cons, List.map_nil]
     repeat' (first | refine Za ?_ | (with_reducible first | refine Zz.mk fun N hN mk hmk => ?_ | refine Zb.mk fun N hN => ?_ | refine Zi.mk fun h => ?_ | refine ⟨fun h => ?_, fun h => ?_⟩ | exact True.intro) | (guard_target =~ AK Tryd.prog _ _ _ _; refine A4 [(), (), ()] ?_) | (refine Zp C1 [264] (Zq T2.d (Zq ha hb)) ?_; with_reducible intro _ _) | (refine Zp C2 [264] (Zq T2.d (Zq ha hb)) ?_; with_reducible intro _ _) | (refine hN _ ?_; clear hN N) | (refine Zk hmk ?_; clear hmk mk) | refine oQ (Zq T2.d (Zq ha hb)) ?_ | fail)
   · have hr : gF [⟨ak, an, av⟩, ⟨bk, bn, bv⟩] = [an] := by simp only [Y2, bN, ha, hb, if_true, if_false]
     have e := Y3 hr
     have C1 := dF [an] (by simp)
     have C2 := I4 [an] (by simp)
     rw [e] at C2
     generalize hC : J6 [an] = w at C1 C2
     clear hC e hr
     generalize s9 [⟨ak, an, av⟩, ⟨bk, bn, bv⟩] = q at *
     simp only [e7, List.map_cons, List.map_nil, List.length_cons, List.length_nil, Nat.reduceAdd] at C1
     simp only [List.length_cons, List.length_nil, Nat.reduceAdd] at C2
     rw [show (List.map (fun z => [AV.v (Value.int IntKind.i64 z)]) w) = e7 w from rfl] at C1
     refine Zf Tryd.func76 Tryd.ntmps76 ?_; simp only [dO, J8.av, List.map_cons, List.map_nil]
     repeat' (first | refine Za ?_ | (with_reducible first | refine Zz.mk fun N hN mk hmk => ?_ | refine Zb.mk fun N hN => ?_ | refine Zi.mk fun h => ?_ | refine ⟨fun h => ?_, fun h => ?_⟩ | exact True.intro) | (guard_target =~ AK Tryd.prog _ _ _ _; refine A4 [(), (), ()] ?_) | (refine Zp C1 [136] (Zq T2.d (Zq ha hb)) ?_; with_reducible intro _ _) | (refine Zp C2 [136] (Zq T2.d (Zq ha hb)) ?_; with_reducible intro _ _) | (refine hN _ ?_; clear hN N) | (refine Zk hmk ?_; clear hmk mk) | refine oQ (Zq T2.d (Zq ha hb)) ?_ | fail)
 · by_cases hb : bk = 2
   · have hr : gF [⟨ak, an, av⟩, ⟨bk, bn, bv⟩] = [bn] := by simp only [Y2, bN, ha, hb, if_true, if_false]
     have e := Y3 hr
     have C1 := dF [bn] (by simp)
     have C2 := I4 [bn] (by simp)
     rw [e] at C2
     generalize hC : J6 [bn] = w at C1 C2
     clear hC e hr
     generalize s9 [⟨ak, an, av⟩, ⟨bk, bn, bv⟩] = q at *
     simp only [e7, List.map_cons, List.map_nil, List.length_cons, List.length_nil, Nat.reduceAdd] at C1
     simp only [List.length_cons, List.length_nil, Nat.reduceAdd] at C2
     rw [show (List.map (fun z => [AV.v (Value.int IntKind.i64 z)]) w) = e7 w from rfl] at C1
     refine Zf Tryd.func76 Tryd.ntmps76 ?_; simp only [dO, J8.av, List.map_cons, List.map_nil]
     repeat' (first | refine Za ?_ | (with_reducible first | refine Zz.mk fun N hN mk hmk => ?_ | refine Zb.mk fun N hN => ?_ | refine Zi.mk fun h => ?_ | refine ⟨fun h => ?_, fun h => ?_⟩ | exact True.intro) | (guard_target =~ AK Tryd.prog _ _ _ _; refine A4 [(), (), ()] ?_) | (refine Zp C1 [216] (Zq T2.d (Zq ha hb)) ?_; with_reducible intro _ _) | (refine Zp C2 [216] (Zq T2.d (Zq ha hb)) ?_; with_reducible intro _ _) | (refine hN _ ?_; clear hN N) | (refine Zk hmk ?_; clear hmk mk) | refine oQ (Zq T2.d (Zq ha hb)) ?_ | fail)
   · have hr : gF [⟨ak, an, av⟩, ⟨bk, bn, bv⟩] = [] := by simp only [Y2, bN, ha, hb, if_true, if_false]
     have e := Y3 hr
     rw [← e]
     refine Zf Tryd.func76 Tryd.ntmps76 ?_; simp only [dO, J8.av, List.map_cons, List.map_nil]
     repeat' (first | refine Za ?_ | (with_reducible first | refine Zz.mk fun N hN mk hmk => ?_ | refine Zb.mk fun N hN => ?_ | refine Zi.mk fun h => ?_ | refine ⟨fun h => ?_, fun h => ?_⟩ | exact True.intro) | (guard_target =~ AK Tryd.prog _ _ _ _; refine A4 [(), (), ()] ?_) | refine Zc a4k ?_ | refine Zc qT ?_ | (refine hN _ ?_; clear hN N) | (refine Zk hmk ?_; clear hmk mk) | refine oQ (Zq T2.d (Zq ha hb)) ?_ | fail)
     all_goals rfl
theorem a8f (a b c : J8) : e8 Tryd.prog 76 [.b7 false (dO [a, b, c])] (fun _ => .b7 false (e7 (s9 [a, b, c]))) (fun _ => []) := by
 obtain ⟨ak, an, av⟩ := a
 obtain ⟨bk, bn, bv⟩ := b
 obtain ⟨ck, cn, cv⟩ := c
 by_cases ha : ak = 2
 · by_cases hb : bk = 2
   · by_cases hc : ck = 2
     · have hr : gF [⟨ak, an, av⟩, ⟨bk, bn, bv⟩, ⟨ck, cn, cv⟩] = [an, bn, cn] := by simp only [Y2, bN, ha, hb, hc, if_true, if_false]
       have e := Y3 hr
       have C1 := dF [an, bn, cn] (by simp)
       have C2 := I4 [an, bn, cn] (by simp)
       rw [e] at C2
       generalize hC : J6 [an, bn, cn] = w at C1 C2
       clear hC e hr
       generalize s9 [⟨ak, an, av⟩, ⟨bk, bn, bv⟩, ⟨ck, cn, cv⟩] = q at *
       simp only [e7, List.map_cons, List.map_nil, List.length_cons, List.length_nil, Nat.reduceAdd] at C1
       simp only [List.length_cons, List.length_nil, Nat.reduceAdd] at C2
       rw [show (List.map (fun z => [AV.v (Value.int IntKind.i64 z)]) w) = e7 w from rfl] at C1
       refine Zf Tryd.func76 Tryd.ntmps76 ?_; simp only [dO, J8.av, List.map_cons, List.map_nil]
       repeat' (first | refine Za ?_ | (with_reducible first | refine Zz.mk fun N hN mk hmk => ?_ | refine Zb.mk fun N hN => ?_ | refine Zi.mk fun h => ?_ | refine ⟨fun h => ?_, fun h => ?_⟩ | exact True.intro) | (guard_target =~ AK Tryd.prog _ _ _ _; refine A4 [(), (), (), ()] ?_) | (refine Zp C1 [392] (Zq T2.d (Zq ha (Zq hb hc))) ?_; with_reducible intro _ _) | (refine Zp C2 [392] (Zq T2.d (Zq ha (Zq hb hc))) ?_; with_reducible intro _ _) | (refine hN _ ?_; clear hN N) | (refine Zk hmk ?_; clear hmk mk) | refine oQ (Zq T2.d (Zq ha (Zq hb hc))) ?_ | fail)
     · have hr : gF [⟨ak, an, av⟩, ⟨bk, bn, bv⟩, ⟨ck, cn, cv⟩] = [an, bn] := by simp only [Y2, bN, ha, hb, hc, if_true, if_false]
       have e := Y3 hr
       have C1 := dF [an, bn] (by simp)
       have C2 := I4 [an, bn] (by simp)
       rw [e] at C2
       generalize hC : J6 [an, bn] = w at C1 C2
       clear hC e hr
       generalize s9 [⟨ak, an, av⟩, ⟨bk, bn, bv⟩, ⟨ck, cn, cv⟩] = q at *
       simp only [e7, List.map_cons, List.map_nil, List.length_cons, List.length_nil, Nat.reduceAdd] at C1
       simp only [List.length_cons, List.length_nil, Nat.reduceAdd] at C2
       rw [show (List.map (fun z => [AV.v (Value.int IntKind.i64 z)]) w) = e7 w from rfl] at C1
       refine Zf Tryd.func76 Tryd.ntmps76 ?_; simp only [dO, J8.av, List.map_cons, List.map_nil]
       repeat' (first | refine Za ?_ | (with_reducible first | refine Zz.mk fun N hN mk hmk => ?_ | refine Zb.mk fun N hN => ?_ | refine Zi.mk fun h => ?_ | refine ⟨fun h => ?_, fun h => ?_⟩ | exact True.intro) | (guard_target =~ AK Tryd.prog _ _ _ _; refine A4 [(), (), (), ()] ?_) | (refine Zp C1 [264] (Zq T2.d (Zq ha (Zq hb hc))) ?_; with_reducible intro _ _) | (refine Zp C2 [264] (Zq T2.d (Zq ha (Zq hb hc))) ?_; with_reducible intro _ _) | (refine hN _ ?_; clear hN N) | (refine Zk hmk ?_; clear hmk mk) | refine oQ (Zq T2.d (Zq ha (Zq hb hc))) ?_ | fail)
   · by_cases hc : ck = 2
     · have hr : gF [⟨ak, an, av⟩, ⟨bk, bn, bv⟩, ⟨ck, cn, cv⟩] = [an, cn] := by simp only [Y2, bN, ha, hb, hc, if_true, if_false]
       have e := Y3 hr
       have C1 := dF [an, cn] (by simp)
       have C2 := I4 [an, cn] (by simp)
       rw [e] at C2
       generalize hC : J6 [an, cn] = w at C1 C2
       clear hC e hr
       generalize s9 [⟨ak, an, av⟩, ⟨bk, bn, bv⟩, ⟨ck, cn, cv⟩] = q at *
       simp only [e7, List.map_cons, List.map_nil, List.length_cons, List.length_nil, Nat.reduceAdd] at C1
       simp only [List.length_cons, List.length_nil, Nat.reduceAdd] at C2
       rw [show (List.map (fun z => [AV.v (Value.int IntKind.i64 z)]) w) = e7 w from rfl] at C1
       refine Zf Tryd.func76 Tryd.ntmps76 ?_; simp only [dO, J8.av, List.map_cons, List.map_nil]
       repeat' (first | refine Za ?_ | (with_reducible first | refine Zz.mk fun N hN mk hmk => ?_ | refine Zb.mk fun N hN => ?_ | refine Zi.mk fun h => ?_ | refine ⟨fun h => ?_, fun h => ?_⟩ | exact True.intro) | (guard_target =~ AK Tryd.prog _ _ _ _; refine A4 [(), (), (), ()] ?_) | (refine Zp C1 [344] (Zq T2.d (Zq ha (Zq hb hc))) ?_; with_reducible intro _ _) | (refine Zp C2 [344] (Zq T2.d (Zq ha (Zq hb hc))) ?_; with_reducible intro _ _) | (refine hN _ ?_; clear hN N) | (refine Zk hmk ?_; clear hmk mk) | refine oQ (Zq T2.d (Zq ha (Zq hb hc))) ?_ | fail)
     · have hr : gF [⟨ak, an, av⟩, ⟨bk, bn, bv⟩, ⟨ck, cn, cv⟩] = [an] := by simp only [Y2, bN, ha, hb, hc, if_true, if_false]
       have e := Y3 hr
       have C1 := dF [an] (by simp)
       have C2 := I4 [an] (by simp)
       rw [e] at C2
       generalize hC : J6 [an] = w at C1 C2
       clear hC e hr
       generalize s9 [⟨ak, an, av⟩, ⟨bk, bn, bv⟩, ⟨ck, cn, cv⟩] = q at *
       simp only [e7, List.map_cons, List.map_nil, List.length_cons, List.length_nil, Nat.reduceAdd] at C1
       simp only [List.length_cons, List.length_nil, Nat.reduceAdd] at C2
       rw [show (List.map (fun z => [AV.v (Value.int IntKind.i64 z)]) w) = e7 w from rfl] at C1
       refine Zf Tryd.func76 Tryd.ntmps76 ?_; simp only [dO, J8.av, List.map_cons, List.map_nil]
       repeat' (first | refine Za ?_ | (with_reducible first | refine Zz.mk fun N hN mk hmk => ?_ | refine Zb.mk fun N hN => ?_ | refine Zi.mk fun h => ?_ | refine ⟨fun h => ?_, fun h => ?_⟩ | exact True.intro) | (guard_target =~ AK Tryd.prog _ _ _ _; refine A4 [(), (), (), ()] ?_) | (refine Zp C1 [136] (Zq T2.d (Zq ha (Zq hb hc))) ?_; with_reducible intro _ _) | (refine Zp C2 [136] (Zq T2.d (Zq ha (Zq hb hc))) ?_; with_reducible intro _ _) | (refine hN _ ?_; clear hN N) | (refine Zk hmk ?_; clear hmk mk) | refine oQ (Zq T2.d (Zq ha (Zq hb hc))) ?_ | fail)
 · by_cases hb : bk = 2
   · by_cases hc : ck = 2
     · have hr : gF [⟨ak, an, av⟩, ⟨bk, bn, bv⟩, ⟨ck, cn, cv⟩] = [bn, cn] := by simp only [Y2, bN, ha, hb, hc, if_true, if_false]
       have e := Y3 hr
       have C1 := dF [bn, cn] (by simp)
       have C2 := I4 [bn, cn] (by simp)
       rw [e] at C2
       generalize hC : J6 [bn, cn] = w at C1 C2
       clear hC e hr
       generalize s9 [⟨ak, an, av⟩, ⟨bk, bn, bv⟩, ⟨ck, cn, cv⟩] = q at *
       simp only [e7, List.map_cons, List.map_nil, List.length_cons, List.length_nil, Nat.reduceAdd] at C1
       simp only [List.length_cons, List.length_nil, Nat.reduceAdd] at C2
       rw [show (List.map (fun z => [AV.v (Value.int IntKind.i64 z)]) w) = e7 w from rfl] at C1
       refine Zf Tryd.func76 Tryd.ntmps76 ?_; simp only [dO, J8.av, List.map_cons, List.map_nil]
       repeat' (first | refine Za ?_ | (with_reducible first | refine Zz.mk fun N hN mk hmk => ?_ | refine Zb.mk fun N hN => ?_ | refine Zi.mk fun h => ?_ | refine ⟨fun h => ?_, fun h => ?_⟩ | exact True.intro) | (guard_target =~ AK Tryd.prog _ _ _ _; refine A4 [(), (), (), ()] ?_) | (refine Zp C1 [344] (Zq T2.d (Zq ha (Zq hb hc))) ?_; with_reducible intro _ _) | (refine Zp C2 [344] (Zq T2.d (Zq ha (Zq hb hc))) ?_; with_reducible intro _ _) | (refine hN _ ?_; clear hN N) | (refine Zk hmk ?_; clear hmk mk) | refine oQ (Zq T2.d (Zq ha (Zq hb hc))) ?_ | fail)
     · have hr : gF [⟨ak, an, av⟩, ⟨bk, bn, bv⟩, ⟨ck, cn, cv⟩] = [bn] := by simp only [Y2, bN, ha, hb, hc, if_true, if_false]
       have e := Y3 hr
       have C1 := dF [bn] (by simp)
       have C2 := I4 [bn] (by simp)
       rw [e] at C2
       generalize hC : J6 [bn] = w at C1 C2
       clear hC e hr
       generalize s9 [⟨ak, an, av⟩, ⟨bk, bn, bv⟩, ⟨ck, cn, cv⟩] = q at *
       simp only [e7, List.map_cons, List.map_nil, List.length_cons, List.length_nil, Nat.reduceAdd] at C1
       simp only [List.length_cons, List.length_nil, Nat.reduceAdd] at C2
       rw [show (List.map (fun z => [AV.v (Value.int IntKind.i64 z)]) w) = e7 w from rfl] at C1
       refine Zf Tryd.func76 Tryd.ntmps76 ?_; simp only [dO, J8.av, List.map_cons, List.map_nil]
       repeat' (first | refine Za ?_ | (with_reducible first | refine Zz.mk fun N hN mk hmk => ?_ | refine Zb.mk fun N hN => ?_ | refine Zi.mk fun h => ?_ | refine ⟨fun h => ?_, fun h => ?_⟩ | exact True.intro) | (guard_target =~ AK Tryd.prog _ _ _ _; refine A4 [(), (), (), ()] ?_) | (refine Zp C1 [216] (Zq T2.d (Zq ha (Zq hb hc))) ?_; with_reducible intro _ _) | (refine Zp C2 [216] (Zq T2.d (Zq ha (Zq hb hc))) ?_; with_reducible intro _ _) | (refine hN _ ?_; clear hN N) | (refine Zk hmk ?_; clear hmk mk) | refine oQ (Zq T2.d (Zq ha (Zq hb hc))) ?_ | fail)
   · by_cases hc : ck = 2
     · have hr : gF [⟨ak, an, av⟩, ⟨bk, bn, bv⟩, ⟨ck, cn, cv⟩] = [cn] := by simp only [Y2, bN, ha, hb, hc, if_true, if_false]
       have e := Y3 hr
       have C1 := dF [cn] (by simp)
       have C2 := I4 [cn] (by simp)
       rw [e] at C2
       generalize hC : J6 [cn] = w at C1 C2
       clear hC e hr
       generalize s9 [⟨ak, an, av⟩, ⟨bk, bn, bv⟩, ⟨ck, cn, cv⟩] = q at *
       simp only [e7, List.map_cons, List.map_nil, List.length_cons, List.length_nil, Nat.reduceAdd] at C1
       simp only [List.length_cons, List.length_nil, Nat.reduceAdd] at C2
       rw [show (List.map (fun z => [AV.v (Value.int IntKind.i64 z)]) w) = e7 w from rfl] at C1
       refine Zf Tryd.func76 Tryd.ntmps76 ?_; simp only [dO, J8.av, List.map_cons, List.map_nil]
       repeat' (first | refine Za ?_ | (with_reducible first | refine Zz.mk fun N hN mk hmk => ?_ | refine Zb.mk fun N hN => ?_ | refine Zi.mk fun h => ?_ | refine ⟨fun h => ?_, fun h => ?_⟩ | exact True.intro) | (guard_target =~ AK Tryd.prog _ _ _ _; refine A4 [(), (), (), ()] ?_) | (refine Zp C1 [296] (Zq T2.d (Zq ha (Zq hb hc))) ?_; with_reducible intro _ _) | (refine Zp C2 [296] (Zq T2.d (Zq ha (Zq hb hc))) ?_; with_reducible intro _ _) | (refine hN _ ?_; clear hN N) | (refine Zk hmk ?_; clear hmk mk) | refine oQ (Zq T2.d (Zq ha (Zq hb hc))) ?_ | fail)
     · have hr : gF [⟨ak, an, av⟩, ⟨bk, bn, bv⟩, ⟨ck, cn, cv⟩] = [] := by simp only [Y2, bN, ha, hb, hc, if_true, if_false]
       have e := Y3 hr
       rw [← e]
       refine Zf Tryd.func76 Tryd.ntmps76 ?_; simp only [dO, J8.av, List.map_cons, List.map_nil]
       repeat' (first | refine Za ?_ | (with_reducible first | refine Zz.mk fun N hN mk hmk => ?_ | refine Zb.mk fun N hN => ?_ | refine Zi.mk fun h => ?_ | refine ⟨fun h => ?_, fun h => ?_⟩ | exact True.intro) | (guard_target =~ AK Tryd.prog _ _ _ _; refine A4 [(), (), (), ()] ?_) | refine Zc a4k ?_ | refine Zc qT ?_ | (refine hN _ ?_; clear hN N) | (refine Zk hmk ?_; clear hmk mk) | refine oQ (Zq T2.d (Zq ha (Zq hb hc))) ?_ | fail)
       all_goals rfl
def H0 (l : List Bool) : List (List AV) := l.map fun z => [.v (.bool z)]
theorem L4 (l : List Bool) : (H0 l).length = l.length := by simp [H0]
theorem M6 (l : List Bool) (z : Nat) (h : z < l.length) : (H0 l)[z]? = some [.v (.bool (l.getD z false))] := by simp [H0, h, List.getD_eq_getElem?_getD]
theorem aM (l : List Bool) : (∀ e ∈ H0 l, e.length = 1) = True := by
 simp only [eq_iff_iff, iff_true, H0, List.mem_map]
 rintro e ⟨_, _, rfl⟩
 rfl
theorem E6 (l : List Bool) : ((H0 l).all fun e => e.all AV.plain) = true := by simp [H0, AV.plain]
theorem F8 (l : List Bool) : w8 (H0 l) = true := E6 l
theorem oW (l : List Bool) (k : Nat) (v : Bool) : (H0 l).modify k (fun e => u0 e 0 [.v (.bool v)]) = H0 (l.set k v) := by
 apply List.ext_getElem?
 intro j
 rw [List.getElem?_modify]
 simp only [H0, List.getElem?_map, List.getElem?_set]
 by_cases h : k = j
 · subst h
   by_cases h2 : k < l.length
   · simp [h2, u0]
   · simp [h2]
 · simp [h]
theorem fE (l : List Bool) : (H0 l).take l.length = H0 l := by rw [← L4, List.take_length]
theorem oX (n : Nat) : List.replicate n [AV.v (.bool false)] = H0 (List.replicate n false) := by simp [H0]
theorem a8L (out : List Bool) (l : List Int) (i : Nat) (h : i < l.length) : iB out (l.take (i + 1)) = (iB out (l.take i)).set (l.getD i 0).toNat true := by
 rw [N0 l i 0 h]; unfold iB; rw [List.foldl_append]; rfl
theorem a8K (l : List Int) (out : List Bool) (b : Nat) (h : out.getD b false = true) : (iB out l).getD b false = true := by
 induction l generalizing out with
 | nil => exact h
 | cons a l ih =>
   refine ih (out.set a.toNat true) ?_
   rw [cF]; split
   · rfl
   · exact h
theorem a8H (bs : List c5) (out : List Bool) (b : Nat) : (dP bs out b).length = out.length := by
 unfold dP
 split
 · exact kU _ _
 · rfl
theorem uJ (bs : List c5) (out : List Bool) : ∀ n, (Z5 bs out n).length = out.length
 | 0 => rfl
 | n + 1 => by show (dP bs (Z5 bs out n) n).length = _; rw [a8H, uJ bs out n]
theorem uL (bs : List c5) (out : List Bool) : ∀ n, (I8 bs out n).length = out.length
 | 0 => rfl
 | n + 1 => by show (Z5 bs (I8 bs out n) _).length = _; rw [uJ, uL bs out n]
def eP := ZZ.mk (Zq @List.length_replicate.{0} (Zq @List.length_set.{0} (Zq @L4 (Zq @M6 (Zq @aM (Zq @E6 (Zq @F8 (Zq @oW (Zq @fE (Zq @oX (Zq @u2.av.eq_1 (Zq @b8 (Zq @F7 (Zq @L9 (Zq @c9 (Zq @c5.av.eq_1 (Zq @u7 (Zq @K0 (Zq @B4 (Zq @N9 (Zq @c6 (Zq @r6 (Zq @N7 (Zq @G7 (Zq @B1 (Zq @b5 @b6))))))))))))))))))))))))))
def b6f := ZZ.mk (Zq @b5 (Zq @b6 (Zq @E6 (Zq @F8 @c9))))
theorem iG (c : Code) (hc : aV c.b) (hn : c.b.length ≤ 1000) : e8 Tryd.prog 24 [.agg c.av] (fun _ => .b7 false (H0 (reachF c.b))) (fun _ => []) := by
 have h1 := hc.1
 rw [← a5U hc]
 generalize hbs' : c.b = bs at *
 have hl0 : (aG bs.length).length = bs.length := by simp [aG]
 refine Zf Tryd.func24 Tryd.ntmps24 ?_; simp only [Code.av, hbs']
 repeat' (first | refine Za ?_ | (with_reducible first | refine Zz.mk fun N hN mk hmk => ?_ | refine Zb.mk fun N hN => ?_ | refine Zi.mk fun h => ?_ | refine ⟨fun h => ?_, fun h => ?_⟩ | exact True.intro) | (refine hN _ ?_; clear hN N) | (refine Zk hmk ?_; clear hmk mk) | refine Zt eP.d ?_ | fail)
 refine l9 (fun k => ⟨[.dead, .ptr 0 0 0, .dead, .own 1 0 bs.length, .v (.int .i64 k), .dead, .dead, .dead, .dead, .dead, .dead, .dead, .dead, .dead, .dead, .dead, .dead, .dead, .dead, .dead, .dead, .dead, .dead, .dead, .dead, .dead, .dead, .dead, .dead, .dead, .dead, .dead, .dead, .dead, .dead, .dead, .dead, .dead, .dead, .dead, .dead, .dead, .dead, .dead, .dead, .dead, .dead, .dead, .dead, .dead, .dead, .dead, .dead, .dead], [(0, .live ⟨8, [[.v (.int .i64 c.group), .v (.int .i64 c.sub), .v (.int .i64 c.r9), .v (.int .i64 c.L3), .v (.int .i64 c.params), .b7 false (Q5 c.D7), .b7 false (loops c.loops), .b7 false (E0 bs)]], 0⟩), (1, .live ⟨1, H0 (I8 bs (aG bs.length) k), 0⟩)], 2⟩) bs.length (Zw [1,3,4] [0, 40] eP.d ?_) ?_
 · rfl
 · intro k hk
   have hlk : (I8 bs (aG bs.length) k).length = bs.length := by rw [uL, hl0]
   obtain ⟨O, hO⟩ : ∃ O, O = I8 bs (aG bs.length) k := ⟨_, rfl⟩
   rw [← hO] at hlk ⊢
   repeat' (first | refine Za ?_ | (with_reducible first | refine Zz.mk fun N hN mk hmk => ?_ | refine Zb.mk fun N hN => ?_ | refine Zi.mk fun h => ?_ | refine ⟨fun h => ?_, fun h => ?_⟩ | exact True.intro) | (refine hN _ ?_; clear hN N) | (refine Zk hmk ?_; clear hmk mk) | refine Zt eP.d ?_ | fail)
   · refine l9 (fun b => ⟨[.dead, .ptr 0 0 0, .dead, .own 1 0 bs.length, .v (.int .i64 k), .v (.int .i64 b), .dead, .dead, .dead, .dead, .dead, .dead, .dead, .dead, .dead, .dead, .dead, .dead, .dead, .dead, .dead, .dead, .dead, .dead, .dead, .dead, .dead, .dead, .dead, .dead, .dead, .dead, .dead, .dead, .dead, .dead, .dead, .dead, .dead, .dead, .dead, .dead, .dead, .dead, .dead, .dead, .dead, .dead, .dead, .dead, .dead, .dead, .dead, .dead], [(0, .live ⟨8, [[.v (.int .i64 c.group), .v (.int .i64 c.sub), .v (.int .i64 c.r9), .v (.int .i64 c.L3), .v (.int .i64 c.params), .b7 false (Q5 c.D7), .b7 false (loops c.loops), .b7 false (E0 bs)]], 0⟩), (1, .live ⟨1, H0 (Z5 bs O b), 0⟩)], 2⟩) bs.length (Zw [1,3,4,5] [0, 1] eP.d ?_) ?_
     · rfl
     · intro b hb
       have hlb : (Z5 bs O b).length = bs.length := by rw [uJ, hlk]
       obtain ⟨U, hU⟩ : ∃ U, U = Z5 bs O b := ⟨_, rfl⟩
       rw [← hU] at hlb ⊢
       have C := vW (bs.getD b B0).t
       simp only [u2.av] at C
       repeat' (first | refine Za ?_ | (with_reducible first | refine Zz.mk fun N hN mk hmk => ?_ | refine Zb.mk fun N hN => ?_ | refine Zi.mk fun h => ?_ | refine ⟨fun h => ?_, fun h => ?_⟩ | exact True.intro) | refine Zc C ?_ | (refine hN _ ?_; clear hN N) | (refine Zk hmk ?_; clear hmk mk) | refine Zt eP.d ?_ | fail)
       · obtain ⟨t, ht⟩ : ∃ t, t = (bs.getD b B0).t := ⟨_, rfl⟩
         rw [← ht]
         have hs : ∀ to ∈ c8 t, 0 ≤ to ∧ to < bs.length := by rw [ht]; exact hc.2 _ (W0 (show b < bs.length by omega))
         have hl2 := eU t
         by_cases hu : U.getD b false = true
         · have e1 : Z5 bs O (b + 1) = iB U (c8 t) := by
             show dP bs (Z5 bs O b) b = _
             rw [← hU, ht]; unfold dP; rw [if_pos hu]; rfl
           rw [e1]
           refine l9 (fun i => ⟨[.dead, .ptr 0 0 0, .dead, .own 1 0 bs.length, .v (.int .i64 k), .v (.int .i64 b), .b7 false (e7 (c8 t)), .v (.int .i64 i), .dead, .dead, .dead, .dead, .dead, .dead, .dead, .dead, .dead, .dead, .dead, .dead, .dead, .dead, .dead, .dead, .dead, .dead, .dead, .dead, .dead, .dead, .dead, .dead, .dead, .dead, .dead, .dead, .dead, .dead, .dead, .dead, .dead, .dead, .dead, .dead, .dead, .dead, .dead, .dead, .dead, .dead, .dead, .dead, .dead, .dead], [(0, .live ⟨8, [[.v (.int .i64 c.group), .v (.int .i64 c.sub), .v (.int .i64 c.r9), .v (.int .i64 c.L3), .v (.int .i64 c.params), .b7 false (Q5 c.D7), .b7 false (loops c.loops), .b7 false (E0 bs)]], 0⟩), (1, .live ⟨1, H0 (iB U ((c8 t).take i)), 0⟩)], 2⟩) (c8 t).length (Zw [1,3,4,5,6,7] [0, 1] eP.d ?_) ?_
           · rfl
           · intro i hi
             have hm := a8K ((c8 t).take i) U b hu
             have hml : (iB U ((c8 t).take i)).length = bs.length := by rw [kU]; exact hlb
             by_cases hin : i < (c8 t).length
             · have hto := hs _ (aE hin)
               repeat' (first | refine Za ?_ | (with_reducible first | refine Zz.mk fun N hN mk hmk => ?_ | refine Zb.mk fun N hN => ?_ | refine Zi.mk fun h => ?_ | refine ⟨fun h => ?_, fun h => ?_⟩ | exact True.intro) | (refine hN _ ?_; clear hN N) | (refine Zk hmk ?_; clear hmk mk) | refine Zt (Zq eP.d hm) ?_ | fail)
               all_goals first | (exfalso; omega) | (refine Zw [1,3,4,5,6,7] [0, 1] (Zq eP.d hm) ?_; rw [a8L U (c8 t) i hin]; rfl)
             · have e : (c8 t).take i = c8 t := List.take_of_length_le (by omega)
               rw [e] at hml hm ⊢
               repeat' (first | refine Za ?_ | (with_reducible first | refine Zz.mk fun N hN mk hmk => ?_ | refine Zb.mk fun N hN => ?_ | refine Zi.mk fun h => ?_ | refine ⟨fun h => ?_, fun h => ?_⟩ | exact True.intro) | (refine hN _ ?_; clear hN N) | (refine Zk hmk ?_; clear hmk mk) | refine Zt (Zq eP.d hm) ?_ | fail)
               all_goals first | (exfalso; omega) | (refine Zw [1, 3, 4, 5] [0, 1] (Zq eP.d hm) ?_; rfl)
         · have e1 : Z5 bs O (b + 1) = U := by
             show dP bs (Z5 bs O b) b = _
             rw [← hU]; unfold dP; rw [if_neg hu]
           rw [e1]
           have hm : U.getD b false = false := by simpa using hu
           refine l9 (fun i => ⟨[.dead, .ptr 0 0 0, .dead, .own 1 0 bs.length, .v (.int .i64 k), .v (.int .i64 b), .b7 false (e7 (c8 t)), .v (.int .i64 i), .dead, .dead, .dead, .dead, .dead, .dead, .dead, .dead, .dead, .dead, .dead, .dead, .dead, .dead, .dead, .dead, .dead, .dead, .dead, .dead, .dead, .dead, .dead, .dead, .dead, .dead, .dead, .dead, .dead, .dead, .dead, .dead, .dead, .dead, .dead, .dead, .dead, .dead, .dead, .dead, .dead, .dead, .dead, .dead, .dead, .dead], [(0, .live ⟨8, [[.v (.int .i64 c.group), .v (.int .i64 c.sub), .v (.int .i64 c.r9), .v (.int .i64 c.L3), .v (.int .i64 c.params), .b7 false (Q5 c.D7), .b7 false (loops c.loops), .b7 false (E0 bs)]], 0⟩), (1, .live ⟨1, H0 U, 0⟩)], 2⟩) 0 (Zw [1,3,4,5,6,7] [0, 1] (Zq eP.d hm) ?_) ?_
           · rfl
           · intro i hi
             obtain rfl : i = 0 := by omega
             repeat' (first | refine Za ?_ | (with_reducible first | refine Zz.mk fun N hN mk hmk => ?_ | refine Zb.mk fun N hN => ?_ | refine Zi.mk fun h => ?_ | refine ⟨fun h => ?_, fun h => ?_⟩ | exact True.intro) | (refine hN _ ?_; clear hN N) | (refine Zk hmk ?_; clear hmk mk) | refine Zt (Zq eP.d hm) ?_ | fail)
             all_goals first | (exfalso; omega) | (refine Zw [1, 3, 4, 5] [0, 1] (Zq eP.d hm) ?_; rfl)
       · obtain rfl : b = bs.length := by omega
         refine Zw [1, 3, 4] [0, 1] b6f.d ?_
         rw [hU, hO]; rfl
   · obtain rfl : k = bs.length := by omega
     have ht : (H0 O).take bs.length = H0 O := by rw [← hlk]; exact fE O
     rw [ht, if_pos (by omega), if_pos (E6 O), hO]
def a7V := ZZ.mk (Zq @J8.av.eq_1 (Zq @b5 @b6))
theorem b0b (i : j9) : e8 Tryd.prog 74 [.agg i.av] (fun _ => .b7 false (e7 (M4 i))) (fun _ => []) := by
 have C := a8f i.a i.b i.c
 simp only [dO, List.map_cons, List.map_nil, J8.av] at C
 refine Zf Tryd.func74 Tryd.ntmps74 ?_; simp only [j9.av]
 repeat' (first | refine Za ?_ | (with_reducible first | refine Zz.mk fun N hN mk hmk => ?_ | refine Zb.mk fun N hN => ?_ | refine Zi.mk fun h => ?_ | refine ⟨fun h => ?_, fun h => ?_⟩ | exact True.intro) | (refine Y5 C ?_ rfl ?_ ?_; (next => (simp (disch := omega) only [a7V.d, D8, Nat.reduceBEq, AV.plain, Nat.reduceAdd, Nat.reduceLeDiff, Nat.reduceLT, ↓reduceIte, sF] <;> first | done | rfl)); (next => (simp only [apply_ite List.length, List.length_cons, List.length_nil] <;> (try split) <;> omega))) | (refine V5 C ?_ rfl ?_ ?_; (next => (simp (disch := omega) only [a7V.d, D8, Nat.reduceBEq, AV.plain, Nat.reduceAdd, Nat.reduceLeDiff, Nat.reduceLT, ↓reduceIte, sF] <;> first | done | rfl)); (next => (simp only [apply_ite List.length, List.length_cons, List.length_nil] <;> (try split) <;> omega))) | (refine hN _ ?_; clear hN N) | (refine Zk hmk ?_; clear hmk mk) | refine Zt a7V.d ?_ | fail)
 all_goals rfl
theorem a8g (t : u2) : e8 Tryd.prog 66 [.agg t.av] (fun _ => .b7 false (e7 (bA t))) (fun _ => []) := by
 have C := a8e t.a t.b
 simp only [dO, List.map_cons, List.map_nil, J8.av] at C
 refine Zf Tryd.func66 Tryd.ntmps66 ?_; simp only [u2.av]
 repeat' (first | refine Za ?_ | (with_reducible first | refine Zz.mk fun N hN mk hmk => ?_ | refine Zb.mk fun N hN => ?_ | refine Zi.mk fun h => ?_ | refine ⟨fun h => ?_, fun h => ?_⟩ | exact True.intro) | (refine Y5 C ?_ rfl ?_ ?_; (next => (simp (disch := omega) only [a7V.d, D8, Nat.reduceBEq, AV.plain, Nat.reduceAdd, Nat.reduceLeDiff, Nat.reduceLT, ↓reduceIte, sF] <;> first | done | rfl)); (next => (simp only [apply_ite List.length, List.length_cons, List.length_nil] <;> (try split) <;> omega))) | (refine V5 C ?_ rfl ?_ ?_; (next => (simp (disch := omega) only [a7V.d, D8, Nat.reduceBEq, AV.plain, Nat.reduceAdd, Nat.reduceLeDiff, Nat.reduceLT, ↓reduceIte, sF] <;> first | done | rfl)); (next => (simp only [apply_ite List.length, List.length_cons, List.length_nil] <;> (try split) <;> omega))) | (refine hN _ ?_; clear hN N) | (refine Zk hmk ?_; clear hmk mk) | refine Zt a7V.d ?_ | fail)
 all_goals rfl
def a9K := ZZ.mk (Zq @F5.eq_1 (Zq @b5 @b6))
theorem tR (l : List Int) (n : Int) (hl : Y9 l) (hn : n < 64) : e8 Tryd.prog 53 [F5 l, .v (.int .i64 n)] (fun _ => F5 (U2 l n)) (fun _ => []) := by
 by_cases h : 0 ≤ n
 · have e1 : Int.tdiv n 64 = 0 := Int.tdiv_eq_zero_of_lt h hn
   have e2 : Int.tmod n 64 = n := Int.tmod_eq_of_lt h hn
   have e3 := b28 hl ⟨h, hn⟩
   have e4 : U2 l n = K9 l n := by unfold U2; rw [if_neg (by omega)]
   refine Zf Tryd.func53 Tryd.ntmps53 ?_; simp only [F5]
   repeat' (first | refine Za ?_ | (with_reducible first | refine Zz.mk fun N hN mk hmk => ?_ | refine Zb.mk fun N hN => ?_ | refine Zi.mk fun h => ?_ | refine ⟨fun h => ?_, fun h => ?_⟩ | exact True.intro) | (refine hN _ ?_; clear hN N) | (refine Zk hmk ?_; clear hmk mk) | refine Zt (Zq a9K.d (Zq e1 (Zq e2 (Zq e3 e4)))) ?_ | fail)
   all_goals rfl
 · have e4 : U2 l n = l := by unfold U2; rw [if_pos (by omega)]
   refine Zf Tryd.func53 Tryd.ntmps53 ?_; simp only [F5]
   repeat' (first | refine Za ?_ | (with_reducible first | refine Zz.mk fun N hN mk hmk => ?_ | refine Zb.mk fun N hN => ?_ | refine Zi.mk fun h => ?_ | refine ⟨fun h => ?_, fun h => ?_⟩ | exact True.intro) | (refine hN _ ?_; clear hN N) | (refine Zk hmk ?_; clear hmk mk) | refine Zt (Zq a9K.d e4) ?_ | fail)
   all_goals rfl
theorem qP (l : List Int) (n : Int) (hl : Y9 l) (hn : n < 64) : e8 Tryd.prog 65 [F5 l, .v (.int .i64 n)] (fun _ => F5 (l8 l n)) (fun _ => []) := by
 by_cases h : 0 ≤ n
 · have e1 : Int.tdiv n 64 = 0 := Int.tdiv_eq_zero_of_lt h hn
   have e2 : Int.tmod n 64 = n := Int.tmod_eq_of_lt h hn
   have e3 := tD hl ⟨h, hn⟩
   refine Zf Tryd.func65 Tryd.ntmps65 ?_; simp only [F5]
   repeat' (first | refine Za ?_ | (with_reducible first | refine Zz.mk fun N hN mk hmk => ?_ | refine Zb.mk fun N hN => ?_ | refine Zi.mk fun h => ?_ | refine ⟨fun h => ?_, fun h => ?_⟩ | exact True.intro) | (refine hN _ ?_; clear hN N) | (refine Zk hmk ?_; clear hmk mk) | refine Zt (Zq a9K.d (Zq e1 (Zq e2 e3))) ?_ | fail)
   all_goals rfl
 · have e4 : l8 l n = l := by
     unfold l8
     refine List.filter_eq_self.2 fun x hx => ?_
     have := (hl x hx).1
     simp; omega
   refine Zf Tryd.func65 Tryd.ntmps65 ?_; simp only [F5]
   repeat' (first | refine Za ?_ | (with_reducible first | refine Zz.mk fun N hN mk hmk => ?_ | refine Zb.mk fun N hN => ?_ | refine Zi.mk fun h => ?_ | refine ⟨fun h => ?_, fun h => ?_⟩ | exact True.intro) | (refine hN _ ?_; clear hN N) | (refine Zk hmk ?_; clear hmk mk) | refine Zt (Zq a9K.d e4) ?_ | fail)
   all_goals rfl
def b68 := ZZ.mk (Zq @F5.eq_1 (Zq @b5 (Zq @b6 @E9)))
theorem gP (a b : List Int) (ha : Y9 a) (hb : Y9 b) : e8 Tryd.prog 48 [F5 a, F5 b] (fun _ => F5 (q9 a b)) (fun _ => []) := by
 have e3 := b1w ha hb
 have e4 := b6K
 refine Zf Tryd.func48 Tryd.ntmps48 ?_; simp only [F5]
 repeat' (first | refine Za ?_ | (with_reducible first | refine Zz.mk fun N hN mk hmk => ?_ | refine Zb.mk fun N hN => ?_ | refine Zi.mk fun h => ?_ | refine ⟨fun h => ?_, fun h => ?_⟩ | exact True.intro) | (guard_target =~ AK Tryd.prog _ _ _ _; refine A4 [(), (), (), (), ()] ?_) | (refine hN _ ?_; clear hN N) | (refine Zk hmk ?_; clear hmk mk) | refine oQ (Zq b68.d (Zq e3 e4)) ?_ | fail)
 all_goals rfl
theorem b25 (l : List Int) (i : Nat) (h : i < l.length) : q9 [] (l.take (i + 1)) = K9 (q9 [] (l.take i)) (l.getD i 0) := mP [] l i h
def a9L := ZZ.mk (Zq @F5.eq_1 (Zq @u7 (Zq @K0 (Zq @B4 (Zq @N9 (Zq @c6 (Zq @b5 @b6)))))))
theorem lV (l : List Int) (hl : Y9 l) (hn : l.length ≤ 100000) : e8 Tryd.prog 50 [.b7 false (e7 l)] (fun _ => F5 (q9 [] l)) (fun _ => []) := by
 refine Zf Tryd.func50 Tryd.ntmps50 ?_
 repeat' (first | refine Za ?_ | (with_reducible first | refine Zz.mk fun N hN mk hmk => ?_ | refine Zb.mk fun N hN => ?_ | refine Zi.mk fun h => ?_ | refine ⟨fun h => ?_, fun h => ?_⟩ | exact True.intro) | (refine hN _ ?_; clear hN N) | (refine Zk hmk ?_; clear hmk mk) | refine Zt a9L.d ?_ | fail)
 refine l9 (fun i => ⟨[.b7 false (e7 l), .dead, .ptr 0 0 0, .ptr 1 0 0, .dead, .dead, .b7 false (e7 l), .v (.int .i64 l.length), .v (.int .i64 i), .dead, .dead, .dead, .dead, .dead, .dead, .dead, .dead], [(0, .live ⟨4, [[.v (.int .u64 0), .v (.int .u64 0), .v (.int .u64 0), .v (.int .u64 0)]], 0⟩), (1, .live ⟨4, [[.v (.int .u64 (D0 (q9 [] (l.take i)))), .v (.int .u64 0), .v (.int .u64 0), .v (.int .u64 0)]], 0⟩)], 2⟩) l.length (Zw [0,2,3,6,7,8] [0, 8] a9L.d ?_) ?_
 · simp [q9, D0]
 · intro i hi
   by_cases hlt : i < l.length
   · have hm : l.getD i 0 ∈ l := by rw [List.getD_eq_getElem?_getD, List.getElem?_eq_getElem hlt]; exact List.getElem_mem hlt
     have hr := hl _ hm
     have hu : Y9 (q9 [] (l.take i)) := Y9.nil.union fun x hx => hl x (List.mem_of_mem_take hx)
     have C := tR (q9 [] (l.take i)) (l.getD i 0) hu hr.2
     rw [show U2 (q9 [] (l.take i)) (l.getD i 0) = q9 [] (l.take (i + 1)) from by rw [b25 l i hlt, U2, if_neg (by omega)]] at C
     repeat' (first | refine Za ?_ | (with_reducible first | refine Zz.mk fun N hN mk hmk => ?_ | refine Zb.mk fun N hN => ?_ | refine Zi.mk fun h => ?_ | refine ⟨fun h => ?_, fun h => ?_⟩ | exact True.intro) | refine Zc C ?_ | (refine hN _ ?_; clear hN N) | (refine Zk hmk ?_; clear hmk mk) | refine Zt a9L.d ?_ | fail)
     refine Zw [0,2,3,6,7,8] [0, 1] a9L.d ?_
     rfl
   · obtain rfl : i = l.length := by omega
     repeat' (first | refine Za ?_ | (with_reducible first | refine Zz.mk fun N hN mk hmk => ?_ | refine Zb.mk fun N hN => ?_ | refine Zi.mk fun h => ?_ | refine ⟨fun h => ?_, fun h => ?_⟩ | exact True.intro) | (refine hN _ ?_; clear hN N) | (refine Zk hmk ?_; clear hmk mk) | refine Zt a9L.d ?_ | fail)
     rw [List.take_length]
theorem a4s {a l : List Int} (ha : K8 a) : q9 a (q9 [] l) = q9 a l := by
 refine K8.ext (U7 ha) (U7 ha) fun x => ?_
 rw [K5, K5, K5]; simp
theorem tL (x : j9) (l : List Int) (hl : Y9 l) (sl : K8 l) (hd : O8 x < 64) (hu : Y9 (M4 x)) : e8 Tryd.prog 55 [.agg x.av, F5 l] (fun _ => F5 (D4 x l)) (fun _ => []) := by
 have C1 := a6X x
 have C2 := b0b x
 have h1 := jQ x
 have C3 := qP l (O8 x) hl hd
 have C5 := lV (M4 x) hu (by omega)
 have C4 := gP (l8 l (O8 x)) (q9 [] (M4 x)) hl.dG (Y9.nil.union hu)
 rw [a4s (fV sl _)] at C4
 simp only [j9.av] at C1 C2
 refine Zf Tryd.func55 Tryd.ntmps55 ?_; simp only [j9.av, F5]
 repeat' (first | refine Za ?_ | (with_reducible first | refine Zz.mk fun N hN mk hmk => ?_ | refine Zb.mk fun N hN => ?_ | refine Zi.mk fun h => ?_ | refine ⟨fun h => ?_, fun h => ?_⟩ | exact True.intro) | refine Zc C1 ?_ | refine Zc C2 ?_ | refine Zc C3 ?_ | refine Zc C5 ?_ | refine Zc C4 ?_ | (refine hN _ ?_; clear hN N) | (refine Zk hmk ?_; clear hmk mk) | refine Zt a9K.d ?_ | fail)
 all_goals rfl
theorem b3H (L : List j9) : e8 Tryd.prog 52 [.b7 false (p8 L)] (fun n => .fn 72 [.ptr n 0 0]) (fun n => [⟨1, [[.b7 false (p8 L)]], 0⟩]) := by
 (refine qR Tryd.func52 rfl (by kernel_rfl) ?_; rw [uC Tryd.ntmps52]; simp only [List.replicate_succ, List.replicate_zero, List.cons_append, List.nil_append, List.length_cons, List.length_nil, Nat.reduceAdd, Nat.reduceSub]; refine tC ?_)
 repeat' (first | refine Za ?_ | (with_reducible first | refine Zz.mk fun N hN mk hmk => ?_ | refine Zb.mk fun N hN => ?_ | refine Zi.mk fun h => ?_ | refine ⟨fun h => ?_, fun h => ?_⟩ | exact True.intro) | (refine hN _ ?_; clear hN N) | (refine Zk hmk ?_; clear hmk mk) | refine Zt aY.d ?_ | fail)
 exact ⟨[0], by decide, fun nid => ⟨by simp only [c7, n3, a7, e6, m8, A6, AV.plain, Nat.reduceBEq, ↓reduceIte, Nat.reduceEqDiff, Nat.reduceAdd, sC], by simp only [c7, n3, a7, e6, m8, A6, AV.plain, Nat.reduceBEq, ↓reduceIte, Nat.reduceEqDiff, Nat.reduceAdd, sC]⟩⟩
theorem a0U (L : List j9) (out : List Int) : (L7 L.length L.length).foldl (fun s i => D4 (L.getD i I0) s) out = L.foldr D4 out := by
 have : ∀ k, k ≤ L.length → (L7 L.length k).foldl (fun s i => D4 (L.getD i I0) s) out = (L.drop (L.length - k)).foldr D4 out := by
   intro k
   induction k with
   | zero => intro _; simp [L7]
   | succ k ih =>
     intro hk
     rw [fR, List.foldl_append, ih (by omega), show L.length - k = (L.length - (k + 1)) + 1 from by omega, List.drop_eq_getElem_cons (i := L.length - (k + 1)) (by omega), List.foldr_cons]
     simp only [List.foldl_cons, List.foldl_nil]
     rw [show L.length - 1 - k = L.length - (k + 1) from by omega, List.getD_eq_getElem?_getD, List.getElem?_eq_getElem (by omega)]
     rfl
 rw [this _ (Nat.le_refl _), Nat.sub_self, List.drop_zero]
theorem a5p (l : List j9) (i : Nat) : List.take ((l.length : Int) - i).toNat (List.drop i (p8 l)) = p8 (l.drop i) := by
 unfold p8
 rw [← List.map_drop, ← List.map_take]
 rw [List.take_of_length_le (by simp)]
def cM (L : List j9) (out : List Int) (pre : List Nat) : List Int := pre.foldl (fun s i => D4 (L.getD i I0) s) out
theorem tG (L : List j9) (out : List Int) (pre : List Nat) (x : Nat) : cM L out (pre ++ [x]) = D4 (L.getD x I0) (cM L out pre) := by
 unfold cM; rw [List.foldl_append]; rfl
theorem a92 {L : List j9} (hg : ∀ x, O8 (L.getD x I0) < 64 ∧ Y9 (M4 (L.getD x I0))) : ∀ {out : List Int}, Y9 out → K8 out → ∀ pre : List Nat, Y9 (cM L out pre) ∧ K8 (cM L out pre) := by
 intro out ho so pre
 induction pre generalizing out with
 | nil => exact ⟨ho, so⟩
 | cons x pre ih => exact ih (Y9.union ho.dG (hg x).2) (dA so)
theorem a8v {L : List j9} (h : ∀ x ∈ L, O8 x < 64 ∧ Y9 (M4 x)) (x : Nat) : O8 (L.getD x I0) < 64 ∧ Y9 (M4 (L.getD x I0)) := by
 by_cases hx : x < L.length
 · rw [List.getD_eq_getElem?_getD, List.getElem?_eq_getElem hx]; exact h _ (List.getElem_mem hx)
 · rw [List.getD_eq_getElem?_getD, List.getElem?_eq_none (by omega)]
   exact ⟨by decide, Y9.nil⟩
def wX := ZZ.mk (Zq @u4 (Zq @a5p (Zq @m6 (Zq @b5 @b6))))
theorem tK (b : c5) (out : List Int) (i : Nat) (hi : i ≤ b.i.length) (hn : b.i.length ≤ 1000) (ho : Y9 out) (so : K8 out) (hr : ∀ x ∈ b.i, O8 x < 64 ∧ Y9 (M4 x)) :
   e8 Tryd.prog 41 [.agg b.av, F5 out, .v (.int .i64 i)] (fun _ => F5 (eE b out i)) (fun _ => []) := by
 have CB := b3H (b.i.drop i)
 refine Zf Tryd.func41 Tryd.ntmps41 ?_; simp only [c5.av, u2.av, F5, List.cons_append]
 repeat' (first | refine Za ?_ | (with_reducible first | refine Zz.mk fun N hN mk hmk => ?_ | refine Zb.mk fun N hN => ?_ | refine Zi.mk fun h => ?_ | refine ⟨fun h => ?_, fun h => ?_⟩ | exact True.intro) | (refine Y5 CB ?_ rfl ?_ ?_; (next => (simp (disch := omega) only [wX.d, D8, Nat.reduceBEq, AV.plain, Nat.reduceAdd, Nat.reduceLeDiff, Nat.reduceLT, ↓reduceIte, sF] <;> first | done | rfl)); (next => (simp only [apply_ite List.length, List.length_cons, List.length_nil] <;> (try split) <;> omega))) | (refine V5 CB ?_ rfl ?_ ?_; (next => (simp (disch := omega) only [wX.d, D8, Nat.reduceBEq, AV.plain, Nat.reduceAdd, Nat.reduceLeDiff, Nat.reduceLT, ↓reduceIte, sF] <;> first | done | rfl)); (next => (simp only [apply_ite List.length, List.length_cons, List.length_nil] <;> (try split) <;> omega))) | (refine hN _ ?_; clear hN N) | (refine Zk hmk ?_; clear hmk mk) | refine Zt wX.d ?_ | fail)
 refine oU 13 (y := .fn 72 [.aP [[.b7 false (p8 (b.i.drop i))]] 0 0]) (by simp (maxSteps := 10000000) (disch := omega) only [wX.d, r7, Z3, A2, H3, x9, u6, AV.kept, l7, n6, A3, I6, y7, x5, Go.MapKept.IsKey, r8, B8, AV.plain, rd, D8, a8, Z2, w6, AV.j8, AV.aS, AV.I5, AV.V7, AV.scalar, bC, y8, H6, H9, I3, H8, x4, H5, bD, y9, H7, G9, m9, bB, o9, F2, F1, Z8, F9, o6, TD.isRow, A1, n8, o8, n4, L8, Value.oneCell', ↓reduceIte, Int.reduceNe, Int.reduceEq, Nat.reduceAdd, Nat.reduceLT, Nat.reduceLeDiff, Nat.reduceSub, Nat.reduceMul, Nat.reduceBEq, Nat.reduceEqDiff, reduceCtorEq, Int.reduceToNat, ← decide_not, ← Bool.decide_and, sA, sN] <;> first | done | rfl) rfl ?_; simp (maxSteps := 10000000) (disch := omega) only [a8, n6, A9, wX.d, r7, Z3, A2, H3, x9, u6, AV.kept, l7, n6, A3, I6, y7, x5, Go.MapKept.IsKey, r8, B8, AV.plain, rd, D8, a8, Z2, w6, AV.j8, AV.aS, AV.I5, AV.V7, AV.scalar, bC, y8, H6, H9, I3, H8, x4, H5, bD, y9, H7, G9, m9, bB, o9, F2, F1, Z8, F9, o6, TD.isRow, A1, n8, o8, n4, L8, Value.oneCell', ↓reduceIte, Int.reduceNe, Int.reduceEq, Nat.reduceAdd, Nat.reduceLT, Nat.reduceLeDiff, Nat.reduceSub, Nat.reduceMul, Nat.reduceBEq, Nat.reduceEqDiff, reduceCtorEq, Int.reduceToNat, ← decide_not, ← Bool.decide_and, sA, sN]
 have hg := a8v (L := b.i.drop i) fun x hx => hr x (List.mem_of_mem_drop hx)
 generalize hLd : b.i.drop i = L at *
 refine a6P rfl L (fun pre => ⟨[.dead, .dead, .dead, .dead, .ptr 0 0 0, .dead, .ptr 1 0 0, .dead, .dead, .dead, .dead, .dead, .dead, .fn 72 [.aP [[.b7 false (p8 L)]] 0 0], .dead, .dead, .dead, .dead, .dead, .dead], [(0, .live ⟨4, [[.v (.int .u64 (D0 (cM L out pre))), .v (.int .u64 0), .v (.int .u64 0), .v (.int .u64 0)]], 0⟩), (1, .live ⟨4, [[.v (.int .u64 0), .v (.int .u64 0), .v (.int .u64 0), .v (.int .u64 0)]], 0⟩)], 2⟩) 7 [4, 6] (by rw [← hLd]; simp; omega) rfl (Zw [4, 6, 13] [8, 16] wX.d rfl) (fun _ => ⟨by simp, by simp⟩) (fun _ => rfl) (fun _ => by simp [l7]) (fun pre x hlt => ?_) ?_
 · obtain ⟨h1, h2⟩ := a92 hg ho so pre
   have C := tL (L.getD x I0) (cM L out pre) h1 h2 (hg x).1 (hg x).2
   rw [← tG] at C
   generalize L.getD x I0 = y at *
   simp only [j9.av, F5] at C
   simp only [b1O, LS.tf, List.map_cons, List.map_nil, j9.av]
   repeat' (first | refine Za ?_ | (with_reducible first | refine Zz.mk fun N hN mk hmk => ?_ | refine Zb.mk fun N hN => ?_ | refine Zi.mk fun h => ?_ | refine ⟨fun h => ?_, fun h => ?_⟩ | exact True.intro) | (refine hN _ ?_; clear hN N) | (refine Zk hmk ?_; clear hmk mk) | refine Zs wX.d ?_ | fail)
   refine ⟨rfl, ?_⟩
   repeat' (first | refine Za ?_ | (with_reducible first | refine Zz.mk fun N hN mk hmk => ?_ | refine Zb.mk fun N hN => ?_ | refine Zi.mk fun h => ?_ | refine ⟨fun h => ?_, fun h => ?_⟩ | exact True.intro) | refine Zc C ?_ | (refine hN _ ?_; clear hN N) | (refine Zk hmk ?_; clear hmk mk) | refine Zs wX.d ?_ | fail)
   refine a7G 2 rfl ?_ ?_ ?_
   · simp [l7, D5]
   · rfl
   · refine fX (keep := [4, 6, 13]) (ids := [0, 1]) (s' := _) (by simp only [D5, u6, Z4, AV.kept, List.map_cons, List.map_nil, List.all_cons, List.all_nil, if_true, if_false, Nat.reduceEqDiff, LS.tf, wX.d, c7, n3, a7, e6, m8, A6, AV.plain, Nat.reduceBEq, ↓reduceIte, Nat.reduceEqDiff, Nat.reduceAdd, sC]; rfl) rfl
 · repeat' (first | refine Za ?_ | (with_reducible first | refine Zz.mk fun N hN mk hmk => ?_ | refine Zb.mk fun N hN => ?_ | refine Zi.mk fun h => ?_ | refine ⟨fun h => ?_, fun h => ?_⟩ | exact True.intro) | (refine hN _ ?_; clear hN N) | (refine Zk hmk ?_; clear hmk mk) | refine Zt wX.d ?_ | fail)
   rw [show cM L out (L7 L.length L.length) = eE b out i from (a0U L out).trans (by rw [← hLd]; rfl)]
end Go.Proofs.YtfccigmfcpimgaaDoor
end
section
namespace Go.Proofs.YtfccigmfcpimgaaDoor
open Go.Ab
open Go.RowKit Go.Shelf
theorem qQ {P : Program} [j5 P] {f : FuncId} {vs : List Value} {v : Value} (hc : gQ P f) (h : ∀ w, j5.ok P w → Calls P f vs.toArray w fun e w' => e = .returned v ∧ w' = w) :
   e8 P f (vs.map .v) (fun _ => .v v) (fun _ => []) := by
 refine ⟨hc, fun nid M w args hg hM hargs => ?_⟩
 have he : args = vs.toArray := by
   obtain ⟨h1, h2⟩ := hargs
   apply Array.ext
   · simpa using h1
   · intro i hi1 hi2
     have hi3 : i < vs.length := by simpa using hi2
     have := (h2 i (.v vs[i]) args[i] (by simp [hi3]) (by simp [hi1])).X5
     simpa using this
 subst he
 refine (h w hg).mono ?_
 rintro e w' ⟨rfl, rfl⟩
 have hf : ∀ id, u5 nid [] id = .free := fun id => by unfold u5; rw [if_neg (by simp)]
 exact ⟨v, fun _ => none, rfl, ⟨fun id r h => (by rw [hf] at h; cases h), fun _ _ => rfl, fun id id' r r' b β β' z z' h => (by rw [hf] at h; cases h), Below.refl _ _, fun b o h => ⟨hM b o h, fun id r p h => (by rw [hf] at h; cases h)⟩⟩, .v _⟩
theorem b3q (w : World) : Calls Tryd.prog 67 #[.int .u64 0] w fun e w' => e = .returned (.int .i64 64) ∧ w' = w := by
 go_enter Tryd.func67, Tryd.ntmps67
 go_wp2
 go_ret
 exact ⟨rfl, rfl⟩
theorem b3p (x k idx : Nat) (w : World) (hx0 : ((x : Int) == 0) = false)
   (key : IntKind.u64.wrap (bits BinOp.and IntKind.u64 (x : Int) (IntKind.u64.wrap (-(x : Int))) * 285870213051353865) / 288230376151711744 = (idx : Int))
   (hi : idx < 64) (hk : k < 64) (hcell : w.cell? ⟨0, idx, none⟩ = some (.int .u8 k)) :
   Calls Tryd.prog 67 #[.int .u64 x] w fun e w' => e = .returned (.int .i64 k) ∧ w' = w := by
 go_enter Tryd.func67, Tryd.ntmps67
 go_wp2_with (simp only [key])
 go_ret
 exact ⟨rfl, rfl⟩
theorem b4S (x : Nat) (hx : x < 18446744073709551616) : e8 Tryd.prog 67 [.v (.int .u64 x)] (fun _ => .v (.int .i64 (Lib.ctz 64 x))) (fun _ => []) := by
 refine qQ (vs := [.int .u64 x]) ⟨Tryd.f67, rfl, rfl, rfl⟩ fun w hg => ?_
 by_cases hx0 : x = 0
 · subst hx0
   exact b3q w
 · obtain ⟨hlow, hk⟩ := Lib.lowest_bit 64 x hx0 hx
   obtain ⟨hi, htab⟩ := Lib.deBruijn64_at _ hk
   have hcell := Lib.TabIs.cell (show Lib.TabIs Tryd.prog w "math/bits.deBruijn64tab" .u8 a0x from hg) (g := 0) (by kernel_rfl) (2 ^ Lib.ctz 64 x * 285870213051353865 % 18446744073709551616 / 288230376151711744) (by have : a0x.length = 64 := rfl; omega)
   have e : a0x.getD (2 ^ Lib.ctz 64 x * 285870213051353865 % 18446744073709551616 / 288230376151711744) 0 = ((Lib.ctz 64 x : Nat) : Int) := by
     rw [show a0x = Lib.deBruijn64tab.map fun n : Nat => (n : Int) from rfl, List.getD_eq_getElem?_getD, List.getElem?_map]
     rw [List.getD_eq_getElem?_getD] at htab
     generalize Lib.deBruijn64tab[2 ^ Lib.ctz 64 x * 285870213051353865 % 18446744073709551616 / 288230376151711744]? = o at *
     cases o with
     | none => simp at htab ⊢; omega
     | some y => simp at htab ⊢; omega
   rw [e] at hcell
   exact b3p x _ _ w (by simp; omega) (tz64_key x _ hx hx0 hlow) hi hk hcell
def ocF (x : Int) : Int :=
 let a := IntKind.u64.wrap (bits .and .u64 (x / 2) 6148914691236517205 + bits .and .u64 x 6148914691236517205)
 let b := IntKind.u64.wrap (bits .and .u64 (a / 4) 3689348814741910323 + bits .and .u64 a 3689348814741910323)
 let c := bits .and .u64 (IntKind.u64.wrap (b / 16 + b)) 1085102592571150095
 let d := IntKind.u64.wrap (c + c / 256)
 let e := IntKind.u64.wrap (d + d / 65536)
 let f := IntKind.u64.wrap (e + e / 4294967296)
 bits .and .i64 (wrap64 f) 127
theorem b24 (x : Int) (w : World) : Calls Tryd.prog 71 #[.int .u64 x] w fun e w' => e = .returned (.int .i64 (ocF x)) ∧ w' = w := by
 go_enter Tryd.func71, Tryd.ntmps71
 go_wp2
 go_ret
 exact ⟨rfl, rfl⟩
theorem b3U (x : Int) : e8 Tryd.prog 71 [.v (.int .u64 x)] (fun _ => .v (.int .i64 (ocF x))) (fun _ => []) :=
 qQ (vs := [.int .u64 x]) ⟨Tryd.f71, rfl, rfl, rfl⟩ fun w _ => b24 x w
theorem b5m : ∀ i, i < 64 → ∀ j, j < 64 → ocF ((64 * i + j : Nat) : Int) = (((List.range 12).filter fun k => (64 * i + j).testBit k).length : Int) := by decide +kernel
theorem b6G (x : Nat) (h : x < 4096) : ocF (x : Int) = (((List.range 12).filter fun k => x.testBit k).length : Int) := by
 have := b5m (x / 64) (by omega) (x % 64) (by omega)
 rw [Nat.div_add_mod] at this
 exact this
end Go.Proofs.YtfccigmfcpimgaaDoor
end
