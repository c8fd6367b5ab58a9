/- Own work (by an AI agent; no person has read it): part of a proof of the seat YtfccigmfcpimgaaDoor. -/
import Derived.Test.YtfccigmfcpimgaaDoorXh
set_option linter.unusedSimpArgs false
set_option linter.unusedVariables false
set_option maxRecDepth 100000
set_option maxHeartbeats 10000000
section
namespace Go.Proofs.YtfccigmfcpimgaaDoor
open Go.Ab
def okS (r : Int) (l : List Int) (k : Nat) : Prop := 0 ≤ l.getD k 0 ∧ l.getD k 0 < r ∧ (0 < k → l.getD (k - 1) 0 < l.getD k 0)
theorem a7p {r : Int} {l : List Int} : rC r l ↔ ∀ k, k < l.length → okS r l k := by
 constructor
 · intro h k hk
   have h1 := b1q h k hk
   exact ⟨by omega, (h k hk).2, fun h0 => h1.2 (k - 1) (by omega)⟩
 · intro h k hk
   obtain ⟨h1, h2, h3⟩ := h k hk
   refine ⟨?_, h2⟩
   unfold jE
   split
   · omega
   · exact h3 (by omega)
def a7X := ZZ.mk (Zq @u7 (Zq @K0 (Zq @B4 (Zq @N9 (Zq @c6 (Zq @r6 (Zq @b5 @b6)))))))
theorem a34 (c : Code) (l : List Int) (hl : l.length ≤ 1000) : e8 Tryd.prog 49 [.agg c.av, .b7 false (e7 l)] (fun _ => .v (.bool (decide (rC c.r9 l)))) (fun _ => []) := by
 refine Zf Tryd.func49 Tryd.ntmps49 ?_; simp only [Code.av]
 repeat' (first | refine Za ?_ | (with_reducible first | refine Zz.mk fun N hN mk hmk => ?_ | refine Zb.mk fun N hN => ?_ | refine Zi.mk fun h => ?_ | refine ⟨fun h => ?_, fun h => ?_⟩ | exact True.intro) | (refine hN _ ?_; clear hN N) | (refine Zk hmk ?_; clear hmk mk) | refine Zt a7X.d ?_ | fail)
 refine M5 (fun i => ⟨[.dead, .b7 false (e7 l), .ptr 0 0 0, .dead, .dead, .v (.int .i64 i), .dead, .dead, .dead, .dead, .dead, .dead, .dead, .dead, .dead, .dead, .dead, .dead, .dead, .dead, .dead, .dead, .dead, .dead, .dead, .dead, .dead, .dead, .dead, .dead, .dead, .dead, .dead, .dead, .dead, .dead, .dead, .dead, .dead, .dead, .dead, .dead], [(0, .live ⟨8, [[.v (.int .i64 c.group), .v (.int .i64 c.sub), .v (.int .i64 c.r9), .v (.int .i64 c.L3), .v (.int .i64 c.params), .b7 false (Q5 c.D7), .b7 false (loops c.loops), .b7 false (E0 c.b)]], 0⟩)], 1⟩) (fun ii => Go.Ab.Z7 ((fun (i : Nat) => ∀ k : Nat, k < i → okS c.r9 l k) ii)) l.length (Zw [1,2,5] [0] a7X.d ?_) ?_ ?_
 · rfl
 · exact ⟨fun k hk => by omega⟩
 · intro i hi hF
   have hF := hF.out
   by_cases hlt : i < l.length
   · have e1 : ((i : Int) - 1).toNat = i - 1 := by omega
     have key : rC c.r9 l → 0 ≤ l.getD i 0 ∧ l.getD i 0 < c.r9 ∧ (0 < i → l.getD (i - 1) 0 < l.getD i 0) := fun h => a7p.1 h i hlt
     repeat' (first | refine Za ?_ | (with_reducible first | refine Zz.mk fun N hN mk hmk => ?_ | refine Zb.mk fun N hN => ?_ | refine Zi.mk fun h => ?_ | refine ⟨fun h => ?_, fun h => ?_⟩ | exact True.intro) | (refine hN _ ?_; clear hN N) | (refine Zk hmk ?_; clear hmk mk) | refine Zt a7X.d ?_ | fail)
     · exact (decide_eq_false fun h => by have := key h; omega).symm
     · exact (decide_eq_false fun h => by have := key h; omega).symm
     · exact (decide_eq_false fun h => by have := (key h).2.2 (by omega); rw [e1] at *; omega).symm
     · refine ⟨⟨fun k hk => ?_⟩, ?_⟩
       · rcases Nat.lt_succ_iff_lt_or_eq.1 hk with h1 | rfl
         · exact hF k h1
         · exact ⟨by omega, by omega, fun _ => by rw [e1] at *; omega⟩
       · refine Zw [1,2,5] [0] a7X.d ?_
         rfl
     · refine ⟨⟨fun k hk => ?_⟩, ?_⟩
       · rcases Nat.lt_succ_iff_lt_or_eq.1 hk with h1 | rfl
         · exact hF k h1
         · exact ⟨by omega, by omega, fun _ => by omega⟩
       · refine Zw [1,2,5] [0] a7X.d ?_
         rfl
   · repeat' (first | refine Za ?_ | (with_reducible first | refine Zz.mk fun N hN mk hmk => ?_ | refine Zb.mk fun N hN => ?_ | refine Zi.mk fun h => ?_ | refine ⟨fun h => ?_, fun h => ?_⟩ | exact True.intro) | (refine hN _ ?_; clear hN N) | (refine Zk hmk ?_; clear hmk mk) | refine Zt a7X.d ?_ | fail)
     exact (decide_eq_true (a7p.2 fun k hk => hF k (by omega))).symm
theorem wR {a b : List Int} (sa : K8 a) (sb : K8 b) : eD a b = true ↔ q9 a b = b := by
 unfold eD
 rw [decide_eq_true_iff]
 constructor
 · intro h
   refine K8.ext (U7 sa) sb fun x => ?_
   rw [K5]
   exact ⟨fun hx => hx.elim (h x) id, .inr⟩
 · intro h x hx
   rw [← h, K5]; exact .inl hx
def b6m := ZZ.mk (Zq @not_true_eq_false (Zq @decide_false (Zq @decide_true (Zq @s8 (Zq @b8 (Zq @b5 @b6))))))
def b2k := ZZ.mk (Zq @s8 (Zq @z8 (Zq @H4 (Zq @s7 (Zq @b8 (Zq @b5 @b6))))))
def b42 := ZZ.mk (Zq @c5.av.eq_1 (Zq @u2.av.eq_1 (Zq @List.cons_append.{0} (Zq @List.nil_append.{0} (Zq @s8 (Zq @z8 (Zq @H4 (Zq @s7 (Zq @L4 (Zq @M6 (Zq @aM (Zq @E6 (Zq @F8 (Zq @b8 (Zq @F7 (Zq @L9 (Zq @c9 (Zq @b5 @b6))))))))))))))))))
def b2l := ZZ.mk (Zq @b8 (Zq @b5 @b6))
def b7e := ZZ.mk (Zq @s8 (Zq @b8 (Zq @b5 @b6)))
theorem a0o (c : Code) (I O : List (List Int)) (hc : z6 c) (hi1 : I.length ≤ 1000) (hi2 : ∀ i, (I.getD i []).length ≤ 1000) (ho1 : O.length ≤ 1000) (ho2 : ∀ i, (O.getD i []).length ≤ 1000) :
   e8 Tryd.prog 17 [.agg c.av, .agg [.b7 false (lists I), .b7 false (lists O)]] (fun _ => .v (.int .i64 (chkF c I O))) (fun _ => []) := by
 have hr := hc.r
 have hn := hc.n
 by_cases g0 : I.length = c.b.length ∧ O.length = c.b.length
 · obtain ⟨g1, g2⟩ := g0
   refine Zf Tryd.func17 Tryd.ntmps17 ?_; simp only [Code.av]
   repeat' (first | refine Za ?_ | (with_reducible first | refine Zz.mk fun N hN mk hmk => ?_ | refine Zb.mk fun N hN => ?_ | refine Zi.mk fun h => ?_ | refine ⟨fun h => ?_, fun h => ?_⟩ | exact True.intro) | (refine hN _ ?_; clear hN N) | (refine Zk hmk ?_; clear hmk mk) | refine Zt (Zq b6m.d (Zq g1 g2)) ?_ | fail)
   refine M5 (fun b => ⟨[.dead, .dead, .ptr 0 0 0, .ptr 1 0 0, .dead, .v (.int .i64 b), .dead, .dead, .dead, .dead, .dead, .dead, .dead, .dead, .dead, .dead, .dead, .dead, .dead, .dead, .dead, .dead, .dead, .dead, .dead, .dead, .dead, .dead, .dead, .dead, .dead, .dead, .dead, .dead, .dead, .dead, .dead, .dead, .dead, .dead, .dead, .dead, .dead, .dead, .dead, .dead, .dead, .dead, .dead, .dead, .dead, .dead, .dead, .dead, .dead, .dead, .dead, .dead, .dead, .dead, .dead, .dead, .dead, .dead, .dead, .dead, .dead, .dead, .dead, .dead, .dead, .dead, .dead, .dead, .dead, .dead, .dead, .dead, .dead, .dead, .dead, .dead, .dead, .dead, .dead, .dead, .dead, .dead, .dead, .dead, .dead, .dead, .dead, .dead, .dead, .dead], [(0, .live ⟨8, [[.v (.int .i64 c.group), .v (.int .i64 c.sub), .v (.int .i64 c.r9), .v (.int .i64 c.L3), .v (.int .i64 c.params), .b7 false (Q5 c.D7), .b7 false (loops c.loops), .b7 false (E0 c.b)]], 0⟩), (1, .live ⟨2, [[.b7 false (lists I), .b7 false (lists O)]], 0⟩)], 2⟩) (fun ii => Go.Ab.Z7 ((fun (b : Nat) => ∀ k : Nat, k < b → rC c.r9 (I.getD k []) ∧ rC c.r9 (O.getD k [])) ii)) c.b.length (Zw [2,3,5] [0, 8] (Zq b6m.d (Zq g1 g2)) ?_) ?_ ?_
   · rfl
   · exact ⟨fun k hk => by omega⟩
   · intro b hb hF
     have hF := hF.out
     dsimp only
     by_cases hlt : b < c.b.length
     · have K1 := a34 c (I.getD b []) (hi2 b)
       have K2 := a34 c (O.getD b []) (ho2 b)
       simp only [Code.av] at K1 K2
       repeat' (first | refine Za ?_ | (with_reducible first | refine Zz.mk fun N hN mk hmk => ?_ | refine Zb.mk fun N hN => ?_ | refine Zi.mk fun h => ?_ | refine ⟨fun h => ?_, fun h => ?_⟩ | exact True.intro) | refine Zc K1 ?_ | refine Zc K2 ?_ | (refine hN _ ?_; clear hN N) | (refine Zk hmk ?_; clear hmk mk) | refine Zt (Zq b2k.d (Zq g1 g2)) ?_ | fail)
       · rw [aZ fun hh => ‹¬rC c.r9 (I.getD b [])› (hh.1.1 b (by omega))]
       · rw [aZ fun hh => ‹¬rC c.r9 (O.getD b [])› (hh.2.1.1 b (by omega))]
       · refine ⟨⟨fun k hk => ?_⟩, ?_⟩
         · rcases Nat.lt_succ_iff_lt_or_eq.1 hk with h1 | rfl
           · exact hF k h1
           · exact ⟨Decidable.not_not.1 ‹_›, Decidable.not_not.1 ‹_›⟩
         · refine Zw [2,3,5] [0, 1] (Zq b2k.d (Zq g1 g2)) ?_
           rfl
     · have C3 := iG c hc.succ (by omega)
       simp only [Code.av] at C3
       obtain rfl : b = c.b.length := by omega
       have gi : cI c.r9 I := fun i hi => (hF i (by omega)).1
       have go : cI c.r9 O := fun i hi => (hF i (by omega)).2
       have hsi := eZ gi (by omega)
       have hso := eZ go (by omega)
       repeat' (first | refine Za ?_ | (with_reducible first | refine Zz.mk fun N hN mk hmk => ?_ | refine Zb.mk fun N hN => ?_ | refine Zi.mk fun h => ?_ | refine ⟨fun h => ?_, fun h => ?_⟩ | exact True.intro) | refine Zc C3 ?_ | (refine hN _ ?_; clear hN N) | (refine Zk hmk ?_; clear hmk mk) | refine Zt (Zq b2k.d (Zq g1 g2)) ?_ | fail)
       refine M5 (fun b => ⟨[.dead, .dead, .ptr 0 0 0, .ptr 1 0 0, .dead, .dead, .b7 false (H0 (reachF c.b)), .v (.int .i64 b), .dead, .dead, .dead, .dead, .dead, .dead, .dead, .dead, .dead, .dead, .dead, .dead, .dead, .dead, .dead, .dead, .dead, .dead, .dead, .dead, .dead, .dead, .dead, .dead, .dead, .dead, .dead, .dead, .dead, .dead, .dead, .dead, .dead, .dead, .dead, .dead, .dead, .dead, .dead, .dead, .dead, .dead, .dead, .dead, .dead, .dead, .dead, .dead, .dead, .dead, .dead, .dead, .dead, .dead, .dead, .dead, .dead, .dead, .dead, .dead, .dead, .dead, .dead, .dead, .dead, .dead, .dead, .dead, .dead, .dead, .dead, .dead, .dead, .dead, .dead, .dead, .dead, .dead, .dead, .dead, .dead, .dead, .dead, .dead, .dead, .dead, .dead, .dead], [(0, .live ⟨8, [[.v (.int .i64 c.group), .v (.int .i64 c.sub), .v (.int .i64 c.r9), .v (.int .i64 c.L3), .v (.int .i64 c.params), .b7 false (Q5 c.D7), .b7 false (loops c.loops), .b7 false (E0 c.b)]], 0⟩), (1, .live ⟨2, [[.b7 false (lists I), .b7 false (lists O)]], 0⟩)], 2⟩) (fun ii => Go.Ab.Z7 ((fun (b : Nat) => ∀ k : Nat, k < b → fF c.b (k : Int) → a4Z c I O k) ii)) c.b.length (Zw [2,3,6,7] [0, 1] (Zq b2k.d (Zq g1 g2)) ?_) ?_ ?_
       · rfl
       · exact ⟨fun k hk => by omega⟩
       · intro b hb hG
         have hG := hG.out
         dsimp only
         by_cases hlt : b < c.b.length
         · obtain ⟨B, hB⟩ : ∃ B, B = F3 c.b b := ⟨_, rfl⟩
           have hB' : c.b.getD b B0 = B := hB.symm
           have hrl := M8 c.b
           have hgt := hc.b0G hlt
           have hgi := hc.b2F hlt
           have hbl := (hc.tH hlt).l
           have hto := (hc.tH hlt).t.succ
           have K1 := a5O c b I hc.succ hlt g1 hi2
           rw [← hB] at hgt hgi hbl hto K1
           have hnl := a5v hi2 B.t
           have K2 := cY (I7 B.t I) (O.getD b []) (by omega) (by have := ho2 b; omega)
           have K3 := vT B (O.getD b []) 0 (by omega) (by omega) (ho2 b)
           have hal : (eE B (O.getD b []) 0).length ≤ 1000 := a1k (vR (hso b).1 hgi) (cZ (hso b).2)
           have K4 := cY (eE B (O.getD b []) 0) (I.getD b []) (by omega) (by have := hi2 b; omega)
           simp only [c5.av, u2.av, List.cons_append, List.nil_append, Code.av] at K1 K3
           have hck : a4Z c I O b ↔ eD (I7 B.t I) (O.getD b []) = true ∧ eD (eE B (O.getD b []) 0) (I.getD b []) = true := by
             rw [wR V6 (hso b).2, wR (cZ (hso b).2) (hsi b).2, hB]; rfl
           have hra := T8 c.b hlt
           repeat' (first | refine Za ?_ | (with_reducible first | refine Zz.mk fun N hN mk hmk => ?_ | refine Zb.mk fun N hN => ?_ | refine Zi.mk fun h => ?_ | refine ⟨fun h => ?_, fun h => ?_⟩ | exact True.intro) | refine Zc K1 ?_ | refine Zc K2 ?_ | refine Zc K3 ?_ | refine Zc K4 ?_ | (refine hN _ ?_; clear hN N) | (refine Zk hmk ?_; clear hmk mk) | refine Zt (Zq b42.d (Zq hB' (Zq hrl (Zq g1 g2)))) ?_ | fail)
           · rw [aZ fun hh => by have := (hck.1 (hh.2.2 b hlt (hra.1 ‹_›))).2; simp_all]
           · refine ⟨⟨fun k hk hrk => ?_⟩, ?_⟩
             · rcases Nat.lt_succ_iff_lt_or_eq.1 hk with h1 | rfl
               · exact hG k h1 hrk
               · exact hck.2 ⟨by simp_all, by simp_all⟩
             · refine Zw [2,3,6,7] [0, 1] (Zq b42.d (Zq hB' (Zq hrl (Zq g1 g2)))) ?_
               rfl
           · rw [aZ fun hh => by have := (hck.1 (hh.2.2 b hlt (hra.1 ‹_›))).1; simp_all]
           · refine ⟨⟨fun k hk hrk => ?_⟩, ?_⟩
             · rcases Nat.lt_succ_iff_lt_or_eq.1 hk with h1 | rfl
               · exact hG k h1 hrk
               · have := hra.2 hrk; simp_all
             · refine Zw [2,3,6,7] [0, 1] (Zq b42.d (Zq hB' (Zq hrl (Zq g1 g2)))) ?_
               rfl
         · obtain rfl : b = c.b.length := by omega
           rw [kK ⟨⟨gi, g1⟩, ⟨go, g2⟩, hG⟩]
           repeat' (first | refine Za ?_ | (with_reducible first | refine Zz.mk fun N hN mk hmk => ?_ | refine Zb.mk fun N hN => ?_ | refine Zi.mk fun h => ?_ | refine ⟨fun h => ?_, fun h => ?_⟩ | exact True.intro) | (refine hN _ ?_; clear hN N) | (refine Zk hmk ?_; clear hmk mk) | refine Zt b2l.d ?_ | fail)
 · rw [aZ fun h => g0 ⟨h.1.2, h.2.1.2⟩]
   refine Zf Tryd.func17 Tryd.ntmps17 ?_; simp only [Code.av]
   repeat' (first | refine Za ?_ | (with_reducible first | refine Zz.mk fun N hN mk hmk => ?_ | refine Zb.mk fun N hN => ?_ | refine Zi.mk fun h => ?_ | refine ⟨fun h => ?_, fun h => ?_⟩ | exact True.intro) | (refine hN _ ?_; clear hN N) | (refine Zk hmk ?_; clear hmk mk) | refine Zt b7e.d ?_ | fail)
   all_goals first | rfl | (exfalso; omega)
end Go.Proofs.YtfccigmfcpimgaaDoor
end
