/- Own work (by an AI agent; no person has read it): part of a proof of the seat YtfccigmfcpimgaaDoor. -/
import Derived.Test.YtfccigmfcpimgaaDoorXg
set_option linter.unusedSimpArgs false
set_option linter.unusedVariables false
set_option maxRecDepth 100000
set_option maxHeartbeats 10000000
section
namespace Go.Proofs.YtfccigmfcpimgaaDoor
open Go.Ab
theorem a7F {r : Int} {ops : List J8} (h : ∀ o ∈ ops, U3 r o) : ∀ x ∈ s9 ops, 0 ≤ x ∧ x < r := by
 intro x hx
 obtain ⟨o, h1, h2, rfl⟩ := lR.1 hx
 exact h o h1 h2
theorem zZ {r : Int} {i : j9} (h : eL r i) : ∀ x ∈ M4 i, 0 ≤ x ∧ x < r := a7F fun o ho => by
 simp only [List.mem_cons, List.not_mem_nil, or_false] at ho
 rcases ho with rfl | rfl | rfl
 · exact h.a
 · exact h.b
 · exact h.c
theorem a0B {r n : Int} {t : u2} (h : Z9 r n t) : ∀ x ∈ bA t, 0 ≤ x ∧ x < r := a7F fun o ho => by
 simp only [List.mem_cons, List.not_mem_nil, or_false] at ho
 rcases ho with rfl | rfl
 · exact h.a
 · exact h.b
theorem rZ {r : Int} {o : J8} (h : U3 r o) (hr : 0 ≤ r) : -1 ≤ tU o ∧ tU o < r := by
 unfold tU
 split
 · rename_i hk; have := h hk; omega
 · omega
theorem z6.tH {c : Code} (h : z6 c) {b : Nat} (hb : b < c.b.length) : kE c.r9 c.b.length (F3 c.b b) := h.b _ (W0 hb)
theorem z6.b2F {c : Code} (h : z6 c) {b : Nat} (hb : b < c.b.length) : ∀ x ∈ (F3 c.b b).i, O8 x < 64 ∧ Y9 (M4 x) := fun x hx => by
 have h1 := (h.tH hb).i x hx
 have h2 := h.r
 have h3 := (rZ h1.d h2.1).2
 exact ⟨by show tU x.d < 64; omega, fun y hy => by have := zZ h1 y hy; omega⟩
theorem z6.b0G {c : Code} (h : z6 c) {b : Nat} (hb : b < c.b.length) : P8 (F3 c.b b).t < 64 ∧ Y9 (bA (F3 c.b b).t) := by
 have h1 := (h.tH hb).t
 have h2 := h.r
 have h3 := (rZ h1.d h2.1).2
 exact ⟨by show tU _ < 64; omega, fun y hy => by have := a0B h1 y hy; omega⟩
theorem a8X {L : List j9} (hg : ∀ x ∈ L, O8 x < 64 ∧ Y9 (M4 x)) {out : List Int} (ho : Y9 out) : Y9 (L.foldr D4 out) := by
 induction L with
 | nil => exact ho
 | cons x L ih => exact Y9.union (ih fun y hy => hg y (by simp [hy])).dG (hg x (by simp)).2
theorem vR {b : c5} {out : List Int} {i : Nat} (ho : Y9 out) (hg : ∀ x ∈ b.i, O8 x < 64 ∧ Y9 (M4 x)) : Y9 (eE b out i) := a8X (fun x hx => hg x (List.mem_of_mem_drop hx)) ho
def cI (r : Int) (L : List (List Int)) : Prop := ∀ i, i < L.length → rC r (L.getD i [])
theorem eZ {r : Int} {L : List (List Int)} (h : cI r L) (hr : r ≤ 64) : xM L := fun z => by
 by_cases hz : z < L.length
 · exact ⟨a5K (h z hz) hr, a1j (h z hz)⟩
 · rw [List.getD_eq_getElem?_getD, List.getElem?_eq_none (by omega)]
   exact ⟨Y9.nil, K8.nil⟩
theorem b3W : plC Tryd.prog 85 = some [.int .u64, .int .u64, .int .u64, .int .u64] := by kernel_rfl
def a4Z (c : Code) (I O : List (List Int)) (b : Nat) : Prop :=
 q9 (I7 (F3 c.b b).t I) (O.getD b []) = O.getD b [] ∧ q9 (eE (F3 c.b b) (O.getD b []) 0) (I.getD b []) = I.getD b []
def a2W (c : Code) (I O : List (List Int)) : Prop := (cI c.r9 I ∧ I.length = c.b.length) ∧ (cI c.r9 O ∧ O.length = c.b.length) ∧ ∀ b, b < c.b.length → fF c.b b → a4Z c I O b
noncomputable def chkF (c : Code) (I O : List (List Int)) : Int := haveI := Classical.propDecidable (a2W c I O); if a2W c I O then 0 else 100
theorem aZ {c : Code} {I O : List (List Int)} (h : ¬ a2W c I O) : chkF c I O = 100 := by unfold chkF; rw [if_neg h]
theorem kK {c : Code} {I O : List (List Int)} (h : a2W c I O) : chkF c I O = 0 := by unfold chkF; rw [if_pos h]
theorem wE {c : Code} {L : List (List Int)} (h : cI c.r9 L) : kA c L = .Q8 [.b7 false (X1 L), .v (.bool (decide ((L.length : Int) = c.b.length)))] := by unfold kA; exact if_pos h
theorem b1P {c : Code} {L : List (List Int)} (h : ¬ cI c.r9 L) : kA c L = .Q8 [.b7 false [], .v (.bool false)] := by unfold kA; exact if_neg h
theorem oJ (c : Code) (L : List (List Int)) : ∃ S fl, kA c L = .Q8 [.b7 false S, .v (.bool fl)] ∧ (fl = true ↔ cI c.r9 L ∧ L.length = c.b.length) := by
 by_cases h : cI c.r9 L
 · refine ⟨_, _, wE h, ?_⟩
   rw [decide_eq_true_iff]
   exact ⟨fun e => ⟨h, by omega⟩, fun e => by have := e.2; omega⟩
 · exact ⟨_, _, b1P h, by simp [h]⟩
def b6k := ZZ.mk (Zq @Code.av.eq_1 (Zq @b5 @b6))
def b41 := ZZ.mk (Zq @b3W (Zq @c5.av.eq_1 (Zq @F5.eq_1 (Zq @u2.av.eq_1 (Zq @dR (Zq @lA (Zq @mI (Zq @o0 (Zq @aJ (Zq @L4 (Zq @M6 (Zq @aM (Zq @E6 (Zq @F8 (Zq @b8 (Zq @F7 (Zq @L9 (Zq @c9 (Zq @b5 @b6)))))))))))))))))))
theorem P7 (c : Code) (I O : List (List Int)) (hc : z6 c) (hi1 : I.length ≤ 1000) (hi2 : ∀ i, (I.getD i []).length ≤ 1000) (ho1 : O.length ≤ 1000) (ho2 : ∀ i, (O.getD i []).length ≤ 1000) :
   e8 Tryd.prog 16 [.agg c.av, .agg [.b7 false (lists I), .b7 false (lists O)]] (fun _ => .v (.int .i64 (chkF c I O))) (fun _ => []) := by
 have hr := hc.r
 have hn := hc.n
 have C1 := a2R c I (by omega) (by omega) hi1 hi2
 have C2 := a2R c O (by omega) (by omega) ho1 ho2
 simp only [Code.av] at C1 C2
 by_cases g1 : cI c.r9 I ∧ I.length = c.b.length
 · by_cases g2 : cI c.r9 O ∧ O.length = c.b.length
   · rw [wE g1.1, g1.2, decide_eq_true rfl] at C1
     rw [wE g2.1, g2.2, decide_eq_true rfl] at C2
     have C3 := pB c hc.succ (by omega)
     simp only [Code.av] at C3
     refine Zf Tryd.func16 Tryd.ntmps16 ?_; simp only [Code.av]
     repeat' (first | refine Za ?_ | (with_reducible first | refine Zz.mk fun N hN mk hmk => ?_ | refine Zb.mk fun N hN => ?_ | refine Zi.mk fun h => ?_ | refine ⟨fun h => ?_, fun h => ?_⟩ | exact True.intro) | refine Zc C1 ?_ | refine Zc C2 ?_ | refine Zc C3 ?_ | (refine hN _ ?_; clear hN N) | (refine Zk hmk ?_; clear hmk mk) | refine Zt b6k.d ?_ | fail)
     refine M5 (fun b => ⟨[.dead, .dead, .ptr 0 0 0, .dead, .dead, .b7 false (X1 I), .dead, .b7 false (X1 O), .dead, .dead, .dead, .dead, .dead, .dead, .dead, .dead, .dead, .dead, .dead, .dead, .dead, .dead, .dead, .dead, .dead, .dead, .dead, .dead, .dead, .dead, .dead, .dead, .b7 false (H0 (reachF c.b)), .v (.int .i64 c.b.length), .v (.int .i64 b), .dead, .dead, .dead, .dead, .dead, .dead, .dead, .dead, .dead, .dead, .dead, .dead, .dead, .dead, .dead, .dead, .dead, .dead, .dead, .dead, .dead, .dead, .dead, .dead, .dead, .dead, .dead, .dead, .dead, .dead, .dead, .dead, .dead, .dead, .dead, .dead, .dead, .dead, .dead, .dead, .dead, .dead, .dead, .dead, .dead, .dead, .dead, .dead], [(0, .live ⟨8, [[.v (.int .i64 c.group), .v (.int .i64 c.sub), .v (.int .i64 c.r9), .v (.int .i64 c.L3), .v (.int .i64 c.params), .b7 false (Q5 c.D7), .b7 false (loops c.loops), .b7 false (E0 c.b)]], 0⟩)], 1⟩) (fun ii => Go.Ab.Z7 ((fun (b : Nat) => ∀ k : Nat, k < b → fF c.b (k : Int) → a4Z c I O k) ii)) c.b.length (Zw [2,5,7,32,33,34] [0] b6k.d ?_) ?_ ?_
     · simp only [L4, M8]; rfl
     · exact ⟨fun k hk => by omega⟩
     · intro b hb hF
       have hF := hF.out
       dsimp only
       by_cases hlt : b < c.b.length
       · obtain ⟨B, hB⟩ : ∃ B, B = F3 c.b b := ⟨_, rfl⟩
         have hB' : c.b.getD b B0 = B := hB.symm
         have hrl := M8 c.b
         have hgt := hc.b0G hlt
         have hgi := hc.b2F hlt
         have hbl := (hc.tH hlt).l
         have hto := (hc.tH hlt).t.succ
         rw [← hB] at hgt hgi hbl hto
         have hsi := eZ g1.1 (by omega)
         have hso := eZ g2.1 (by omega)
         have K1 := tN B.t I (by rw [g1.2]; exact hto) (by omega) hsi hgt.1 hgt.2
         have K2 := gP (I7 B.t I) (O.getD b []) (vS hsi hgt.2) (hso b).1
         have K3 := tK B (O.getD b []) 0 (by omega) (by omega) (hso b).1 (hso b).2 hgi
         have K4 := gP (eE B (O.getD b []) 0) (I.getD b []) (vR (hso b).1 hgi) (hsi b).1
         simp only [c5.av, u2.av, List.cons_append, List.nil_append] at K1 K3
         have m1 : ((D0 (q9 (I7 B.t I) (O.getD b [])) : Int) = (D0 (O.getD b []) : Int)) = (q9 (I7 B.t I) (O.getD b []) = O.getD b []) := a1d ((vS hsi hgt.2).union (hso b).1) (hso b).1 (U7 V6) (hso b).2
         have m2 : ((D0 (q9 (eE B (O.getD b []) 0) (I.getD b [])) : Int) = (D0 (I.getD b []) : Int)) = (q9 (eE B (O.getD b []) 0) (I.getD b []) = I.getD b []) := a1d ((vR (hso b).1 hgi).union (hsi b).1) (hsi b).1 (U7 (cZ (hso b).2)) (hsi b).2
         have hck : a4Z c I O b ↔ q9 (I7 B.t I) (O.getD b []) = O.getD b [] ∧ q9 (eE B (O.getD b []) 0) (I.getD b []) = I.getD b [] := by rw [hB]; rfl
         have hra := T8 c.b hlt
         repeat' (first | refine Za ?_ | (with_reducible first | refine Zz.mk fun N hN mk hmk => ?_ | refine Zb.mk fun N hN => ?_ | refine Zi.mk fun h => ?_ | refine ⟨fun h => ?_, fun h => ?_⟩ | exact True.intro) | refine Zc K1 ?_ | refine Zc K2 ?_ | refine Zc K3 ?_ | refine Zc K4 ?_ | (refine hN _ ?_; clear hN N) | (refine Zk hmk ?_; clear hmk mk) | refine Zt (Zq b41.d (Zq m1 (Zq m2 (Zq hB' (Zq hrl (Zq g1.2 g2.2)))))) ?_ | fail)
         · rw [aZ fun hh => ‹¬q9 (I7 B.t I) (O.getD b []) = O.getD b []› (hck.1 (hh.2.2 b hlt (hra.1 ‹_›))).1]
         · rw [aZ fun hh => ‹¬q9 (eE B (O.getD b []) 0) (I.getD b []) = I.getD b []› (hck.1 (hh.2.2 b hlt (hra.1 ‹_›))).2]
         · refine ⟨⟨fun k hk hrk => ?_⟩, ?_⟩
           · rcases Nat.lt_succ_iff_lt_or_eq.1 hk with h1 | rfl
             · exact hF k h1 hrk
             · exact hck.2 ⟨Decidable.not_not.1 ‹_›, Decidable.not_not.1 ‹_›⟩
           · refine Zw [2,5,7,32,33,34] [0] (Zq b41.d (Zq m1 (Zq m2 (Zq hB' (Zq hrl (Zq g1.2 g2.2)))))) ?_
             rfl
         · refine ⟨⟨fun k hk hrk => ?_⟩, ?_⟩
           · rcases Nat.lt_succ_iff_lt_or_eq.1 hk with h1 | rfl
             · exact hF k h1 hrk
             · have := hra.2 hrk; simp_all
           · refine Zw [2,5,7,32,33,34] [0] (Zq b41.d (Zq m1 (Zq m2 (Zq hB' (Zq hrl (Zq g1.2 g2.2)))))) ?_
             rfl
       · obtain rfl : b = c.b.length := by omega
         rw [kK ⟨g1, g2, hF⟩]
         repeat' (first | refine Za ?_ | (with_reducible first | refine Zz.mk fun N hN mk hmk => ?_ | refine Zb.mk fun N hN => ?_ | refine Zi.mk fun h => ?_ | refine ⟨fun h => ?_, fun h => ?_⟩ | exact True.intro) | (refine hN _ ?_; clear hN N) | (refine Zk hmk ?_; clear hmk mk) | refine Zt aY.d ?_ | fail)
   · rw [aZ fun h => g2 h.2.1]
     obtain ⟨S1, f1, e1, q1⟩ := oJ c I
     obtain ⟨S2, f2, e2, q2⟩ := oJ c O
     obtain rfl : f2 = false := by cases f2 <;> simp_all
     rw [e1] at C1
     rw [e2] at C2
     refine Zf Tryd.func16 Tryd.ntmps16 ?_; simp only [Code.av]
     cases f1
     · repeat' (first | refine Za ?_ | (with_reducible first | refine Zz.mk fun N hN mk hmk => ?_ | refine Zb.mk fun N hN => ?_ | refine Zi.mk fun h => ?_ | refine ⟨fun h => ?_, fun h => ?_⟩ | exact True.intro) | refine Zc C1 ?_ | refine Zc C2 ?_ | (refine hN _ ?_; clear hN N) | (refine Zk hmk ?_; clear hmk mk) | refine Zt aY.d ?_ | fail)
     · repeat' (first | refine Za ?_ | (with_reducible first | refine Zz.mk fun N hN mk hmk => ?_ | refine Zb.mk fun N hN => ?_ | refine Zi.mk fun h => ?_ | refine ⟨fun h => ?_, fun h => ?_⟩ | exact True.intro) | refine Zc C1 ?_ | refine Zc C2 ?_ | (refine hN _ ?_; clear hN N) | (refine Zk hmk ?_; clear hmk mk) | refine Zt aY.d ?_ | fail)
 · rw [aZ fun h => g1 h.1]
   obtain ⟨S1, f1, e1, q1⟩ := oJ c I
   obtain ⟨S2, f2, e2, q2⟩ := oJ c O
   obtain rfl : f1 = false := by cases f1 <;> simp_all
   rw [e1] at C1
   rw [e2] at C2
   refine Zf Tryd.func16 Tryd.ntmps16 ?_; simp only [Code.av]
   repeat' (first | refine Za ?_ | (with_reducible first | refine Zz.mk fun N hN mk hmk => ?_ | refine Zb.mk fun N hN => ?_ | refine Zi.mk fun h => ?_ | refine ⟨fun h => ?_, fun h => ?_⟩ | exact True.intro) | refine Zc C1 ?_ | refine Zc C2 ?_ | (refine hN _ ?_; clear hN N) | (refine Zk hmk ?_; clear hmk mk) | refine Zt aY.d ?_ | fail)
theorem a1k {l : List Int} (h : Y9 l) (sl : K8 l) : l.length ≤ 1000 := by
 have : ∀ (n : Nat) (l : List Int), K8 l → (∀ x ∈ l, 64 - (n : Int) ≤ x ∧ x < 64) → l.length ≤ n := by
   intro n
   induction n with
   | zero => intro l _ h; cases l with
     | nil => simp
     | cons x l => have := h x (by simp); omega
   | succ n ih =>
     intro l sl h
     cases l with
     | nil => simp
     | cons x l =>
       obtain ⟨s1, s2⟩ := List.pairwise_cons.1 sl
       have := ih l s2 fun y hy => by
         have h1 := s1 y hy
         have h2 := h x (by simp)
         have h3 := h y (by simp [hy])
         omega
       simp; omega
 have := this 64 l sl fun x hx => by have := h x hx; omega
 omega
def atR (c : Code) (O : List (List Int)) (b i : Int) : List Int := if b < 0 ∨ c.b.length ≤ b ∨ i < 0 ∨ (F3 c.b b.toNat).i.length < i then [] else eE (F3 c.b b.toNat) (O.getD b.toNat []) i.toNat
def b6l := ZZ.mk (Zq @Code.av.eq_1 (Zq @F5.eq_1 (Zq @List.cons_append.{0} (Zq @List.nil_append.{0} (Zq @u2.av.eq_1 (Zq @c5.av.eq_1 (Zq @s8 (Zq @z8 (Zq @H4 (Zq @s7 (Zq @m6 (Zq @b8 (Zq @F7 (Zq @zK (Zq @L9 (Zq @c9 (Zq @b5 @b6)))))))))))))))))
def b7d := ZZ.mk (Zq @Code.av.eq_1 (Zq @F5.eq_1 (Zq @List.cons_append.{0} (Zq @List.nil_append.{0} (Zq @u2.av.eq_1 (Zq @c5.av.eq_1 (Zq @s8 (Zq @z8 (Zq @H4 (Zq @s7 (Zq @b8 (Zq @F7 (Zq @L9 (Zq @c9 (Zq @b5 @b6)))))))))))))))
theorem a4Q (c : Code) (I O : List (List Int)) (b i : Int) (hc : z6 c) (hol : O.length = c.b.length) (hso : xM O) (hlo : ∀ i, (O.getD i []).length ≤ 1000) :
   e8 Tryd.prog 21 [.agg c.av, .agg [.b7 false (lists I), .b7 false (lists O)], .v (.int .i64 b), .v (.int .i64 i)] (fun _ => .b7 false (e7 (atR c O b i))) (fun _ => []) := by
 have hr := hc.r
 have hn := hc.n
 by_cases h : 0 ≤ b ∧ b < c.b.length
 · obtain ⟨B, hB⟩ : ∃ B, B = F3 c.b b.toNat := ⟨_, rfl⟩
   have hlt : b.toNat < c.b.length := by omega
   have hB' : c.b.getD b.toNat B0 = B := hB.symm
   have hgi := hc.b2F hlt
   have hbl := (hc.tH hlt).l
   rw [← hB] at hgi hbl
   have K1 := lV (O.getD b.toNat []) (hso _).1 (by have := hlo b.toNat; omega)
   rw [iJ (hso _).2] at K1
   by_cases h2 : 0 ≤ i ∧ i ≤ B.i.length
   · have K3 := tK B (O.getD b.toNat []) i.toNat (by omega) (by omega) (hso _).1 (hso _).2 hgi
     have K4 := tM (eE B (O.getD b.toNat []) i.toNat) (vR (hso _).1 hgi) (cZ (hso _).2) (a1k (vR (hso _).1 hgi) (cZ (hso _).2))
     rw [show ((i.toNat : Nat) : Int) = i by omega] at K3
     have e : atR c O b i = eE B (O.getD b.toNat []) i.toNat := by unfold atR; rw [if_neg (by rw [← hB]; omega), ← hB]
     rw [e]
     simp only [c5.av, u2.av, List.cons_append, List.nil_append] at K3
     refine Zf Tryd.func21 Tryd.ntmps21 ?_; simp only [Code.av]
     repeat' (first | refine Za ?_ | (with_reducible first | refine Zz.mk fun N hN mk hmk => ?_ | refine Zb.mk fun N hN => ?_ | refine Zi.mk fun h => ?_ | refine ⟨fun h => ?_, fun h => ?_⟩ | exact True.intro) | refine Zc K1 ?_ | refine Zc K3 ?_ | refine Zc K4 ?_ | (refine hN _ ?_; clear hN N) | (refine Zk hmk ?_; clear hmk mk) | refine Zt (Zq b6l.d (Zq hB' hol)) ?_ | fail)
     all_goals first | rfl | (exfalso; omega)
   · have e : atR c O b i = [] := by unfold atR; rw [if_pos (by rw [← hB]; omega)]
     rw [e]
     refine Zf Tryd.func21 Tryd.ntmps21 ?_; simp only [Code.av]
     repeat' (first | refine Za ?_ | (with_reducible first | refine Zz.mk fun N hN mk hmk => ?_ | refine Zb.mk fun N hN => ?_ | refine Zi.mk fun h => ?_ | refine ⟨fun h => ?_, fun h => ?_⟩ | exact True.intro) | (refine hN _ ?_; clear hN N) | (refine Zk hmk ?_; clear hmk mk) | refine Zt (Zq b6l.d (Zq hB' hol)) ?_ | fail)
     all_goals first | rfl | (exfalso; omega)
 · have e : atR c O b i = [] := by unfold atR; rw [if_pos (by omega)]
   rw [e]
   refine Zf Tryd.func21 Tryd.ntmps21 ?_; simp only [Code.av]
   repeat' (first | refine Za ?_ | (with_reducible first | refine Zz.mk fun N hN mk hmk => ?_ | refine Zb.mk fun N hN => ?_ | refine Zi.mk fun h => ?_ | refine ⟨fun h => ?_, fun h => ?_⟩ | exact True.intro) | (refine hN _ ?_; clear hN N) | (refine Zk hmk ?_; clear hmk mk) | refine Zt (Zq b7d.d hol) ?_ | fail)
   all_goals first | rfl | (exfalso; omega)
def RB (r : Int) (l : List Int) : Prop := ∀ x ∈ l, 0 ≤ x ∧ x < r
theorem RB.nil {r : Int} : RB r [] := by intro x hx; simp at hx
theorem RB.union {r : Int} {a b : List Int} (h : RB r a) (hb : RB r b) : RB r (q9 a b) := fun x hx => by
 rcases K5.1 hx with hx | hx
 · exact h x hx
 · exact hb x hx
theorem RB.dG {r : Int} {l : List Int} (h : RB r l) {n : Int} : RB r (l8 l n) := fun x hx => h x (T7.1 hx).1
theorem RB.with {r : Int} {l : List Int} (h : RB r l) {n : Int} (hn : n < r) : RB r (U2 l n) := fun x hx => by
 rcases jS.1 hx with ⟨h1, rfl⟩ | hx
 · exact ⟨h1, hn⟩
 · exact h x hx
theorem RB.r64 {r : Int} {l : List Int} (h : RB r l) (hr : r ≤ 64) : Y9 l := fun x hx => by have := h x hx; omega
theorem RB.len {r : Int} {l : List Int} (h : RB r l) (sl : K8 l) (hr : r ≤ 64) : l.length ≤ 1000 := a1k (h.r64 hr) sl
theorem a93 {r : Int} {L : List j9} (hg : ∀ x, O8 (L.getD x I0) < r ∧ RB r (M4 (L.getD x I0))) : ∀ {out : List Int}, RB r out → K8 out → ∀ pre : List Nat, RB r (cM L out pre) ∧ K8 (cM L out pre) := by
 intro out ho so pre
 induction pre generalizing out with
 | nil => exact ⟨ho, so⟩
 | cons x pre ih => exact ih (RB.union ho.dG (hg x).2) (dA so)
theorem a7C {r : Int} {L : List j9} (hr : 0 ≤ r) (h : ∀ x ∈ L, O8 x < r ∧ RB r (M4 x)) (x : Nat) : O8 (L.getD x I0) < r ∧ RB r (M4 (L.getD x I0)) := by
 by_cases hx : x < L.length
 · rw [List.getD_eq_getElem?_getD, List.getElem?_eq_getElem hx]; exact h _ (List.getElem_mem hx)
 · rw [List.getD_eq_getElem?_getD, List.getElem?_eq_none (by omega)]
   exact ⟨by show (-1 : Int) < r; omega, RB.nil⟩
theorem z6.rb {c : Code} (h : z6 c) {b : Nat} (hb : b < c.b.length) : ∀ x ∈ (F3 c.b b).i, O8 x < c.r9 ∧ RB c.r9 (M4 x) := fun x hx => by
 have h1 := (h.tH hb).i x hx
 exact ⟨(rZ h1.d h.r.1).2, zZ h1⟩
theorem z6.rbT {c : Code} (h : z6 c) {b : Nat} (hb : b < c.b.length) : P8 (F3 c.b b).t < c.r9 ∧ RB c.r9 (bA (F3 c.b b).t) := by
 have h1 := (h.tH hb).t
 exact ⟨(rZ h1.d h.r.1).2, a0B h1⟩
theorem N8 {r : Int} {L : List (List Int)} (h : cI r L) (z : Nat) : RB r (L.getD z []) ∧ K8 (L.getD z []) := by
 by_cases hz : z < L.length
 · exact ⟨b1r (h z hz), a1j (h z hz)⟩
 · rw [List.getD_eq_getElem?_getD, List.getElem?_eq_none (by omega)]
   exact ⟨RB.nil, K8.nil⟩
def mx (x y : Int) : Int := if x < y then y else x
def a5M (p : Int × List Int) (y : j9) : Int × List Int := (mx p.1 (U2 p.2 (O8 y)).length, D4 y p.2)
def lG (L : List j9) (m : Int) (out : List Int) (pre : List Nat) : Int × List Int := pre.foldl (fun p i => a5M p (L.getD i I0)) (m, out)
theorem a0n (L : List j9) (m : Int) (out : List Int) (pre : List Nat) (x : Nat) : lG L m out (pre ++ [x]) = a5M (lG L m out pre) (L.getD x I0) := by
 unfold lG; rw [List.foldl_append]; rfl
theorem a3W (L : List j9) (out : List Int) (pre : List Nat) : ∀ (m : Int), (lG L m out pre).2 = cM L out pre := by
 induction pre generalizing out with
 | nil => intro m; rfl
 | cons x pre ih => intro m; exact ih _ _
def prT (I : List (List Int)) (t : u2) (m : Int) : Int := if 0 ≤ P8 t then mx m (U2 (I.getD t.t0.toNat []) (P8 t)).length else m
def prB (I O : List (List Int)) (B : c5) (b : Nat) (m : Int) : Int := prT I B.t (lG B.i (mx (mx m (I.getD b []).length) (O.getD b []).length) (O.getD b []) (L7 B.i.length B.i.length)).1
noncomputable def prF (c : Code) (I O : List (List Int)) : Nat → Int
 | 0 => 0
 | b + 1 => if (reachF c.b).getD b false = true then prB I O (F3 c.b b) b (prF c I O b) else prF c I O b
def fN := ZZ.mk (Zq @F5.eq_1 (Zq @s8 (Zq @z8 (Zq @H4 (Zq @s7 (Zq @u7 (Zq @c5.av.eq_1 (Zq @u2.av.eq_1 (Zq @List.cons_append.{0} (Zq @List.nil_append.{0} (Zq @L4 (Zq @M6 (Zq @aM (Zq @E6 (Zq @F8 (Zq @b8 (Zq @F7 (Zq @L9 (Zq @c9 (Zq @b5 @b6))))))))))))))))))))
theorem cD (c : Code) (I O : List (List Int)) (hc : z6 c) (hr12 : c.r9 ≤ 12) (hi : cI c.r9 I) (ho : cI c.r9 O) (hil : I.length = c.b.length) (hol : O.length = c.b.length) :
   e8 Tryd.prog 18 [.agg c.av, .agg [.b7 false (lists I), .b7 false (lists O)]] (fun _ => .v (.int .i64 (prF c I O c.b.length))) (fun _ => []) := by
 have hr := hc.r
 have hn := hc.n
 have hrl := M8 c.b
 have C3 := pB c hc.succ (by omega)
 simp only [Code.av] at C3
 refine Zf Tryd.func18 Tryd.ntmps18 ?_; simp only [Code.av]
 repeat' (first | refine Za ?_ | (with_reducible first | refine Zz.mk fun N hN mk hmk => ?_ | refine Zb.mk fun N hN => ?_ | refine Zi.mk fun h => ?_ | refine ⟨fun h => ?_, fun h => ?_⟩ | exact True.intro) | refine Zc C3 ?_ | (refine hN _ ?_; clear hN N) | (refine Zk hmk ?_; clear hmk mk) | refine Zt aY.d ?_ | fail)
 refine l9 (fun b => ⟨[.dead, .dead, .ptr 0 0 0, .ptr 1 0 0, .dead, .ptr 2 0 0, .dead, .dead, .dead, .dead, .dead, .dead, .dead, .b7 false (H0 (reachF c.b)), .v (.int .i64 c.b.length), .v (.int .i64 b), .dead, .dead, .dead, .dead, .dead, .dead, .dead, .dead, .dead, .dead, .dead, .dead, .dead, .dead, .dead, .dead, .dead, .dead, .dead, .dead, .dead, .dead, .dead, .dead, .dead, .dead, .dead, .dead, .dead, .dead, .dead, .dead, .dead, .dead, .dead, .dead, .dead, .dead, .dead, .dead, .dead, .dead, .dead, .dead, .dead, .dead, .dead, .dead, .dead, .dead, .dead, .dead, .dead, .dead, .dead, .dead, .dead, .dead, .dead, .dead, .dead, .dead, .dead, .dead, .dead, .dead], [(0, .live ⟨8, [[.v (.int .i64 c.group), .v (.int .i64 c.sub), .v (.int .i64 c.r9), .v (.int .i64 c.L3), .v (.int .i64 c.params), .b7 false (Q5 c.D7), .b7 false (loops c.loops), .b7 false (E0 c.b)]], 0⟩), (1, .live ⟨2, [[.b7 false (lists I), .b7 false (lists O)]], 0⟩), (2, .live ⟨1, [[.v (.int .i64 (prF c I O b))]], 0⟩)], 3⟩) c.b.length (Zw [2,3,5,13,14,15] [0, 8, 24] aY.d ?_) ?_
 · simp only [L4, M8]; rfl
 · intro b hb
   dsimp only
   by_cases hlt : b < c.b.length
   · obtain ⟨B, hB⟩ : ∃ B, B = F3 c.b b := ⟨_, rfl⟩
     have hB' : c.b.getD b B0 = B := hB.symm
     have hgt := hc.rbT hlt
     have hgi := hc.rb hlt
     have hbl := (hc.tH hlt).l
     have hto := (hc.tH hlt).t.succ
     rw [← hB] at hgt hgi hbl hto
     obtain ⟨i1, i2⟩ := N8 hi b
     obtain ⟨o1, o2⟩ := N8 ho b
     have K1 := lV (O.getD b []) (o1.r64 (by omega)) (by have := o1.len o2 (by omega); omega)
     rw [iJ o2] at K1
     have K2 := tP (O.getD b []) (fun x hx => by have := o1 x hx; omega) o2 (o1.len o2 (by omega))
     have K3 := b3H B.i
     have ilen := i1.len i2 (by omega)
     have olen := o1.len o2 (by omega)
     repeat' (first | refine Za ?_ | (with_reducible first | refine Zz.mk fun N hN mk hmk => ?_ | refine Zb.mk fun N hN => ?_ | refine Zi.mk fun h => ?_ | refine ⟨fun h => ?_, fun h => ?_⟩ | exact True.intro) | refine Zc K1 ?_ | refine Zc K2 ?_ | (refine Y5 K3 ?_ rfl ?_ ?_; (next => (simp (disch := omega) only [fN.d, hB', hrl, hil, hol, D8, Nat.reduceBEq, AV.plain, Nat.reduceAdd, Nat.reduceLeDiff, Nat.reduceLT, ↓reduceIte, sF] <;> first | done | rfl)); (next => (simp only [apply_ite List.length, List.length_cons, List.length_nil] <;> (try split) <;> omega))) | (refine V5 K3 ?_ rfl ?_ ?_; (next => (simp (disch := omega) only [fN.d, hB', hrl, hil, hol, D8, Nat.reduceBEq, AV.plain, Nat.reduceAdd, Nat.reduceLeDiff, Nat.reduceLT, ↓reduceIte, sF] <;> first | done | rfl)); (next => (simp only [apply_ite List.length, List.length_cons, List.length_nil] <;> (try split) <;> omega))) | (refine hN _ ?_; clear hN N) | (refine Zk hmk ?_; clear hmk mk) | refine Zt (Zq fN.d (Zq hB' (Zq hrl (Zq hil hol)))) ?_ | fail)
     · refine Zw [2,3,5,13,14,15] [0, 1, 2] (Zq fN.d (Zq hB' (Zq hrl (Zq hil hol)))) ?_
       rw [show prF c I O (b + 1) = prF c I O b from by show (if _ then _ else _) = _; rw [if_neg (by simp_all)]]
       rfl
     · refine oU 44 (y := .fn 72 [.aP [[.b7 false (p8 B.i)]] 0 0]) (by simp (maxSteps := 10000000) (disch := omega) only [fN.d, hB', hrl, hil, hol, r7, Z3, A2, H3, x9, u6, AV.kept, l7, n6, A3, I6, y7, x5, Go.MapKept.IsKey, r8, B8, AV.plain, rd, D8, a8, Z2, w6, AV.j8, AV.aS, AV.I5, AV.V7, AV.scalar, bC, y8, H6, H9, I3, H8, x4, H5, bD, y9, H7, G9, m9, bB, o9, F2, F1, Z8, F9, o6, TD.isRow, A1, n8, o8, n4, L8, Value.oneCell', ↓reduceIte, Int.reduceNe, Int.reduceEq, Nat.reduceAdd, Nat.reduceLT, Nat.reduceLeDiff, Nat.reduceSub, Nat.reduceMul, Nat.reduceBEq, Nat.reduceEqDiff, reduceCtorEq, Int.reduceToNat, ← decide_not, ← Bool.decide_and, sA, sN] <;> first | done | rfl) rfl ?_; simp (maxSteps := 10000000) (disch := omega) only [a8, n6, A9, fN.d, hB', hrl, hil, hol, r7, Z3, A2, H3, x9, u6, AV.kept, l7, n6, A3, I6, y7, x5, Go.MapKept.IsKey, r8, B8, AV.plain, rd, D8, a8, Z2, w6, AV.j8, AV.aS, AV.I5, AV.V7, AV.scalar, bC, y8, H6, H9, I3, H8, x4, H5, bD, y9, H7, G9, m9, bB, o9, F2, F1, Z8, F9, o6, TD.isRow, A1, n8, o8, n4, L8, Value.oneCell', ↓reduceIte, Int.reduceNe, Int.reduceEq, Nat.reduceAdd, Nat.reduceLT, Nat.reduceLeDiff, Nat.reduceSub, Nat.reduceMul, Nat.reduceBEq, Nat.reduceEqDiff, reduceCtorEq, Int.reduceToNat, ← decide_not, ← Bool.decide_and, sA, sN]
       have hpr : prF c I O (b + 1) = prB I O B b (prF c I O b) := by rw [hB]; show (if _ then _ else _) = _; rw [if_pos (by simp_all)]
       have hg := a7C hr.1 hgi
       have htt : 0 ≤ P8 B.t → 0 ≤ B.t.t0 ∧ B.t.t0 < c.b.length := fun h => by
         have hb0 := (hc.tH hlt).t
         rw [← hB] at hb0
         have hk : B.t.d.k = 2 := by
           apply Classical.byContradiction
           intro hk
           have : P8 B.t = -1 := by show (if _ then _ else _) = _; rw [if_neg hk]
           omega
         exact hb0.to (hb0.dk hk)
       refine a6P rfl B.i (fun pre => ⟨[.dead, .dead, .ptr 0 0 0, .ptr 1 0 0, .dead, .ptr 2 0 0, .v (.int .i64 b), .dead, .ptr 3 0 0, .dead, .dead, .dead, .dead, .b7 false (H0 (reachF c.b)), .v (.int .i64 c.b.length), .v (.int .i64 b), .dead, .dead, .dead, .dead, .dead, .dead, .dead, .dead, .dead, .dead, .dead, .dead, .dead, .dead, .dead, .dead, .dead, .dead, .dead, .dead, .dead, .dead, .dead, .dead, .dead, .dead, .dead, .dead, .fn 72 [.aP [[.b7 false (p8 B.i)]] 0 0], .dead, .dead, .dead, .dead, .dead, .dead, .dead, .dead, .dead, .dead, .dead, .dead, .dead, .dead, .dead, .dead, .dead, .dead, .dead, .dead, .dead, .dead, .dead, .dead, .dead, .dead, .dead, .dead, .dead, .dead, .dead, .dead, .dead, .dead, .dead, .dead, .dead], [(0, .live ⟨8, [[.v (.int .i64 c.group), .v (.int .i64 c.sub), .v (.int .i64 c.r9), .v (.int .i64 c.L3), .v (.int .i64 c.params), .b7 false (Q5 c.D7), .b7 false (loops c.loops), .b7 false (E0 c.b)]], 0⟩), (1, .live ⟨2, [[.b7 false (lists I), .b7 false (lists O)]], 0⟩), (2, .live ⟨1, [[.v (.int .i64 (lG B.i (mx (mx (prF c I O b) (I.getD b []).length) (O.getD b []).length) (O.getD b []) pre).1)]], 0⟩), (3, .live ⟨4, [[.v (.int .u64 (D0 (cM B.i (O.getD b []) pre))), .v (.int .u64 0), .v (.int .u64 0), .v (.int .u64 0)]], 0⟩)], 4⟩) 7 [2, 3, 5, 8] (by omega) rfl (Zw [2, 3, 5, 6, 8, 13, 14, 15, 44] [0, 1, 2, 115] (Zq fN.d (Zq hB' (Zq hrl (Zq hil hol)))) rfl) (fun _ => ⟨by simp, by simp⟩) (fun _ => rfl) (fun _ => by simp [l7]) (fun pre x hlx => ?_) ?_
       · obtain ⟨h1, h2⟩ := a93 hg o1 o2 pre
         have hgx := hg x
         have hsn := a0n B.i (mx (mx (prF c I O b) (I.getD b []).length) (O.getD b []).length) (O.getD b []) pre x
         have hsd := a3W B.i (O.getD b []) pre (mx (mx (prF c I O b) (I.getD b []).length) (O.getD b []).length)
         have hbs := tG B.i (O.getD b []) pre x
         have J1 := a6X (B.i.getD x I0)
         have J2 := tR (cM B.i (O.getD b []) pre) (O8 (B.i.getD x I0)) (h1.r64 (by omega)) (by omega)
         have h3 : RB c.r9 (U2 (cM B.i (O.getD b []) pre) (O8 (B.i.getD x I0))) := h1.with hgx.1
         have h4 := dS h2 (O8 (B.i.getD x I0))
         have J3 := tP (U2 (cM B.i (O.getD b []) pre) (O8 (B.i.getD x I0))) (fun z hz => by have := h3 z hz; omega) h4 (h3.len h4 (by omega))
         have h5 := h3.len h4 (by omega)
         have J4 := tL (B.i.getD x I0) (cM B.i (O.getD b []) pre) (h1.r64 (by omega)) h2 (by omega) (hgx.2.r64 (by omega))
         rw [← hbs] at J4
         generalize B.i.getD x I0 = y at *
         simp only [j9.av, F5] at J1 J2 J3 J4
         simp only [b1O, LS.tf, List.map_cons, List.map_nil, j9.av]
         repeat' (first | refine Za ?_ | (with_reducible first | refine Zz.mk fun N hN mk hmk => ?_ | refine Zb.mk fun N hN => ?_ | refine Zi.mk fun h => ?_ | refine ⟨fun h => ?_, fun h => ?_⟩ | exact True.intro) | (refine hN _ ?_; clear hN N) | (refine Zk hmk ?_; clear hmk mk) | refine Zs (Zq fN.d (Zq hB' (Zq hrl (Zq hil hol)))) ?_ | fail)
         refine ⟨rfl, ?_⟩
         repeat' (first | refine Za ?_ | (with_reducible first | refine Zz.mk fun N hN mk hmk => ?_ | refine Zb.mk fun N hN => ?_ | refine Zi.mk fun h => ?_ | refine ⟨fun h => ?_, fun h => ?_⟩ | exact True.intro) | refine Zc J1 ?_ | refine Zc J2 ?_ | refine Zc J3 ?_ | refine Zc J4 ?_ | (refine hN _ ?_; clear hN N) | (refine Zk hmk ?_; clear hmk mk) | refine Zs (Zq fN.d (Zq hB' (Zq hrl (Zq hil hol)))) ?_ | fail)
         refine a7G 4 rfl ?_ ?_ ?_
         · simp [l7, D5]
         · rfl
         · refine fX (keep := [2, 3, 5, 6, 8, 13, 14, 15, 44]) (ids := [0, 1, 2, 3]) (s' := _) (by simp only [D5, u6, Z4, AV.kept, List.map_cons, List.map_nil, List.all_cons, List.all_nil, if_true, if_false, Nat.reduceEqDiff, LS.tf, fN.d, hB', hrl, hil, hol, c7, n3, a7, e6, m8, A6, AV.plain, Nat.reduceBEq, ↓reduceIte, Nat.reduceEqDiff, Nat.reduceAdd, sC]; rfl) ?_
           rw [hsn]
           simp only [a5M, hsd]
           rfl
       · rw [hpr]
         have J1 := a2Q B.t
         by_cases hd : 0 ≤ P8 B.t
         · obtain ⟨t1, t2⟩ := htt hd
           obtain ⟨q1, q2⟩ := N8 hi B.t.t0.toNat
           have J2 := lV (I.getD B.t.t0.toNat []) (q1.r64 (by omega)) (by have := q1.len q2 (by omega); omega)
           rw [iJ q2] at J2
           have J3 := tR (I.getD B.t.t0.toNat []) (P8 B.t) (q1.r64 (by omega)) (by omega)
           have h3 : RB c.r9 (U2 (I.getD B.t.t0.toNat []) (P8 B.t)) := q1.with hgt.1
           have h4 := dS q2 (P8 B.t)
           have h5 := h3.len h4 (by omega)
           have J4 := tP (U2 (I.getD B.t.t0.toNat []) (P8 B.t)) (fun z hz => by have := h3 z hz; omega) h4 h5
           have e : ∀ m, prT I B.t m = mx m (U2 (I.getD B.t.t0.toNat []) (P8 B.t)).length := fun m => by unfold prT; rw [if_pos hd]
           unfold prB
           rw [e]
           simp only [u2.av, F5] at J1 J2 J3 J4
           repeat' (first | refine Za ?_ | (with_reducible first | refine Zz.mk fun N hN mk hmk => ?_ | refine Zb.mk fun N hN => ?_ | refine Zi.mk fun h => ?_ | refine ⟨fun h => ?_, fun h => ?_⟩ | exact True.intro) | refine Zc J1 ?_ | refine Zc J2 ?_ | refine Zc J3 ?_ | refine Zc J4 ?_ | (refine hN _ ?_; clear hN N) | (refine Zk hmk ?_; clear hmk mk) | refine Zt (Zq fN.d (Zq hB' (Zq hrl (Zq hil hol)))) ?_ | fail)
           refine Zw [2,3,5,13,14,15] [0, 1, 2] (Zq fN.d (Zq hB' (Zq hrl (Zq hil hol)))) ?_
           rfl
         · have e : ∀ m, prT I B.t m = m := fun m => by unfold prT; rw [if_neg hd]
           unfold prB
           rw [e]
           simp only [u2.av, F5] at J1
           repeat' (first | refine Za ?_ | (with_reducible first | refine Zz.mk fun N hN mk hmk => ?_ | refine Zb.mk fun N hN => ?_ | refine Zi.mk fun h => ?_ | refine ⟨fun h => ?_, fun h => ?_⟩ | exact True.intro) | refine Zc J1 ?_ | (refine hN _ ?_; clear hN N) | (refine Zk hmk ?_; clear hmk mk) | refine Zt (Zq fN.d (Zq hB' (Zq hrl (Zq hil hol)))) ?_ | fail)
           refine Zw [2,3,5,13,14,15] [0, 1, 2] (Zq fN.d (Zq hB' (Zq hrl (Zq hil hol)))) ?_
           rfl
   · obtain rfl : b = c.b.length := by omega
     repeat' (first | refine Za ?_ | (with_reducible first | refine Zz.mk fun N hN mk hmk => ?_ | refine Zb.mk fun N hN => ?_ | refine Zi.mk fun h => ?_ | refine ⟨fun h => ?_, fun h => ?_⟩ | exact True.intro) | (refine hN _ ?_; clear hN N) | (refine Zk hmk ?_; clear hmk mk) | refine Zt aY.d ?_ | fail)
def clo (c : Code) (I O : List (List Int)) : Prop := ∀ b, b < c.b.length → fF c.b (b : Int) →
 (∀ r ∈ I7 (F3 c.b b).t I, r ∈ O.getD b []) ∧ (∀ r ∈ eE (F3 c.b b) (O.getD b []) 0, r ∈ I.getD b [])
structure Snd (c : Code) (I O : List (List Int)) : Prop where
 i : ∀ b r, r ∈ I.getD b [] → fF c.b (b : Int) ∧ b < c.b.length ∧ ∀ I' O', clo c I' O' → r ∈ I'.getD b []
 o : ∀ b r, r ∈ O.getD b [] → fF c.b (b : Int) ∧ b < c.b.length ∧ ∀ I' O', clo c I' O' → r ∈ O'.getD b []
structure Shp (c : Code) (I O : List (List Int)) : Prop where
 li : I.length = c.b.length
 lo : O.length = c.b.length
 i : ∀ z, RB c.r9 (I.getD z []) ∧ K8 (I.getD z [])
 o : ∀ z, RB c.r9 (O.getD z []) ∧ K8 (O.getD z [])
structure Lst (c : Code) (I O : List (List Int)) : Prop where
 shp : Shp c I O
 snd : Snd c I O
 clo : clo c I O
theorem zR {a b : List (List Int)} (hl : a.length = b.length) (h : ∀ k, a.getD k [] = b.getD k []) : a = b := by
 apply List.ext_getElem hl
 intro k h1 h2
 have := h k
 rw [List.getD_eq_getElem?_getD, List.getD_eq_getElem?_getD, List.getElem?_eq_getElem h1, List.getElem?_eq_getElem h2] at this
 exact this
theorem Lst.unique {c : Code} {I O I' O' : List (List Int)} (h : Lst c I O) (h' : Lst c I' O') : I = I' ∧ O = O' := by
 constructor
 · refine zR (by rw [h.shp.li, h'.shp.li]) fun k => K8.ext (h.shp.i k).2 (h'.shp.i k).2 fun r => ⟨fun hr => (h.snd.i k r hr).2.2 _ _ h'.clo, fun hr => (h'.snd.i k r hr).2.2 _ _ h.clo⟩
 · refine zR (by rw [h.shp.lo, h'.shp.lo]) fun k => K8.ext (h.shp.o k).2 (h'.shp.o k).2 fun r => ⟨fun hr => (h.snd.o k r hr).2.2 _ _ h'.clo, fun hr => (h'.snd.o k r hr).2.2 _ _ h.clo⟩
noncomputable def liveF (c : Code) : List (List Int) × List (List Int) := haveI := Classical.propDecidable (∃ p : List (List Int) × List (List Int), Lst c p.1 p.2)
 if h : ∃ p : List (List Int) × List (List Int), Lst c p.1 p.2 then Classical.choose h else ([], [])
theorem b2U {c : Code} {I O : List (List Int)} (h : Lst c I O) : liveF c = (I, O) := by
 have hx : ∃ p : List (List Int) × List (List Int), Lst c p.1 p.2 := ⟨(I, O), h⟩
 have e : liveF c = Classical.choose hx := by unfold liveF; rw [dif_pos hx]
 have hs := Classical.choose_spec hx
 obtain ⟨h1, h2⟩ := hs.unique h
 rw [e]
 exact Prod.ext h1 h2
theorem z7 (l : List (List Int)) (k b : Nat) (v : List Int) : (l.set k v).getD b [] = if k = b ∧ b < l.length then v else l.getD b [] := by
 rw [List.getD_eq_getElem?_getD, List.getElem?_set, List.getD_eq_getElem?_getD]
 by_cases h : k = b
 · subst h
   by_cases h2 : k < l.length
   · simp [h2]
   · simp [h2]
 · simp [h]
def O4 (c : Code) (I : List (List Int)) (b : Nat) : List Int := I7 (F3 c.b b).t I
def O3 (c : Code) (I : List (List Int)) (b : Nat) : List Int := eE (F3 c.b b) (O4 c I b) 0
theorem a2N {r : Int} {b : c5} {out : List Int} (ho : RB r out) (hg : ∀ x ∈ b.i, O8 x < r ∧ RB r (M4 x)) (i : Nat) : RB r (eE b out i) := by
 unfold eE
 have : ∀ L : List j9, (∀ x ∈ L, O8 x < r ∧ RB r (M4 x)) → RB r (L.foldr D4 out) := by
   intro L
   induction L with
   | nil => intro _; exact ho
   | cons x L ih => intro hg; exact RB.union (ih fun y hy => hg y (by simp [hy])).dG (hg x (by simp)).2
 exact this _ fun x hx => hg x (List.mem_of_mem_drop hx)
theorem kV {c : Code} (hc : z6 c) {I O : List (List Int)} (h : Shp c I O) {b : Nat} (hb : b < c.b.length) : RB c.r9 (O4 c I b) := by
 intro x hx
 rcases eY.1 hx with ⟨⟨to, h1, h2⟩, _⟩ | h1
 · exact (h.i _).1 x h2
 · exact (hc.rbT hb).2 x h1
theorem Shp.set {c : Code} (hc : z6 c) {I O : List (List Int)} (h : Shp c I O) {b : Nat} (hb : b < c.b.length) : Shp c (I.set b (O3 c I b)) (O.set b (O4 c I b)) := by
 have hn := kV hc h hb
 have hs : K8 (O4 c I b) := V6
 refine ⟨by rw [List.length_set]; exact h.li, by rw [List.length_set]; exact h.lo, fun z => ?_, fun z => ?_⟩
 · rw [z7]; split
   · exact ⟨a2N hn (hc.rb hb) 0, cZ hs⟩
   · exact h.i z
 · rw [z7]; split
   · exact ⟨hn, hs⟩
   · exact h.o z
theorem Snd.O4 {c : Code} {I O : List (List Int)} (h : Snd c I O) {b : Nat} (hb : b < c.b.length) (hr : fF c.b (b : Int)) : ∀ r ∈ O4 c I b, ∀ I' O', clo c I' O' → r ∈ O'.getD b [] :=
 fun r hm I' O' hc => (hc b hb hr).1 r (rA (fun k x hx => (h.i k x hx).2.2 I' O' hc) r hm)
theorem Snd.O3 {c : Code} {I O : List (List Int)} (h : Snd c I O) {b : Nat} (hb : b < c.b.length) (hr : fF c.b (b : Int)) : ∀ r ∈ O3 c I b, ∀ I' O', clo c I' O' → r ∈ I'.getD b [] :=
 fun r hm I' O' hc => (hc b hb hr).2 r (a6T (fun x hx => h.O4 hb hr x hx I' O' hc) r hm)
theorem Snd.set {c : Code} {I O : List (List Int)} (h : Snd c I O) {b : Nat} (hb : b < c.b.length) (hr : fF c.b (b : Int)) : Snd c (I.set b (Go.Proofs.YtfccigmfcpimgaaDoor.O3 c I b)) (O.set b (Go.Proofs.YtfccigmfcpimgaaDoor.O4 c I b)) := by
 refine ⟨fun k r hk => ?_, fun k r hk => ?_⟩
 · rw [z7] at hk
   split at hk
   · rename_i e
     obtain ⟨rfl, _⟩ := e
     exact ⟨hr, hb, h.O3 hb hr r hk⟩
   · exact h.i k r hk
 · rw [z7] at hk
   split at hk
   · rename_i e
     obtain ⟨rfl, _⟩ := e
     exact ⟨hr, hb, h.O4 hb hr r hk⟩
   · exact h.o k r hk
theorem lC : ∀ {b a : List Int}, K8 a → K8 b → (∀ x ∈ a, x ∈ b) → a.length ≤ b.length ∧ (b.length ≤ a.length → a = b)
 | [], a, sa, sb, h => by
   cases a with
   | nil => exact ⟨by simp, fun _ => rfl⟩
   | cons x a => have := h x (by simp); simp at this
 | y :: b, a, sa, sb, h => by
   obtain ⟨b1, b2⟩ := List.pairwise_cons.1 sb
   cases a with
   | nil => exact ⟨by simp, fun hl => by simp at hl⟩
   | cons x a =>
     obtain ⟨a1, a2⟩ := List.pairwise_cons.1 sa
     by_cases hxy : x = y
     · subst hxy
       have hs : ∀ z ∈ a, z ∈ b := fun z hz => by
         rcases List.mem_cons.1 (h z (by simp [hz])) with rfl | h1
         · have := a1 z hz; omega
         · exact h1
       obtain ⟨h1, h2⟩ := lC a2 b2 hs
       exact ⟨by simp; omega, fun hl => by rw [h2 (by simpa using hl)]⟩
     · have hx : x ∈ b := (List.mem_cons.1 (h x (by simp))).resolve_left hxy
       have hs : ∀ z ∈ x :: a, z ∈ b := fun z hz => by
         rcases List.mem_cons.1 hz with rfl | hz
         · exact hx
         · rcases List.mem_cons.1 (h z (by simp [hz])) with rfl | h1
           · have h3 := a1 z hz; have h4 := b1 x hx; omega
           · exact h1
       obtain ⟨h1, h2⟩ := lC sa b2 hs
       exact ⟨by simp at h1 ⊢; omega, fun hl => by simp at h1 hl; omega⟩
theorem mF {r : Int} {l : List Int} (h : RB r l) (sl : K8 l) (hr : 0 ≤ r) : (l.length : Int) ≤ r := by
 have : ∀ (n : Nat) (l : List Int), K8 l → (∀ x ∈ l, r - (n : Int) ≤ x ∧ x < r) → l.length ≤ n := by
   intro n
   induction n with
   | zero => intro l _ h; cases l with
     | nil => simp
     | cons x l => have := h x (by simp); omega
   | succ n ih =>
     intro l sl h
     cases l with
     | nil => simp
     | cons x l =>
       obtain ⟨s1, s2⟩ := List.pairwise_cons.1 sl
       have := ih l s2 fun y hy => by
         have h1 := s1 y hy
         have h2 := h x (by simp)
         have h3 := h y (by simp [hy])
         omega
       simp; omega
 have := this r.toNat l sl fun x hx => by have := h x hx; omega
 omega
def mO (l : List (List Int)) : Nat := (l.map List.length).sum
theorem sQ : ∀ (l : List (List Int)) (b : Nat) (v : List Int), b < l.length → mO (l.set b v) + (l.getD b []).length = mO l + v.length
 | [], b, v, h => by simp at h
 | x :: l, 0, v, _ => by simp [mO]; omega
 | x :: l, b + 1, v, h => by
   have := sQ l b v (by simpa using h)
   simp [mO] at this ⊢; omega
theorem a6a : ∀ (l : List (List Int)) (m : Nat), (∀ z, (l.getD z []).length ≤ m) → mO l ≤ m * l.length
 | [], m, _ => by simp [mO]
 | x :: l, m, h => by
   have h1 := a6a l m fun z => by simpa using h (z + 1)
   have h2 : x.length ≤ m := by simpa using h 0
   simp [mO] at h1 ⊢
   rw [Nat.mul_add]; omega
theorem jZ (l : List (List Int)) (b : Nat) : l.set b (l.getD b []) = l := by
 apply List.ext_getElem?
 intro k
 rw [List.getElem?_set]
 by_cases h : b = k
 · subst h
   by_cases h2 : b < l.length
   · simp [h2]
   · simp [h2]
 · simp [h]
def Inc (c : Code) (I O : List (List Int)) : Prop := ∀ b, b < c.b.length → fF c.b (b : Int) → (∀ r ∈ I.getD b [], r ∈ O3 c I b) ∧ ∀ r ∈ O.getD b [], r ∈ O4 c I b
theorem pX {c : Code} {I I' : List (List Int)} (h : ∀ b, ∀ r ∈ I.getD b [], r ∈ I'.getD b []) (b : Nat) : ∀ r ∈ O4 c I b, r ∈ O4 c I' b := rA h
theorem a0k {c : Code} {I I' : List (List Int)} (h : ∀ b, ∀ r ∈ I.getD b [], r ∈ I'.getD b []) (b : Nat) : ∀ r ∈ O3 c I b, r ∈ O3 c I' b := a6T (pX h b)
theorem Inc.grow {c : Code} {I O : List (List Int)} (h : Inc c I O) {b : Nat} (hb : b < c.b.length) (hr : fF c.b (b : Int)) : ∀ k, ∀ r ∈ I.getD k [], r ∈ (I.set b (O3 c I b)).getD k [] := fun k r hk => by
 rw [z7]
 split
 · rename_i e
   obtain ⟨rfl, _⟩ := e
   exact (h b hb hr).1 r hk
 · exact hk
theorem Inc.set {c : Code} {I O : List (List Int)} (h : Inc c I O) {b : Nat} (hb : b < c.b.length) (hr : fF c.b (b : Int)) : Inc c (I.set b (O3 c I b)) (O.set b (O4 c I b)) := by
 have hg := h.grow hb hr
 intro k hk hrk
 constructor
 · intro r hm
   rw [z7] at hm
   split at hm
   · rename_i e
     obtain ⟨rfl, _⟩ := e
     exact a0k hg b r hm
   · exact a0k hg k r ((h k hk hrk).1 r hm)
 · intro r hm
   rw [z7] at hm
   split at hm
   · rename_i e
     obtain ⟨rfl, _⟩ := e
     exact pX hg b r hm
   · exact pX hg k r ((h k hk hrk).2 r hm)
structure FI (c : Code) (I O : List (List Int)) : Prop where
 s : Shp c I O
 n : Snd c I O
 g : Inc c I O
theorem FI.set {c : Code} (hc : z6 c) {I O : List (List Int)} (h : FI c I O) {b : Nat} (hb : b < c.b.length) (hr : fF c.b (b : Int)) : FI c (I.set b (O3 c I b)) (O.set b (O4 c I b)) :=
 ⟨h.s.set hc hb, h.n.set hb hr, h.g.set hb hr⟩
theorem FI.zero (c : Code) : FI c (List.replicate c.b.length []) (List.replicate c.b.length []) := by
 have e : ∀ z, (List.replicate c.b.length ([] : List Int)).getD z [] = [] := fun z => by
   rw [List.getD_eq_getElem?_getD, List.getElem?_replicate]; split <;> rfl
 refine ⟨⟨by simp, by simp, fun z => by rw [e]; exact ⟨RB.nil, K8.nil⟩, fun z => by rw [e]; exact ⟨RB.nil, K8.nil⟩⟩, ⟨fun b r h => by rw [e] at h; simp at h, fun b r h => by rw [e] at h; simp at h⟩, fun b _ _ => ⟨fun r h => by rw [e] at h; simp at h, fun r h => by rw [e] at h; simp at h⟩⟩
theorem FI.wF {c : Code} (hc : z6 c) {I O : List (List Int)} (h : FI c I O) : mO I ≤ 16 * c.b.length ∧ mO O ≤ 16 * c.b.length := by
 have hr := hc.r
 constructor
 · have := a6a I 16 fun z => by have := mF (h.s.i z).1 (h.s.i z).2 hr.1; omega
   rwa [h.s.li] at this
 · have := a6a O 16 fun z => by have := mF (h.s.o z).1 (h.s.o z).2 hr.1; omega
   rwa [h.s.lo] at this
theorem FI.done {c : Code} {I O : List (List Int)} (h : FI c I O) (he : ∀ b, b < c.b.length → fF c.b (b : Int) → O.getD b [] = O4 c I b ∧ I.getD b [] = O3 c I b) : liveF c = (I, O) :=
 b2U ⟨h.s, h.n, fun b hb hr => by
   obtain ⟨e1, e2⟩ := he b hb hr
   refine ⟨fun r hm => by rw [e1]; exact hm, fun r hm => ?_⟩
   rw [e1] at hm
   rw [e2]; exact hm⟩
noncomputable def refS (c : Code) (I O : List (List Int)) : Nat → List (List Int) × List (List Int) × Bool
 | 0 => (I, O, false)
 | b + 1 =>
   let p := refS c I O b
   if (reachF c.b).getD b false = true then
     (p.1.set b (O3 c p.1 b), p.2.1.set b (O4 c p.1 b), p.2.2 || decide ((p.2.1.getD b []).length < (O4 c p.1 b).length ∨ (p.1.getD b []).length < (O3 c p.1 b).length))
   else p
theorem oF {c : Code} (hc : z6 c) {I O : List (List Int)} (h : FI c I O) : ∀ b, b ≤ c.b.length → FI c (refS c I O b).1 (refS c I O b).2.1 ∧ mO I + mO O + (if (refS c I O b).2.2 = true then 1 else 0) ≤ mO (refS c I O b).1 + mO (refS c I O b).2.1 ∧
   ((refS c I O b).2.2 = false → (refS c I O b).1 = I ∧ (refS c I O b).2.1 = O ∧ ∀ k, k < b → fF c.b (k : Int) → O.getD k [] = O4 c I k ∧ I.getD k [] = O3 c I k)
 | 0, _ => ⟨h, by simp [refS], fun _ => ⟨rfl, rfl, fun k hk => by omega⟩⟩
 | b + 1, hb => by
   obtain ⟨h1, h2, h3⟩ := oF hc h b (by omega)
   have hra := T8 c.b (show b < c.b.length by omega)
   unfold refS
   generalize refS c I O b = p at *
   obtain ⟨J, P, a⟩ := p
   simp only at h1 h2 h3 ⊢
   by_cases hr : (reachF c.b).getD b false = true
   · rw [if_pos hr]
     have hrc := hra.1 hr
     have hlb : b < c.b.length := by omega
     have g := h1.g b hlb hrc
     have s1 := (h1.set hc hlb hrc).s
     have nI : K8 (O3 c J b) := cZ V6
     have nO : K8 (O4 c J b) := V6
     obtain ⟨l1, e1⟩ := lC (h1.s.i b).2 nI g.1
     obtain ⟨l2, e2⟩ := lC (h1.s.o b).2 nO g.2
     have t1 := sQ J b (O3 c J b) (by rw [h1.s.li]; exact hlb)
     have t2 := sQ P b (O4 c J b) (by rw [h1.s.lo]; exact hlb)
     refine ⟨h1.set hc hlb hrc, ?_, fun ha => ?_⟩
     · simp only
       cases a with
       | true => simp only [Bool.true_or, if_true] at h2 ⊢; omega
       | false =>
         simp only [Bool.false_or, decide_eq_true_eq, Bool.false_eq_true, if_false] at h2 ⊢
         split <;> omega
     · simp only [Bool.or_eq_false_iff, decide_eq_false_iff_not] at ha
       obtain ⟨ha, hd⟩ := ha
       obtain ⟨rfl, rfl, h4⟩ := h3 ha
       have q1 := e1 (by omega)
       have q2 := e2 (by omega)
       refine ⟨by rw [← q1]; exact jZ _ _, by rw [← q2]; exact jZ _ _, fun k hk hrk => ?_⟩
       rcases Nat.lt_succ_iff_lt_or_eq.1 hk with h5 | rfl
       · exact h4 k h5 hrk
       · exact ⟨q2, q1⟩
   · rw [if_neg hr]
     refine ⟨h1, h2, fun ha => ?_⟩
     obtain ⟨r1, r2, h4⟩ := h3 ha
     refine ⟨r1, r2, fun k hk hrk => ?_⟩
     rcases Nat.lt_succ_iff_lt_or_eq.1 hk with h5 | rfl
     · exact h4 k h5 hrk
     · exact absurd (hra.2 hrk) hr
theorem a7f {c : Code} (hc : z6 c) : ∀ (m : Nat) (I O : List (List Int)), FI c I O → 32 * c.b.length - (mO I + mO O) ≤ m →
   ∃ J P, FI c J P ∧ ∀ b, b < c.b.length → fF c.b (b : Int) → P.getD b [] = O4 c J b ∧ J.getD b [] = O3 c J b := by
 intro m
 induction m with
 | zero =>
   intro I O h hm
   obtain ⟨f1, f2, f3⟩ := oF hc h c.b.length (Nat.le_refl _)
   have s1 := h.wF hc
   have s2 := f1.wF hc
   cases ha : (refS c I O c.b.length).2.2 with
   | false => exact ⟨I, O, h, (f3 ha).2.2⟩
   | true => rw [ha] at f2; simp only [if_true] at f2; omega
 | succ m ih =>
   intro I O h hm
   obtain ⟨f1, f2, f3⟩ := oF hc h c.b.length (Nat.le_refl _)
   cases ha : (refS c I O c.b.length).2.2 with
   | false => exact ⟨I, O, h, (f3 ha).2.2⟩
   | true =>
     rw [ha] at f2
     simp only [if_true] at f2
     exact ih _ _ f1 (by omega)
theorem cG {c : Code} (hc : z6 c) : Lst c (liveF c).1 (liveF c).2 := by
 obtain ⟨J, P, h, he⟩ := a7f hc _ _ _ (FI.zero c) (Nat.le_refl _)
 have hl := h.done he
 rw [hl]
 exact ⟨h.s, h.n, fun b hb hr => by
   obtain ⟨e1, e2⟩ := he b hb hr
   refine ⟨fun r hm => by rw [e1]; exact hm, fun r hm => ?_⟩
   rw [e1] at hm
   rw [e2]; exact hm⟩
theorem aQ {c : Code} (hc : z6 c) : cI c.r9 (liveF c).1 ∧ cI c.r9 (liveF c).2 := by
 have h := (cG hc).shp
 have key : ∀ l : List Int, RB c.r9 l → K8 l → rC c.r9 l := by
   intro l hb hs k hk
   have e : l.getD k 0 = l[k] := bK hk
   have hm := hb l[k] (List.getElem_mem hk)
   refine ⟨?_, by rw [e]; exact hm.2⟩
   unfold jE
   split
   · rw [e]; omega
   · rw [bK (show k - 1 < l.length by omega), e]
     exact List.pairwise_iff_getElem.1 hs (k - 1) k (by omega) hk (by omega)
 exact ⟨fun i _ => key _ (h.i i).1 (h.i i).2, fun i _ => key _ (h.o i).1 (h.o i).2⟩
end Go.Proofs.YtfccigmfcpimgaaDoor
end
