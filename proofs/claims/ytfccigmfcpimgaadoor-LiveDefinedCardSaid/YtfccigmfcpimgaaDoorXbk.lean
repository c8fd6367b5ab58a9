/- Own work (by an AI agent; no person has read it): part of a proof of the seat YtfccigmfcpimgaaDoor. -/
import Derived.Test.YtfccigmfcpimgaaDoorXi
import Derived.Test.YtfccigmfcpimgaaDoorXm
set_option linter.unusedSimpArgs false
set_option linter.unusedVariables false
section
namespace Go.Proofs.YtfccigmfcpimgaaDoor
open Go.Ab
def dL (L : List j9) : Nat → List Int
 | 0 => []
 | i + 1 => if 0 ≤ O8 (L.getD i I0) ∧ O8 (L.getD i I0) ∉ dL L i then dL L i ++ [O8 (L.getD i I0)] else dL L i
theorem a23 (L : List j9) : ∀ i, (dL L i).length ≤ i
 | 0 => Nat.le_refl _
 | i + 1 => by
   have := a23 L i
   unfold dL
   split
   · rw [List.length_append]; simp; omega
   · omega
theorem a3L {L : List j9} {d : Int} : ∀ {i j : Nat}, j < i → O8 (L.getD j I0) = d → 0 ≤ d → d ∈ dL L i
 | 0, j, h, _, _ => by omega
 | i + 1, j, h, e, h0 => by
   unfold dL
   by_cases hj : j = i
   · subst hj
     rw [e]
     by_cases hd : d ∈ dL L j
     · rw [if_neg fun hh => hh.2 hd]; exact hd
     · rw [if_pos ⟨h0, hd⟩]; simp
   · have ih := a3L (i := i) (j := j) (by omega) e h0
     split
     · exact List.mem_append.2 (.inl ih)
     · exact ih
theorem b1a {c : Code} (hc : z6 c) {b : Nat} (hb : b < c.b.length) (hr : fF c.b (b : Int)) : (liveF c).2.getD b [] = O4 c (liveF c).1 b ∧ (liveF c).1.getD b [] = O3 c (liveF c).1 b := by
 obtain ⟨J, P, h, he⟩ := a7f hc _ _ _ (FI.zero c) (Nat.le_refl _)
 rw [h.done he]
 exact he b hb hr
theorem a8I {c : Code} (hc : z6 c) {b : Nat} (hr : ¬ fF c.b (b : Int)) : (liveF c).1.getD b [] = [] ∧ (liveF c).2.getD b [] = [] := by
 constructor
 · cases h : (liveF c).1.getD b [] with
   | nil => rfl
   | cons x l => exact absurd ((cG hc).snd.i b x (by rw [h]; simp)).1 hr
 · cases h : (liveF c).2.getD b [] with
   | nil => rfl
   | cons x l => exact absurd ((cG hc).snd.o b x (by rw [h]; simp)).1 hr
theorem b2e {L : List j9} {out : List Int} {u : Int} (h0 : 0 ≤ u) {i : Nat} (hi : i < L.length) (hu : u ∈ M4 (L.getD i I0)) (hd : u ∉ dL L i) : u ∈ L.foldr D4 out := by
 have key : ∀ k, k ≤ i → u ∈ (L.drop (i - k)).foldr D4 out := by
   intro k
   induction k with
   | zero =>
     intro _
     rw [Nat.sub_zero, eR L i I0 hi, List.foldr_cons]
     exact X7.2 (.inr hu)
   | succ k ih =>
     intro hk
     have h := ih (by omega)
     have hlt : i - (k + 1) < L.length := by omega
     rw [eR L (i - (k + 1)) I0 hlt, List.foldr_cons, show i - (k + 1) + 1 = i - k by omega]
     refine X7.2 (.inl ⟨h, fun e => hd (a3L (j := i - (k + 1)) (by omega) e.symm h0)⟩)
 have := key i (Nat.le_refl _)
 rw [Nat.sub_self, List.drop_zero] at this
 exact this
theorem b0h {L : List j9} {out : List Int} {i : Nat} (hi : i < L.length) (h : O8 (L.getD i I0) ∈ L.foldr D4 out) : a7N (L.take (i + 1)) (O8 (L.getD i I0)) := by
 apply Classical.byContradiction
 intro hn
 have hu : ∀ j, j ≤ i → O8 (L.getD i I0) ∉ M4 (L.getD j I0) := fun j hj hm => hn ⟨j, by rw [List.length_take]; omega, by
   rw [List.getD_eq_getElem?_getD, List.getElem?_take, if_pos (by omega), ← List.getD_eq_getElem?_getD]; exact hm⟩
 have key : ∀ j, j ≤ i → O8 (L.getD i I0) ∈ (L.drop j).foldr D4 out := by
   intro j
   induction j with
   | zero => intro _; rw [List.drop_zero]; exact h
   | succ j ih =>
     intro hj
     have h1 := ih (by omega)
     rw [eR L j I0 (by omega), List.foldr_cons] at h1
     rcases X7.1 h1 with ⟨h2, _⟩ | h2
     · exact h2
     · exact absurd h2 (hu j (by omega))
 have h1 := key i (Nat.le_refl _)
 rw [eR L i I0 hi, List.foldr_cons] at h1
 rcases X7.1 h1 with ⟨_, h2⟩ | h2
 · exact h2 rfl
 · exact hu i (Nat.le_refl _) h2
theorem b09 {c : Code} (hc : z6 c) {b : Nat} (hb : b < c.b.length) (hr : fF c.b (b : Int)) {i : Nat} (hi : i < (F3 c.b b).i.length) :
   (∀ u ∈ M4 ((F3 c.b b).i.getD i I0), u ∉ dL (F3 c.b b).i i → u ∈ (liveF c).1.getD b []) ∧ (O8 ((F3 c.b b).i.getD i I0) ∈ (liveF c).1.getD b [] → a7N ((F3 c.b b).i.take (i + 1)) (O8 ((F3 c.b b).i.getD i I0))) := by
 rw [(b1a hc hb hr).2]
 unfold O3 eE
 rw [List.drop_zero]
 constructor
 · intro u hu hd
   have hg := (hc.rb hb ((F3 c.b b).i.getD i I0) (by rw [List.getD_eq_getElem?_getD, List.getElem?_eq_getElem hi]; exact List.getElem_mem hi)).2 u hu
   exact b2e hg.1 hi hu hd
 · exact b0h hi
end Go.Proofs.YtfccigmfcpimgaaDoor
end
