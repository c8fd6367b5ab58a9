/- Own work (by an AI agent; no person has read it): part of a proof of the seat YtfccigmfcpimgaaDoor. -/
import Derived.Test.YtfccigmfcpimgaaDoorXl
set_option linter.unusedSimpArgs false
set_option linter.unusedVariables false
section
namespace Go.Proofs.YtfccigmfcpimgaaDoor
open Go.Ab
theorem b5n {r : Int} {l : List Int} (hb : RB r l) (hs : K8 l) : rC r l := by
 intro k hk
 have e : l.getD k 0 = l[k] := bK hk
 have hm := hb l[k] (List.getElem_mem hk)
 refine ⟨?_, by rw [e]; exact hm.2⟩
 unfold jE
 split
 · rw [e]; omega
 · rw [bK (show k - 1 < l.length by omega), e]
   exact List.pairwise_iff_getElem.1 hs (k - 1) k (by omega) hk (by omega)
theorem b26 {r : Int} {L : List (List Int)} (h : ∀ z, z < L.length → RB r (L.getD z []) ∧ K8 (L.getD z [])) : cI r L := fun i hi => b5n (h i hi).1 (h i hi).2
theorem a0D {a b : List Int} (sb : K8 b) : q9 a b = b → ∀ r ∈ a, r ∈ b := fun h r hr => by rw [← h]; exact K5.2 (.inl hr)
theorem a0w {a b : List Int} (sa : K8 a) (sb : K8 b) (h : ∀ r ∈ a, r ∈ b) : q9 a b = b := K8.ext (U7 sa) sb fun x => by
 rw [K5]
 exact ⟨fun hx => hx.elim (h x) id, .inr⟩
theorem b2v {c : Code} {I O : List (List Int)} (h : a2W c I O) : clo c I O := fun b hb hr => by
 obtain ⟨h1, h2, h3⟩ := h
 obtain ⟨e1, e2⟩ := h3 b hb hr
 exact ⟨a0D (N8 h2.1 b).2 e1, a0D (N8 h1.1 b).2 e2⟩
theorem a61 {c : Code} {I O : List (List Int)} (h1 : cI c.r9 I ∧ I.length = c.b.length) (h2 : cI c.r9 O ∧ O.length = c.b.length) (h : clo c I O) : a2W c I O := ⟨h1, h2, fun b hb hr => by
 obtain ⟨e1, e2⟩ := h b hb hr
 exact ⟨a0w V6 (N8 h2.1 b).2 e1, a0w (cZ (N8 h2.1 b).2) (N8 h1.1 b).2 e2⟩⟩
theorem b48 {c : Code} {I O : List (List Int)} (h : chkF c I O = 0) : a2W c I O := by
 apply Classical.byContradiction
 intro hn
 rw [aZ hn] at h
 omega
theorem b0d (c : Code) (I O : List (List Int)) : chkF c I O = 0 ∨ chkF c I O = 100 := by
 by_cases h : a2W c I O
 · exact .inl (kK h)
 · exact .inr (aZ h)
theorem U5 {c : Code} (hc : z6 c) : (liveF c).1.length = c.b.length ∧ (liveF c).2.length = c.b.length := ⟨(cG hc).shp.li, (cG hc).shp.lo⟩
theorem a3B {c : Code} (hc : z6 c) : chkF c (liveF c).1 (liveF c).2 = 0 :=
 kK (a61 ⟨(aQ hc).1, (U5 hc).1⟩ ⟨(aQ hc).2, (U5 hc).2⟩ (cG hc).clo)
theorem uR {c : Code} (hc : z6 c) {I O : List (List Int)} (h : chkF c I O = 0) (z : Nat) : (∀ r ∈ (liveF c).1.getD z [], r ∈ I.getD z []) ∧ ∀ r ∈ (liveF c).2.getD z [], r ∈ O.getD z [] := by
 have gD := b2v (b48 h)
 have hs := (cG hc).snd
 exact ⟨fun r hr => (hs.i z r hr).2.2 _ _ gD, fun r hr => (hs.o z r hr).2.2 _ _ gD⟩
theorem W9 {n : Int} {l : List Int} {r : Int} : ∀ {K : Nat}, r ∈ X0 n l K ↔ r ∈ l ∨ ∃ k : Nat, k < K ∧ a96 n k = true ∧ r = k
 | 0 => by simp [X0]
 | K + 1 => by
   unfold X0
   split
   · rename_i h
     rw [K5, W9 (K := K), List.mem_singleton]
     constructor
     · rintro ((h1 | ⟨k, h1, h2, h3⟩) | h1)
       · exact .inl h1
       · exact .inr ⟨k, by omega, h2, h3⟩
       · exact .inr ⟨K, by omega, h, h1⟩
     · rintro (h1 | ⟨k, h1, h2, h3⟩)
       · exact .inl (.inl h1)
       · by_cases e : k = K
         · subst e; exact .inr h3
         · exact .inl (.inr ⟨k, by omega, h2, h3⟩)
   · rename_i h
     rw [W9 (K := K)]
     constructor
     · rintro (h1 | ⟨k, h1, h2, h3⟩)
       · exact .inl h1
       · exact .inr ⟨k, by omega, h2, h3⟩
     · rintro (h1 | ⟨k, h1, h2, h3⟩)
       · exact .inl h1
       · by_cases e : k = K
         · subst e; exact absurd h2 h
         · exact .inr ⟨k, by omega, h2, h3⟩
theorem qG {n : Int} {l : List Int} (h : K8 l) : ∀ K, K8 (X0 n l K)
 | 0 => h
 | K + 1 => by
   unfold X0
   split
   · exact U7 (qG h K)
   · exact qG h K
theorem a3N (n : Int) (K : Nat) (I : List (List Int)) : ∀ b, b ≤ I.length → ∀ z, z < b → (V2 n K I b).getD z [] = X0 n (I.getD z []) K
 | 0, _, z, h => by omega
 | b + 1, hb, z, h => by
   show ((V2 n K I b).set b _).getD z [] = _
   rw [z7]
   by_cases e : b = z
   · subst e
     rw [if_pos ⟨rfl, by rw [iD]; omega⟩, oB n K I b b (Nat.le_refl _)]
   · rw [if_neg fun hh => e hh.1, a3N n K I b (by omega) z (by omega)]
def qZ (c : Code) (n : Int) (I : List (List Int)) : List (List Int) := V2 n c.r9.toNat I c.b.length
theorem iE {c : Code} {n : Int} {I : List (List Int)} (hl : I.length = c.b.length) {z : Nat} (h : z < c.b.length) : (qZ c n I).getD z [] = X0 n (I.getD z []) c.r9.toNat := a3N _ _ _ _ (by omega) z h
theorem pV (c : Code) (n : Int) (I : List (List Int)) : (qZ c n I).length = I.length := iD _ _ _ _
theorem a3O {c : Code} {n : Int} {I : List (List Int)} (hl : I.length = c.b.length) (z : Nat) : ∀ r ∈ I.getD z [], r ∈ (qZ c n I).getD z [] := by
 intro r hr
 by_cases hz : z < c.b.length
 · rw [iE hl hz]; exact W9.2 (.inl hr)
 · rw [List.getD_eq_getElem?_getD, List.getElem?_eq_none (by omega)] at hr; simp at hr
theorem a3P {c : Code} (hc : z6 c) {n : Int} {I : List (List Int)} (hl : I.length = c.b.length) (h : cI c.r9 I) : cI c.r9 (qZ c n I) := b26 fun z hz => by
 rw [pV] at hz
 rw [iE hl (by omega)]
 obtain ⟨h1, h2⟩ := N8 h z
 refine ⟨fun r hr => ?_, qG h2 _⟩
 rcases W9.1 hr with hr | ⟨k, h3, _, rfl⟩
 · exact h1 r hr
 · have := hc.r; omega
theorem b2q {B : c5} {o1 o2 : List Int} {P : Int → Prop} (h : ∀ r ∈ o2, r ∈ o1 ∨ P r) : ∀ r ∈ eE B o2 0, r ∈ eE B o1 0 ∨ P r := by
 unfold eE
 rw [List.drop_zero]
 induction B.i with
 | nil => exact h
 | cons x L ih =>
   intro r hr
   simp only [List.foldr_cons, X7] at hr ⊢
   rcases hr with ⟨h1, h2⟩ | h1
   · rcases ih r h1 with h3 | h3
     · exact .inl (.inl ⟨h3, h2⟩)
     · exact .inr h3
   · exact .inl (.inr h1)
theorem b1k {c : Code} (hc : z6 c) {n : Int} {I O : List (List Int)} (h1 : I.length = c.b.length) (h2 : O.length = c.b.length) (h : clo c I O) : clo c (qZ c n I) (qZ c n O) := fun b hb hr => by
 obtain ⟨e1, e2⟩ := h b hb hr
 constructor
 · intro r hm
   rw [iE h2 hb]
   rcases eY.1 hm with ⟨⟨to, g1, g2⟩, g3⟩ | g1
   · have hto := hc.succ.2 _ (W0 hb) to g1
     rw [iE h1 (by omega)] at g2
     rcases W9.1 g2 with g2 | g2
     · exact W9.2 (.inl (e1 r (eY.2 (.inl ⟨⟨to, g1, g2⟩, g3⟩))))
     · exact W9.2 (.inr g2)
   · exact W9.2 (.inl (e1 r (eY.2 (.inr g1))))
 · intro r hm
   rw [iE h1 hb]
   rcases b2q (o1 := O.getD b []) (P := fun r => ∃ k : Nat, k < c.r9.toNat ∧ a96 n k = true ∧ r = k) (fun r hr => by rw [iE h2 hb] at hr; exact W9.1 hr) r hm with g | g
   · exact W9.2 (.inl (e2 r g))
   · exact W9.2 (.inr g)
noncomputable def moreI (c : Code) (n : Int) : List (List Int) := qZ c n (liveF c).1
noncomputable def moreO (c : Code) (n : Int) : List (List Int) := qZ c n (liveF c).2
theorem iF {c : Code} (hc : z6 c) (n : Int) : (moreI c n).length = c.b.length ∧ (moreO c n).length = c.b.length := by
 obtain ⟨h1, h2⟩ := U5 hc
 exact ⟨(pV _ _ _).trans h1, (pV _ _ _).trans h2⟩
theorem eJ {c : Code} (hc : z6 c) (n : Int) : cI c.r9 (moreI c n) ∧ cI c.r9 (moreO c n) := by
 obtain ⟨h1, h2⟩ := U5 hc
 obtain ⟨h3, h4⟩ := aQ hc
 exact ⟨a3P hc h1 h3, a3P hc h2 h4⟩
theorem b1j {c : Code} (hc : z6 c) (n : Int) : chkF c (moreI c n) (moreO c n) = 0 := by
 obtain ⟨h1, h2⟩ := U5 hc
 exact kK (a61 ⟨(eJ hc n).1, (iF hc n).1⟩ ⟨(eJ hc n).2, (iF hc n).2⟩ (b1k hc h1 h2 (cG hc).clo))
theorem S7 {r : Int} {L : List (List Int)} (h : cI r L) (h0 : 0 ≤ r) (hr : r ≤ 100) (z : Nat) : (L.getD z []).length ≤ 100 := by
 obtain ⟨h1, h2⟩ := N8 h z
 have := mF h1 h2 h0
 omega
theorem a2V (l : List Int) (r : Int) : (wY l r).length ≤ l.length + 1 := by
 unfold wY
 split
 · unfold K9
   split
   · omega
   · rw [List.length_append, List.length_cons]
     have h : (l.takeWhile fun x => decide (x < r)).length + (l.dropWhile fun x => decide (x < r)).length = l.length := by rw [← List.length_append, List.takeWhile_append_dropWhile]
     omega
 · have := kD l r; omega
theorem cE {c : Code} {I O : List (List Int)} {d0 d1 d2 : Int} (h1 : I.length = c.b.length) (h2 : O.length = c.b.length) : (A8 c I O d0 d1 d2).1.length = c.b.length ∧ (A8 c I O d0 d1 d2).2.length = c.b.length := by
 unfold A8
 split
 · exact ⟨h1, by simp only; rw [List.length_set]; exact h2⟩
 · exact ⟨by simp only; rw [List.length_set]; exact h1, h2⟩
theorem a0v {m : Nat} {L : List (List Int)} (h : M2 m L) (b : Nat) {v : List Int} (hv : v.length ≤ m + 1) : M2 (m + 1) (L.set b v) := fun z => by
 rw [z7]
 split
 · exact hv
 · have := h z; omega
theorem bH {c : Code} {I O : List (List Int)} {d0 d1 d2 : Int} {m : Nat} (h1 : M2 m I) (h2 : M2 m O) : M2 (m + 1) (A8 c I O d0 d1 d2).1 ∧ M2 (m + 1) (A8 c I O d0 d1 d2).2 := by
 unfold A8
 split
 · exact ⟨fun z => by have := h1 z; simp only; omega, a0v h2 _ (by have := a2V (O.getD (nE c d1) []) (wZ c d2); have := h2 (nE c d1); omega)⟩
 · exact ⟨a0v h1 _ (by have := a2V (I.getD (nE c d1) []) (wZ c d2); have := h1 (nE c d1); omega), fun z => by have := h2 z; simp only; omega⟩
end Go.Proofs.YtfccigmfcpimgaaDoor
end
