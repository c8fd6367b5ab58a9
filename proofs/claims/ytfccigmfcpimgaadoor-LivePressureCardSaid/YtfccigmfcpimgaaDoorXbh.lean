/- Own work (by an AI agent; no person has read it): part of a proof of the seat YtfccigmfcpimgaaDoor. -/
import Derived.Test.YtfccigmfcpimgaaDoorXi
import Derived.Test.YtfccigmfcpimgaaDoorXm
set_option linter.unusedSimpArgs false
set_option linter.unusedVariables false
section
namespace Go.Proofs.YtfccigmfcpimgaaDoor
open Go.Ab
theorem a7m {x y x' y' : Int} (h1 : x ≤ x') (h2 : y ≤ y') : mx x y ≤ mx x' y' := by unfold mx; split <;> split <;> omega
theorem b21 (x y : Int) : x ≤ mx x y := by unfold mx; split <;> omega
theorem b6E (x y : Int) : y ≤ mx x y := by unfold mx; split <;> omega
theorem a1g {x y r : Int} (h1 : x ≤ r) (h2 : y ≤ r) : mx x y ≤ r := by unfold mx; split <;> omega
def Sub (a b : List Int) : Prop := ∀ r ∈ a, r ∈ b
theorem sG {a b : List Int} (sa : K8 a) (sb : K8 b) (h : Sub a b) : (a.length : Int) ≤ b.length := by have := (lC sa sb h).1; omega
theorem a4w {a b : List Int} (h : Sub a b) (n : Int) : Sub (U2 a n) (U2 b n) := fun r hr => by
 rcases jS.1 hr with h1 | h1
 · exact jS.2 (.inl h1)
 · exact jS.2 (.inr (h r h1))
theorem a4M {a b : List Int} (h : Sub a b) (x : j9) : Sub (D4 x a) (D4 x b) := fun r hr => by
 rcases X7.1 hr with ⟨h1, h2⟩ | h1
 · exact X7.2 (.inl ⟨h r h1, h2⟩)
 · exact X7.2 (.inr h1)
theorem a8V (L : List j9) (pre : List Nat) : ∀ {m m' : Int} {o o' : List Int}, m ≤ m' → K8 o → K8 o' → Sub o o' → (lG L m o pre).1 ≤ (lG L m' o' pre).1 := by
 induction pre with
 | nil => intro m m' o o' h _ _ _; exact h
 | cons x pre ih =>
   intro m m' o o' h s s' hs
   show (lG L (mx m (U2 o (O8 (L.getD x I0))).length) (D4 (L.getD x I0) o) pre).1 ≤ (lG L (mx m' (U2 o' (O8 (L.getD x I0))).length) (D4 (L.getD x I0) o') pre).1
   exact ih (a7m h (sG (dS s _) (dS s' _) (a4w hs _))) (dA s) (dA s') (a4M hs _)
theorem b3d (L : List j9) (pre : List Nat) : ∀ {m : Int} {o : List Int}, m ≤ (lG L m o pre).1 := by
 induction pre with
 | nil => intro m o; exact Int.le_refl _
 | cons x pre ih => intro m o; exact Int.le_trans (b21 m _) (ih (m := mx m (U2 o (O8 (L.getD x I0))).length) (o := D4 (L.getD x I0) o))
theorem b3e {r : Int} (h0 : 0 ≤ r) (L : List j9) (hg : ∀ x, O8 (L.getD x I0) < r ∧ RB r (M4 (L.getD x I0))) (pre : List Nat) : ∀ {m : Int} {o : List Int}, m ≤ r → RB r o → K8 o → (lG L m o pre).1 ≤ r := by
 induction pre with
 | nil => intro m o h _ _; exact h
 | cons x pre ih =>
   intro m o h hb s
   exact ih (m := mx m (U2 o (O8 (L.getD x I0))).length) (o := D4 (L.getD x I0) o) (a1g h (mF (hb.with (hg x).1) (dS s _) h0)) (RB.union hb.dG (hg x).2) (dA s)
theorem b1D {I I' : List (List Int)} (hi : ∀ z, K8 (I.getD z []) ∧ K8 (I'.getD z []) ∧ Sub (I.getD z []) (I'.getD z [])) (t : u2) {m m' : Int} (h : m ≤ m') : prT I t m ≤ prT I' t m' := by
 unfold prT
 split
 · obtain ⟨a, b, c⟩ := hi t.t0.toNat
   exact a7m h (sG (dS a _) (dS b _) (a4w c _))
 · exact h
theorem b5y (I : List (List Int)) (t : u2) (m : Int) : m ≤ prT I t m := by
 unfold prT
 split
 · exact b21 _ _
 · exact Int.le_refl _
theorem b1y {I I' O O' : List (List Int)} (hi : ∀ z, K8 (I.getD z []) ∧ K8 (I'.getD z []) ∧ Sub (I.getD z []) (I'.getD z [])) (ho : ∀ z, K8 (O.getD z []) ∧ K8 (O'.getD z []) ∧ Sub (O.getD z []) (O'.getD z [])) (B : c5) (b : Nat) {m m' : Int} (h : m ≤ m') : prB I O B b m ≤ prB I' O' B b m' := by
 unfold prB
 obtain ⟨a1, b1, c1⟩ := hi b
 obtain ⟨a2, b2, c2⟩ := ho b
 exact b1D hi B.t (a8V _ _ (a7m (a7m h (sG a1 b1 c1)) (sG a2 b2 c2)) a2 b2 c2)
theorem vO {c : Code} {I I' O O' : List (List Int)} (hi : ∀ z, K8 (I.getD z []) ∧ K8 (I'.getD z []) ∧ Sub (I.getD z []) (I'.getD z [])) (ho : ∀ z, K8 (O.getD z []) ∧ K8 (O'.getD z []) ∧ Sub (O.getD z []) (O'.getD z [])) : ∀ b, prF c I O b ≤ prF c I' O' b
 | 0 => Int.le_refl _
 | b + 1 => by
   unfold prF
   split
   · exact b1y hi ho _ _ (vO hi ho b)
   · exact vO hi ho b
theorem b1x (I O : List (List Int)) (B : c5) (b : Nat) (m : Int) : m ≤ prB I O B b m ∧ (I.getD b []).length ≤ prB I O B b m ∧ (O.getD b []).length ≤ prB I O B b m := by
 unfold prB
 have h1 := b21 m (I.getD b []).length
 have h2 := b6E m (I.getD b []).length
 have h3 := b21 (mx m (I.getD b []).length) (O.getD b []).length
 have h4 := b6E (mx m (I.getD b []).length) (O.getD b []).length
 have h5 := b3d B.i (L7 B.i.length B.i.length) (m := mx (mx m (I.getD b []).length) (O.getD b []).length) (o := O.getD b [])
 have h6 := b5y I B.t (lG B.i (mx (mx m (I.getD b []).length) (O.getD b []).length) (O.getD b []) (L7 B.i.length B.i.length)).1
 omega
theorem b1B (c : Code) (I O : List (List Int)) (b : Nat) : prF c I O b ≤ prF c I O (b + 1) := by
 show _ ≤ if _ then _ else _
 split
 · exact (b1x _ _ _ _ _).1
 · exact Int.le_refl _
theorem b1C (c : Code) (I O : List (List Int)) {a b : Nat} (h : a ≤ b) : prF c I O a ≤ prF c I O b := by
 induction h with
 | refl => exact Int.le_refl _
 | step _ ih => exact Int.le_trans ih (b1B c I O _)
theorem b1A (c : Code) (I O : List (List Int)) (b : Nat) : 0 ≤ prF c I O b := b1C c I O (Nat.zero_le b)
theorem b1z {c : Code} (hc : z6 c) {I O : List (List Int)} (hi : ∀ z, RB c.r9 (I.getD z []) ∧ K8 (I.getD z [])) (ho : ∀ z, RB c.r9 (O.getD z []) ∧ K8 (O.getD z [])) : ∀ b, b ≤ c.b.length → prF c I O b ≤ c.r9
 | 0, _ => hc.r.1
 | b + 1, hb => by
   have ih := b1z hc hi ho b (by omega)
   unfold prF
   split
   · unfold prB
     have h1 := mF (hi b).1 (hi b).2 hc.r.1
     have h2 := mF (ho b).1 (ho b).2 hc.r.1
     have hin := b3e hc.r.1 (F3 c.b b).i (a7C hc.r.1 (hc.rb (show b < c.b.length by omega))) (L7 (F3 c.b b).i.length (F3 c.b b).i.length) (a1g (a1g ih h1) h2) (ho b).1 (ho b).2
     unfold prT
     split
     · exact a1g hin (mF ((hi _).1.with (hc.rbT (show b < c.b.length by omega)).1) (dS (hi _).2 _) hc.r.1)
     · exact hin
   · exact ih
theorem b5x {c : Code} {I O : List (List Int)} {b n : Nat} (hb : b < c.b.length) (hr : fF c.b (b : Int)) (hn : b < n) : (I.getD b []).length ≤ prF c I O n ∧ (O.getD b []).length ≤ prF c I O n := by
 have h := b1C c I O (show b + 1 ≤ n by omega)
 have e : prF c I O (b + 1) = prB I O (F3 c.b b) b (prF c I O b) := by
   show (if _ then _ else _) = _
   rw [if_pos ((T8 c.b hb).2 hr)]
 obtain ⟨_, h2, h3⟩ := b1x I O (F3 c.b b) b (prF c I O b)
 rw [e] at h
 omega
theorem a5z {c : Code} (hc : z6 c) (n : Int) : 0 ≤ prF c (liveF c).1 (liveF c).2 c.b.length ∧ prF c (liveF c).1 (liveF c).2 c.b.length ≤ prF c (moreI c n) (moreO c n) c.b.length ∧ prF c (moreI c n) (moreO c n) c.b.length ≤ c.r9 ∧
   ∀ b, b < c.b.length → ((liveF c).1.getD b []).length ≤ prF c (liveF c).1 (liveF c).2 c.b.length ∧ ((liveF c).2.getD b []).length ≤ prF c (liveF c).1 (liveF c).2 c.b.length := by
 obtain ⟨l1, l2⟩ := U5 hc
 have hs := (cG hc).shp
 have hm := eJ hc n
 refine ⟨b1A _ _ _ _, vO (fun z => ⟨(hs.i z).2, (N8 hm.1 z).2, a3O l1 z⟩) (fun z => ⟨(hs.o z).2, (N8 hm.2 z).2, a3O l2 z⟩) _, b1z hc (N8 hm.1) (N8 hm.2) _ (Nat.le_refl _), fun b hb => ?_⟩
 by_cases hr : fF c.b (b : Int)
 · exact b5x hb hr hb
 · have h0 := b1A c (liveF c).1 (liveF c).2 c.b.length
   have e1 : (liveF c).1.getD b [] = [] := by
     cases h : (liveF c).1.getD b [] with
     | nil => rfl
     | cons x l => exact absurd ((cG hc).snd.i b x (by rw [h]; simp)).1 hr
   have e2 : (liveF c).2.getD b [] = [] := by
     cases h : (liveF c).2.getD b [] with
     | nil => rfl
     | cons x l => exact absurd ((cG hc).snd.o b x (by rw [h]; simp)).1 hr
   rw [e1, e2]; simp; exact h0
end Go.Proofs.YtfccigmfcpimgaaDoor
end
