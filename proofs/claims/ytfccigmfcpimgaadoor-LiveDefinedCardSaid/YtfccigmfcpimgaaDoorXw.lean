/- Own work (by an AI agent; no person has read it): part of a proof of the seat YtfccigmfcpimgaaDoor. -/
import Derived.Test.YtfccigmfcpimgaaDoorXh
import Derived.Test.YtfccigmfcpimgaaDoorXv
set_option linter.unusedSimpArgs false
set_option linter.unusedVariables false
section
namespace Go.Proofs.YtfccigmfcpimgaaDoor
open Go.Ab
def rR (r : Int) (l : List j9) : Prop := ∀ x ∈ l, eL r x
theorem U3.mono {r r' : Int} {o : J8} (h : U3 r o) (hr : r ≤ r') : U3 r' o := fun hk => by have := h hk; omega
theorem eL.mono {r r' : Int} {x : j9} (h : eL r x) (hr : r ≤ r') : eL r' x := ⟨h.d.mono hr, h.a.mono hr, h.b.mono hr, h.c.mono hr⟩
theorem rR.mono {r r' : Int} {l : List j9} (h : rR r l) (hr : r ≤ r') : rR r' l := fun x hx => (h x hx).mono hr
theorem Z9.mono {r r' n n' : Int} {t : u2} (h : Z9 r n t) (hr : r ≤ r') (hn : n ≤ n') : Z9 r' n' t := ⟨h.d.mono hr, h.a.mono hr, h.b.mono hr, fun hk => by have := h.to hk; omega, fun hk => by have := h.to1 hk; omega, h.dk⟩
theorem kE.mono {r r' n n' : Int} {b : c5} (h : kE r n b) (hr : r ≤ r') (hn : n ≤ n') : kE r' n' b := ⟨fun x hx => (h.i x hx).mono hr, h.t.mono hr hn, h.l⟩
theorem Y7 (r : Int) : U3 r O0 := fun h => by simp [O0] at h
theorem b1u (r v : Int) : U3 r (B7 v) := fun h => by simp [B7] at h
theorem a3S {r n : Int} (h : 0 ≤ n ∧ n < r) : U3 r (O5 n) := fun _ => h
theorem eA {r : Int} (hr : 6 ≤ r) {L : List Int} (hL : A5 L) {a : Int} (h : 0 ≤ a) : U3 r (G8 L a) := by
 have := j0 hL h
 exact a3S (by omega)
theorem kX {r : Int} (hr : 6 ≤ r) {L : List Int} (hL : A5 L) {a : Int} (h : 0 ≤ a) : U3 r (X2 L a) := by
 have := j0 hL h
 unfold X2
 split
 · exact b1u r _
 · exact a3S (by omega)
structure GS (S : MS) (T : Int) : Prop where
 L : A5 S.L
 at_ : 0 ≤ S.at_
 re : 6 ≤ S.re
 i : rR S.re S.i.l
 b : ∀ x ∈ S.bs, kE S.re T x
theorem GS.mono {S : MS} {T T' : Int} (h : GS S T) (hT : T ≤ T') : GS S T' := ⟨h.L, h.at_, h.re, h.i, fun x hx => (h.b x hx).mono (Int.le_refl _) hT⟩
theorem GS.at {S : MS} {T : Int} (h : GS S T) {a : Int} (ha : 0 ≤ a) : GS { S with at_ := a } T := ⟨h.L, ha, h.re, h.i, h.b⟩
theorem GS.term {S : MS} {T : Int} (h : GS S T) (t : u2) : GS { S with t := t } T := ⟨h.L, h.at_, h.re, h.i, h.b⟩
theorem GS.put {S : MS} {T : Int} (h : GS S T) {x : j9} (hx : eL S.re x) : GS (S.put x) T := by
 refine ⟨h.L, h.at_, h.re, fun y hy => ?_, h.b⟩
 have hy : y ∈ S.i.l ++ [x] := hy
 rcases List.mem_append.1 hy with hy | hy
 · exact h.i y hy
 · rw [List.mem_singleton.1 hy]; exact hx
theorem GS.block {S : MS} {T : Int} (h : GS S T) (ht : Z9 S.re T S.t) (hl : S.i.l.length ≤ 39) : GS S.block T := by
 refine ⟨h.L, h.at_, h.re, fun y hy => ?_, fun x hx => ?_⟩
 · simp [MS.block, j4.l] at hy
 · have hx : x ∈ S.bs ++ [⟨S.i.l, S.t⟩] := hx
   rcases List.mem_append.1 hx with hx | hx
   · exact h.b x hx
   · rw [List.mem_singleton.1 hx]; exact ⟨h.i, ht, hl⟩
theorem b0N {r : Int} (hr : 6 ≤ r) {L : List Int} (hL : A5 L) {a : Int} (h : 0 ≤ a) : eL r (Y0 L a) := by
 have g : ∀ k : Int, 0 ≤ a + k → U3 r (G8 L (a + k)) ∧ U3 r (X2 L (a + k)) := fun k hk => ⟨eA hr hL hk, kX hr hL hk⟩
 have e : ∀ k, U3 r (G8 L k) ∨ k < 0 := fun k => by
   rcases Int.lt_or_le k 0 with h | h
   · exact .inr h
   · exact .inl (eA hr hL h)
 have R : ∀ k, 0 ≤ k → U3 r (G8 L k) := fun k hk => eA hr hL hk
 have V : ∀ k, 0 ≤ k → U3 r (X2 L k) := fun k hk => kX hr hL hk
 unfold Y0
 simp only
 (repeat' split)
 · exact ⟨R _ (by omega), Y7 r, Y7 r, Y7 r⟩
 · exact ⟨R _ (by omega), V _ (by omega), V _ (by omega), Y7 r⟩
 · exact ⟨R _ (by omega), V _ (by omega), Y7 r, Y7 r⟩
 · exact ⟨R _ (by omega), V _ (by omega), V _ (by omega), V _ (by omega)⟩
 · exact ⟨R _ (by omega), V _ (by omega), Y7 r, Y7 r⟩
 · exact ⟨R _ (by omega), Y7 r, Y7 r, Y7 r⟩
 · exact ⟨Y7 r, Y7 r, Y7 r, Y7 r⟩
theorem b0O {r : Int} (hr : 6 ≤ r) {L : List Int} (hL : A5 L) {k a n : Int} {d : J8} (h : 0 ≤ a) (hd : U3 r d) : eL r (gU L k a n d) := by
 have R : ∀ k, 0 ≤ k → U3 r (G8 L k) := fun k hk => eA hr hL hk
 have V : ∀ k, 0 ≤ k → U3 r (X2 L k) := fun k hk => kX hr hL hk
 unfold gU
 (repeat' split)
 · exact ⟨Y7 r, hd, V _ (by omega), Y7 r⟩
 · exact ⟨R _ (by omega), hd, Y7 r, Y7 r⟩
 · exact ⟨Y7 r, hd, V _ (by omega), Y7 r⟩
theorem GS.place {S : MS} {T : Int} (h : GS S T) (pr : Bool) : GS (S.place pr) T := by
 have h0 := h.at_
 unfold MS.place
 refine GS.put (h.at (by omega)) ⟨eA h.re h.L (by omega), kX h.re h.L (by omega), b1u _ _, Y7 _⟩
theorem GS.inst {S : MS} {T : Int} (h : GS S T) : GS S.inst T := by
 have h0 := h.at_
 have ha : 0 ≤ gT S.L S.at_ := by unfold gT; simp only; (repeat' split) <;> omega
 unfold MS.inst
 simp only
 split
 · exact (h.at ha).put (b0N h.re h.L h0)
 · have hp := (h.at (a := S.at_ + 1) (by omega)).place (decide (¬ a6 S.L S.at_ % 16 = 12))
   have hpa := hp.at_
   refine GS.put (hp.at ?_) (b0O h.re h.L hpa (eA h.re h.L (by omega)))
   split <;> omega
theorem GS.iter {S : MS} {T : Int} (h : GS S T) : ∀ i, GS (S.iter i) T
 | 0 => h
 | i + 1 => (GS.iter h i).inst
theorem GS.p8 {S : MS} {T : Int} (h : GS S T) : GS S.p8 T := (h.at (a := S.at_ + 1) (by have := h.at_; omega)).iter _
theorem a03 {r n b : Int} (h : 0 ≤ b ∧ b < n) : Z9 r n (U0 b) := ⟨Y7 r, Y7 r, Y7 r, fun _ => h, fun h => by simp [U0] at h, fun h => by simp [U0, O0] at h⟩
theorem oY {r n x y : Int} {a : J8} (ha : U3 r a) (hx : 0 ≤ x ∧ x < n) (hy : 0 ≤ y ∧ y < n) : Z9 r n (E5 a x y) := ⟨Y7 r, ha, Y7 r, fun _ => hx, fun _ => hy, fun h => by simp [E5, O0] at h⟩
theorem b47 {r n b : Int} (h : 0 ≤ b ∧ b < n) : Z9 r n (a94 b) := ⟨Y7 r, Y7 r, Y7 r, fun _ => h, fun h => by simp [a94] at h, fun h => by simp [a94, O0] at h⟩
theorem b49 {r n b s : Int} {d x y : J8} (hd : U3 r d) (hx : U3 r x) (hy : U3 r y) (h : 0 ≤ b ∧ b < n) : Z9 r n (b0f s d x y b) := ⟨hd, hx, hy, fun _ => h, fun h => by simp [b0f] at h, fun _ => by simp [b0f]⟩
theorem b2B {r n : Int} : Z9 r n lM := ⟨Y7 r, Y7 r, Y7 r, fun h => by simp [lM] at h, fun h => by simp [lM] at h, fun h => by simp [lM, O0] at h⟩
structure RI2 (S0 S : MS) (k : Nat) : Prop where
 i : S.i = .nil
 t : S.t = U4
 re : S.re = S0.re
 lo : S.lo = S0.lo
 bs : S.bs.length = S0.bs.length + k
theorem a7D {S : MS} {last : Nat} (h : GS S (last + 1)) (hi : S.i = .nil) (ht : S.t = U4) : ∀ k : Nat, S.bs.length + k ≤ last → GS (S.fB last k) (last + 1) ∧ RI2 S (S.fB last k) k
 | 0, _ => ⟨h, ⟨hi, ht, rfl, rfl, rfl⟩⟩
 | k + 1, hk => by
   obtain ⟨g, r⟩ := a7D h hi ht k (by omega)
   show GS ((S.fB last k).gG last) _ ∧ RI2 S ((S.fB last k).gG last) _
   generalize S.fB last k = Q at *
   have gi := g.p8
   obtain ⟨a, ii, e, e1, e2, e3⟩ := L1 Q g.L g.at_
   have hb := r.bs
   have hil : Q.p8.i.l.length ≤ 39 := by rw [e]; rw [r.i] at e3; simp [j4.l] at e3 ⊢; omega
   have q1 : Q.p8.re = Q.re ∧ Q.p8.lo = Q.lo ∧ Q.p8.bs = Q.bs := by rw [e]; exact ⟨rfl, rfl, rfl⟩
   unfold MS.gG
   simp only
   generalize Q.p8 = S1 at *
   have x1 := j0 gi.L (at_ := S1.at_ + 1 + 1) (by have := gi.at_; omega)
   have x2 := j0 gi.L (at_ := S1.at_ + 1 + 1 + 1) (by have := gi.at_; omega)
   have d1 : ∀ x : Int, 0 ≤ x % ((last : Int) - Q.bs.length) ∧ x % ((last : Int) - Q.bs.length) < (last : Int) - Q.bs.length := fun x => ⟨Int.emod_nonneg _ (by omega), Int.emod_lt_of_pos _ (by omega)⟩
   have y1 := d1 (a6 S1.L (S1.at_ + 1 + 1))
   have y2 := d1 (a6 S1.L (S1.at_ + 1 + 1 + 1))
   have ha := gi.at_
   split
   · refine ⟨((gi.at (a := S1.at_ + 1 + 1 + 1 + 1) (by omega)).term _).block (oY (eA gi.re gi.L (by omega)) (by omega) (by omega)) hil, ⟨rfl, rfl, q1.1.trans r.re, q1.2.1.trans r.lo, ?_⟩⟩
     show (S1.bs ++ [_]).length = _
     rw [q1.2.2, List.length_append, hb]; rfl
   · refine ⟨((gi.at (a := S1.at_ + 1) (by omega)).term _).block (a03 (by omega)) hil, ⟨rfl, rfl, q1.1.trans r.re, q1.2.1.trans r.lo, ?_⟩⟩
     show (S1.bs ++ [_]).length = _
     rw [q1.2.2, List.length_append, hb]; rfl
structure GO (S : MS) : Prop where
 g : GS S (S.bs.length + 1)
 il : S.i.l.length ≤ 9
 re : S.re = 6 + 2 * S.lo.l.length
theorem a7E {S : MS} (h : GS S (S.bs.length + 1)) (hi : S.i = .nil) (ht : S.t = U4) (hre : S.re = 6 + 2 * S.lo.l.length) {n : Int} (hn : 0 ≤ n ∧ n ≤ 2) : GO (S.fC n) ∧ (S.fC n).t = U4 ∧ (S.fC n).lo = S.lo ∧ (S.fC n).bs.length ≤ S.bs.length + 2 := by
 unfold MS.fC
 obtain ⟨k, rfl⟩ : ∃ k : Nat, n = k := ⟨n.toNat, by omega⟩
 rw [show ((S.bs.length : Int) + (k : Int)) = ((S.bs.length + k : Nat) : Int) by omega, Int.toNat_natCast]
 obtain ⟨g, r⟩ := a7D (S := S) (last := S.bs.length + k) (h.mono (by omega)) hi ht k (Nat.le_refl _)
 generalize S.fB ((S.bs.length + k : Nat) : Int) k = Q at *
 obtain ⟨a, ii, e, e1, e2, e3⟩ := L1 Q g.L g.at_
 have gi := g.p8
 have hb := r.bs
 have q : Q.p8.re = Q.re ∧ Q.p8.lo = Q.lo ∧ Q.p8.bs = Q.bs ∧ Q.p8.t = Q.t ∧ Q.p8.i = ii := by rw [e]; exact ⟨rfl, rfl, rfl, rfl, rfl⟩
 rw [r.i] at e3
 simp [j4.l] at e3
 generalize Q.p8 = S1 at *
 refine ⟨⟨?_, ?_, ?_⟩, q.2.2.2.1.trans r.t, q.2.1.trans r.lo, ?_⟩
 · rw [q.2.2.1, hb]; exact gi.mono (by omega)
 · rw [q.2.2.2.2]; simp only [j4.l]; omega
 · rw [q.1, q.2.1, r.re, r.lo]; exact hre
 · rw [q.2.2.1, hb]; omega
theorem GO.region {S : MS} (h : GO S) (ht : Z9 S.re (S.bs.length + 2) S.t) {n : Int} (hn : 0 ≤ n ∧ n ≤ 2) : GO (S.region n) ∧ (S.region n).t = U4 ∧ (S.region n).lo = S.lo ∧ (S.region n).bs.length ≤ S.bs.length + 3 := by
 have hb : S.block.bs.length = S.bs.length + 1 := by simp [MS.block]
 have g := (h.g.mono (T' := S.bs.length + 2) (by omega)).block ht (by have := h.il; omega)
 obtain ⟨a, b, c, d⟩ := a7E (S := S.block) (by rw [hb]; exact g.mono (by omega)) rfl rfl h.re hn
 exact ⟨a, b, c, by unfold MS.region; omega⟩
theorem a7g {S : MS} (h : GO S) : GO S.loop.block ∧ S.loop.block.i = .nil ∧ S.loop.block.bs.length = S.bs.length + 3 ∧ S.loop.block.lo.l.length = S.lo.l.length + 1 := by
 have hre := h.g.re
 have hN : S.L6 = S.re := h.re.symm
 have ha := h.g.at_
 have hil := h.il
 have g1 : GS S.X4 (S.bs.length + 2) := by
   unfold MS.X4
   refine GS.block (T := S.bs.length + 2) ⟨h.g.L, by show 0 ≤ S.at_ + 1; omega, by show 6 ≤ S.L6 + 2; omega, ?_, ?_⟩ (a03 (by unfold MS.cH; omega)) (by show (S.i.l ++ [_]).length ≤ 39; rw [List.length_append]; simp; omega)
   · intro x hx
     have hx : x ∈ S.i.l ++ [li1 S.L6] := hx
     show eL (S.L6 + 2) x
     rcases List.mem_append.1 hx with hx | hx
     · exact (h.g.i x hx).mono (by omega)
     · rw [List.mem_singleton.1 hx]; exact ⟨a3S (by omega), b1u _ _, Y7 _, Y7 _⟩
   · intro x hx
     exact (h.g.b x hx).mono (by show S.re ≤ S.L6 + 2; omega) (by omega)
 have b1 : S.X4.bs.length = S.bs.length + 1 := by simp [MS.X4, MS.block]
 have r1 : S.X4.re = S.L6 + 2 := rfl
 have l1 : S.X4.lo.l.length = S.lo.l.length + 1 := by simp [MS.X4, MS.block, s6.l]
 have i1 : S.X4.i = .nil := rfl
 have H : S.cH = (S.bs.length : Int) + 1 := by unfold MS.cH; omega
 have g2 : GS (S.X4.gZ S.cH S.L6 S.eV) (S.bs.length + 4) := by
   unfold MS.gZ
   refine GS.block (T := S.bs.length + 4) ⟨g1.L, g1.at_, g1.re, ?_, fun x hx => (g1.b x hx).mono (Int.le_refl _) (by omega)⟩ (oY (a3S (by show 0 ≤ S.L6 + 1 ∧ S.L6 + 1 < S.X4.re; rw [r1]; omega)) (by omega) (by omega)) (by show (S.X4.i.l ++ [_]).length ≤ 39; rw [i1]; simp [j4.l])
   intro x hx
   have hx : x ∈ S.X4.i.l ++ [li2 S.L6 S.eV] := hx
   rw [i1] at hx
   rw [List.mem_singleton.1 hx]
   show eL S.X4.re _
   rw [r1]
   exact ⟨a3S (by omega), a3S (by omega), b1u _ _, Y7 _⟩
 have b2 : (S.X4.gZ S.cH S.L6 S.eV).bs.length = S.bs.length + 2 := by
   show (S.X4.bs ++ [_]).length = _
   rw [List.length_append, b1]; rfl
 have r2 : (S.X4.gZ S.cH S.L6 S.eV).re = S.L6 + 2 := rfl
 have l2 : (S.X4.gZ S.cH S.L6 S.eV).lo = S.X4.lo := rfl
 have i2 : (S.X4.gZ S.cH S.L6 S.eV).i = .nil := rfl
 unfold MS.loop MS.uV
 generalize S.X4.gZ S.cH S.L6 S.eV = Q2 at *
 have gp : GS (Q2.put (lP S.L6)) (S.bs.length + 4) := g2.put (by rw [r2]; exact ⟨a3S (by omega), a3S (by omega), b1u _ _, Y7 _⟩)
 obtain ⟨a, ii, e, e1, e2, e3⟩ := L1 (Q2.put (lP S.L6)) gp.L gp.at_
 have g3 := gp.p8
 have i3 : (Q2.put (lP S.L6)).i.l.length = 1 := by simp [MS.put, i2, j4.l]
 have q : (Q2.put (lP S.L6)).p8.re = Q2.re ∧ (Q2.put (lP S.L6)).p8.lo = Q2.lo ∧ (Q2.put (lP S.L6)).p8.bs = Q2.bs ∧ (Q2.put (lP S.L6)).p8.i = ii := by rw [e]; exact ⟨rfl, rfl, rfl, rfl⟩
 generalize (Q2.put (lP S.L6)).p8 = Q3 at *
 have h3 := g3.at_
 have hl3 : Q3.i.l.length ≤ 39 := by rw [q.2.2.2]; omega
 have key : ∀ Q4 : MS, GS Q4 (S.bs.length + 4) → Q4.re = Q3.re → Q4.lo = Q3.lo → Q4.bs = Q3.bs → Q4.i = Q3.i → Z9 Q4.re (S.bs.length + 4) Q4.t → GO Q4.block ∧ Q4.block.i = .nil ∧ Q4.block.bs.length = S.bs.length + 3 ∧ Q4.block.lo.l.length = S.lo.l.length + 1 := by
   intro Q4 g4 hr hlo hbs hi ht
   have hb : Q4.block.bs.length = S.bs.length + 3 := by
     show (Q4.bs ++ [_]).length = _
     rw [List.length_append, hbs, q.2.2.1, b2]; rfl
   have hll : Q4.block.lo.l.length = S.lo.l.length + 1 := by
     show Q4.lo.l.length = _
     rw [hlo, q.2.1, l2, l1]
   refine ⟨⟨?_, by simp [MS.block, j4.l], ?_⟩, rfl, hb, hll⟩
   · rw [hb]; exact (g4.block ht (by rw [hi]; exact hl3)).mono (by omega)
   · rw [hll]
     show Q4.re = _
     rw [hr, q.1, r2, hN, h.re]; omega
 unfold MS.uW
 split
 · exact key _ ((g3.at (a := Q3.at_ + 1 + 1) (by omega)).term _) rfl rfl rfl rfl (oY (eA g3.re g3.L (by omega)) (by omega) (by omega))
 · exact key _ ((g3.at (a := Q3.at_ + 1) (by omega)).term _) rfl rfl rfl rfl (a03 (by omega))
theorem GO.at {S : MS} (h : GO S) {a : Int} (ha : 0 ≤ a) : GO { S with at_ := a } := ⟨h.g.at ha, h.il, h.re⟩
theorem GO.next {S : MS} (h : GO S) : GO { S with at_ := S.at_ + 1 } := h.at (by have := h.g.at_; omega)
theorem b1U {S : MS} (h : GO S) : GO S.jF ∧ S.jF.bs.length ≤ S.bs.length + 3 ∧ S.jF.lo.l.length ≤ S.lo.l.length + 1 := by
 unfold MS.jF
 split
 · obtain ⟨a, _, b, c⟩ := a7g h.next
   exact ⟨a, by rw [b]; exact Nat.le_refl _, by rw [c]; exact Nat.le_refl _⟩
 · exact ⟨h.next, by show S.bs.length ≤ _; omega, by show S.lo.l.length ≤ _; omega⟩
theorem b1V {S : MS} (h : GO S) : GO S.fW ∧ S.fW.bs = S.bs ∧ S.fW.lo = S.lo ∧ Z9 S.fW.re (S.fW.bs.length + 2) S.fW.t := by
 have ha := h.g.at_
 unfold MS.fW
 split
 · refine ⟨⟨(h.g.at (a := S.at_ + 1 + 1 + 1 + 1 + 1) (by omega)).term _, h.il, h.re⟩, rfl, rfl, ?_⟩
   exact b49 (eA h.g.re h.g.L (by omega)) (kX h.g.re h.g.L (by omega)) (kX h.g.re h.g.L (by omega)) (by show (0 : Int) ≤ S.bs.length + 1 ∧ (S.bs.length : Int) + 1 < S.bs.length + 2; omega)
 · refine ⟨⟨(h.g.at (a := S.at_ + 1) (by omega)).term _, h.il, h.re⟩, rfl, rfl, ?_⟩
   exact b47 (by show (0 : Int) ≤ S.bs.length + 1 ∧ (S.bs.length : Int) + 1 < S.bs.length + 2; omega)
structure GR (S : MS) (i : Nat) : Prop where
 g : GO S
 t : 0 < i → Z9 S.re (S.bs.length + 2) S.t
 b : 0 < i → S.bs.length + 1 ≤ 6 * i
 lo : S.lo.l.length ≤ i
 z : i = 0 → S.bs = [] ∧ S.i = .nil ∧ S.t = U4
theorem wT {S : MS} {i : Nat} (h : GR S i) {n : Int} (hn : 0 ≤ n ∧ n ≤ 2) : GO (bP (decide (0 < i)) { S with at_ := S.at_ + 1 } n) ∧ (bP (decide (0 < i)) { S with at_ := S.at_ + 1 } n).lo = S.lo ∧
   (bP (decide (0 < i)) { S with at_ := S.at_ + 1 } n).bs.length + 1 ≤ 6 * i + 3 := by
 have hg := h.g.next
 unfold bP
 by_cases hi : 0 < i
 · rw [if_pos (by simpa using hi)]
   obtain ⟨a, _, b, c⟩ := hg.region (h.t hi) hn
   have := h.b hi
   exact ⟨a, b, by have c : _ ≤ S.bs.length + 3 := c; omega⟩
 · rw [if_neg (by simpa using hi)]
   obtain ⟨z1, z2, z3⟩ := h.z (by omega)
   obtain ⟨a, _, b, c⟩ := a7E hg.g z2 z3 hg.re hn
   have c : _ ≤ S.bs.length + 2 := c
   have z0 : S.bs.length = 0 := by rw [z1]; rfl
   exact ⟨a, b, by omega⟩
theorem b5A {S : MS} {i : Nat} (h : GR S i) : GR (rnd (decide (0 < i)) S) (i + 1) := by
 have hx := j0 h.g.g.L h.g.g.at_
 obtain ⟨a1, a2, a3⟩ := wT h (n := a6 S.L S.at_ % 3) (by omega)
 unfold rnd
 generalize bP (decide (0 < i)) { S with at_ := S.at_ + 1 } (a6 S.L S.at_ % 3) = Q at *
 obtain ⟨b1, b2, b3⟩ := b1U a1
 obtain ⟨c1, c2, c3, c4⟩ := b1V b1
 have hl := h.lo
 refine ⟨c1, fun _ => c4, fun _ => ?_, ?_, fun h => by omega⟩
 · rw [c2]; omega
 · rw [c3]; rw [a2] at b3; omega
theorem b1c (L : List Int) (hL : A5 L) : GR (Y1 L) 0 := by
 refine ⟨⟨⟨hL, by show (0 : Int) ≤ 3; omega, by show (6 : Int) ≤ 6; omega, fun x hx => ?_, fun x hx => ?_⟩, ?_, ?_⟩, fun h => by omega, fun h => by omega, ?_, fun _ => ⟨rfl, rfl, rfl⟩⟩
 · simp [Y1, j4.l] at hx
 · simp [Y1] at hx
 · simp [Y1, j4.l]
 · simp [Y1, s6.l]
 · simp [Y1, s6.l]
theorem a7H (L : List Int) (hL : A5 L) : ∀ i, GR (jG (Y1 L) i) i
 | 0 => b1c L hL
 | i + 1 => b5A (a7H L hL i)
theorem b5g {S : MS} {i : Nat} (h : GR S i) (hi : i ≤ 2) : z6 (fin (decide (0 < i)) S).code ∧ (fin (decide (0 < i)) S).code.r9 ≤ 12 := by
 have hx := j0 h.g.g.L h.g.g.at_
 obtain ⟨a1, a2, a3⟩ := wT h (n := a6 S.L S.at_ % 3) (by omega)
 have hl := h.lo
 unfold fin
 generalize bP (decide (0 < i)) { S with at_ := S.at_ + 1 } (a6 S.L S.at_ % 3) = Q at *
 have key : GS Q.kB (Q.kB.bs.length + 1) ∧ Q.kB.i.l.length ≤ 39 ∧ Q.kB.re ≤ 12 ∧ Q.kB.bs.length + 1 ≤ 18 := by
   unfold MS.kB
   split
   · obtain ⟨b1, b2, b3, b4⟩ := a7g a1.next
     have hre := b1.re
     generalize (MS.loop { Q with at_ := Q.at_ + 1 }).block = Q2 at *
     obtain ⟨a, ii, e, e1, e2, e3⟩ := L1 Q2 b1.g.L b1.g.at_
     have gi := b1.g.p8
     have q : Q2.p8.re = Q2.re ∧ Q2.p8.bs = Q2.bs ∧ Q2.p8.i = ii := by rw [e]; exact ⟨rfl, rfl, rfl⟩
     rw [b2] at e3
     have e3 : ii.l.length ≤ 0 + 8 := e3
     have b3 : Q2.bs.length = Q.bs.length + 3 := b3
     have b4 : Q2.lo.l.length = Q.lo.l.length + 1 := b4
     rw [a2] at b4
     exact ⟨by rw [q.2.1]; exact gi, by rw [q.2.2]; omega, by rw [q.1]; omega, by rw [q.2.1]; omega⟩
   · have g := a1.next
     have hre := g.re
     have hre : Q.re = 6 + 2 * Q.lo.l.length := hre
     rw [a2] at hre
     exact ⟨g.g, by have := g.il; omega, by show Q.re ≤ 12; omega, by show Q.bs.length + 1 ≤ 18; omega⟩
 generalize Q.kB = Q3 at *
 obtain ⟨k1, k2, k3, k4⟩ := key
 have hlen : (MS.code { Q3 with t := lM }).b.length = Q3.bs.length + 1 := by simp [MS.code]
 refine ⟨⟨by rw [hlen]; omega, ⟨by show 0 ≤ Q3.re; have := k1.re; omega, by show Q3.re ≤ 16; omega⟩, fun x hx => ?_⟩, k3⟩
 rw [hlen]
 have hx : x ∈ Q3.bs ++ [⟨Q3.i.l, lM⟩] := hx
 rcases List.mem_append.1 hx with hx | hx
 · exact (k1.b x hx).mono (Int.le_refl _) (by omega)
 · rw [List.mem_singleton.1 hx]; exact ⟨k1.i, b2B, k2⟩
theorem hZ (L : List Int) (hL : A5 L) : z6 (lQ L) ∧ (lQ L).r9 ≤ 12 := by
 have hx := j0 hL (at_ := 2) (by omega)
 exact b5g (a7H L hL (a7i L)) (by unfold a7i; omega)
end Go.Proofs.YtfccigmfcpimgaaDoor
end
