/- Own work (by an AI agent; no person has read it): part of a proof of the seat YtfccigmfcpimgaaDoor. -/
import Derived.Test.YtfccigmfcpimgaaDoorXc
set_option linter.unusedSimpArgs false
set_option linter.unusedVariables false
set_option maxRecDepth 100000
set_option maxHeartbeats 10000000
section
namespace Go.Proofs.YtfccigmfcpimgaaDoor
open Go.Ab
theorem b0m {l : List Value} (h : 2 + l.length = 10) : ∃ a b c d e f g i, l = [a, b, c, d, e, f, g, i] := by
 match l, h with
 | [a, b, c, d, e, f, g, i], _ => exact ⟨a, b, c, d, e, f, g, i, rfl⟩
 | _ :: _ :: _ :: _ :: _ :: _ :: _ :: _ :: _ :: _, h => simp at h; omega
def a6 (L : List Int) (at_ : Int) : Int := if (L.length : Int) < at_ + 1 then 0 else L.getD at_.toNat 0
theorem j0 {L : List Int} (hL : ∀ z, z < L.length → 0 ≤ L.getD z 0 ∧ L.getD z 0 < 256) {at_ : Int} (h : 0 ≤ at_) : 0 ≤ a6 L at_ ∧ a6 L at_ < 256 := by
 unfold a6
 split
 · omega
 · exact hL _ (by omega)
def b4Z := ZZ.mk (Zq @tJ (Zq @a4P (Zq @zL (Zq @a8d (Zq @b5 @b6)))))
theorem p9 (L : List Int) (at_ : Int) (h0 : 0 ≤ at_ ∧ at_ ≤ 1000000) (hL : ∀ z, z < L.length → 0 ≤ L.getD z 0 ∧ L.getD z 0 < 256) :
   jI Tryd.prog 30 10 [.ptr 0 0 0] [.b7 false (dJ L), .v (.int .i64 at_)] [.b7 false (dJ L), .v (.int .i64 (at_ + 1))] (.v (.int .i64 (a6 L at_))) := by
 refine ⟨⟨Tryd.f30, Tryd.func30, rfl, by kernel_rfl⟩, fun rest hr => ?_⟩
 obtain ⟨a, b, c, d, e, f, g, i, rfl⟩ := b0m hr
 have hs : at_ + 1 - 1 = at_ := by omega
 have hb : at_ < L.length → 0 ≤ L.getD at_.toNat 0 ∧ L.getD at_.toNat 0 < 256 := fun h => hL _ (by omega)
 refine Zf Tryd.func30 Tryd.ntmps30 ?_; try simp only [List.map_cons, List.map_nil, List.cons_append, List.nil_append]
 repeat' (first | refine Za ?_ | (with_reducible first | refine Zz.mk fun N hN mk hmk => ?_ | refine Zb.mk fun N hN => ?_ | refine Zi.mk fun h => ?_ | refine ⟨fun h => ?_, fun h => ?_⟩ | exact True.intro) | (refine hN _ ?_; clear hN N) | (refine Zk hmk ?_; clear hmk mk) | refine Zt (Zq b4Z.d hs) ?_ | fail)
 · rw [show a6 L at_ = 0 from if_pos h]
   refine Zr (()) [0] (Zq b4Z.d hs) ?_
   trivial
 · rw [show a6 L at_ = L.getD at_.toNat 0 from if_neg h]
   refine Zr (()) [0] (Zq b4Z.d hs) ?_
   trivial
def O5 (n : Int) : J8 := ⟨2, n, 0⟩
def B7 (v : Int) : J8 := ⟨1, 0, v⟩
theorem dD (n : Int) : e8 Tryd.prog 61 [.v (.int .i64 n)] (fun _ => .agg (O5 n).av) (fun _ => []) := by
 refine Zf Tryd.func61 Tryd.ntmps61 ?_; simp only [O5, J8.av]
 repeat' (first | refine Za ?_ | (with_reducible first | refine Zz.mk fun N hN mk hmk => ?_ | refine Zb.mk fun N hN => ?_ | refine Zi.mk fun h => ?_ | refine ⟨fun h => ?_, fun h => ?_⟩ | exact True.intro) | (refine hN _ ?_; clear hN N) | (refine Zk hmk ?_; clear hmk mk) | refine Zt trivial ?_ | fail)
theorem Q0 (n : Int) : e8 Tryd.prog 62 [.v (.int .i32 n)] (fun _ => .agg (B7 n).av) (fun _ => []) := by
 refine Zf Tryd.func62 Tryd.ntmps62 ?_; simp only [B7, J8.av]
 repeat' (first | refine Za ?_ | (with_reducible first | refine Zz.mk fun N hN mk hmk => ?_ | refine Zb.mk fun N hN => ?_ | refine Zi.mk fun h => ?_ | refine ⟨fun h => ?_, fun h => ?_⟩ | exact True.intro) | (refine hN _ ?_; clear hN N) | (refine Zk hmk ?_; clear hmk mk) | refine Zt trivial ?_ | fail)
def G8 (L : List Int) (at_ : Int) : J8 := O5 (a6 L at_ % 6)
def X2 (L : List Int) (at_ : Int) : J8 := if a6 L at_ % 3 = 0 then B7 (a6 L at_ / 3 - 20) else O5 (a6 L at_ / 3 % 6)
def b6d := ZZ.mk (Zq @tJ (Zq @a4P (Zq @b5 (Zq @b6 (Zq @p7 (Zq @O5.eq_1 @J8.av.eq_1))))))
theorem Y8 (L : List Int) (at_ : Int) (h0 : 0 ≤ at_ ∧ at_ ≤ 1000000) (hL : ∀ z, z < L.length → 0 ≤ L.getD z 0 ∧ L.getD z 0 < 256) :
   jI Tryd.prog 35 10 [.ptr 0 0 0] [.b7 false (dJ L), .v (.int .i64 at_)] [.b7 false (dJ L), .v (.int .i64 (at_ + 1))] (.agg (G8 L at_).av) := by
 refine ⟨⟨Tryd.f35, Tryd.func35, rfl, by kernel_rfl⟩, fun rest hr => ?_⟩
 obtain ⟨a, b, c, d, e, f, g, i, rfl⟩ := b0m hr
 have hb := j0 hL h0.1
 have CN := p9 L at_ h0 hL
 unfold G8
 generalize a6 L at_ = x at hb CN
 have CR := dD (x % 6)
 refine Zf Tryd.func35 Tryd.ntmps35 ?_; try simp only [List.map_cons, List.map_nil, List.cons_append, List.nil_append]
 repeat' (first | refine Za ?_ | (with_reducible first | refine Zz.mk fun N hN mk hmk => ?_ | refine Zb.mk fun N hN => ?_ | refine Zi.mk fun h => ?_ | refine ⟨fun h => ?_, fun h => ?_⟩ | exact True.intro) | refine Ze CN ?_ | refine Zc CR ?_ | (refine hN _ ?_; clear hN N) | (refine Zk hmk ?_; clear hmk mk) | refine Zt b6d.d ?_ | fail)
 refine Zr (()) [0] b6d.d ?_
 trivial
def b40 := ZZ.mk (Zq @tJ (Zq @a4P (Zq @b5 (Zq @b6 (Zq @qK (Zq @wP (Zq @p7 (Zq @b3o (Zq @O5.eq_1 (Zq @B7.eq_1 @J8.av.eq_1))))))))))
theorem dU (L : List Int) (at_ : Int) (h0 : 0 ≤ at_ ∧ at_ ≤ 1000000) (hL : ∀ z, z < L.length → 0 ≤ L.getD z 0 ∧ L.getD z 0 < 256) :
   jI Tryd.prog 36 10 [.ptr 0 0 0] [.b7 false (dJ L), .v (.int .i64 at_)] [.b7 false (dJ L), .v (.int .i64 (at_ + 1))] (.agg (X2 L at_).av) := by
 refine ⟨⟨Tryd.f36, Tryd.func36, rfl, by kernel_rfl⟩, fun rest hr => ?_⟩
 obtain ⟨a, b, c, d, e, f, g, i, rfl⟩ := b0m hr
 have hb := j0 hL h0.1
 have CN := p9 L at_ h0 hL
 unfold X2
 generalize a6 L at_ = x at hb CN
 have CR := dD (x / 3 % 6)
 have CC := Q0 (x / 3 - 20)
 refine Zf Tryd.func36 Tryd.ntmps36 ?_; try simp only [List.map_cons, List.map_nil, List.cons_append, List.nil_append]
 repeat' (first | refine Za ?_ | (with_reducible first | refine Zz.mk fun N hN mk hmk => ?_ | refine Zb.mk fun N hN => ?_ | refine Zi.mk fun h => ?_ | refine ⟨fun h => ?_, fun h => ?_⟩ | exact True.intro) | refine Ze CN ?_ | refine Zc CR ?_ | refine Zc CC ?_ | (refine hN _ ?_; clear hN N) | (refine Zk hmk ?_; clear hmk mk) | refine Zt b40.d ?_ | fail)
 · rw [if_pos h]
   refine Zr (()) [0] b40.d ?_
   trivial
 · rw [if_neg h]
   refine Zr (()) [0] b40.d ?_
   trivial
inductive j4 where
 | nil
 | own (l : List j9)
inductive s6 where
 | nil
 | own (l : List Loop)
def j4.cell : j4 → AV
 | .nil => .b7 true []
 | .own l => .own 2 0 l.length
def j4.rows : j4 → List Row
 | .nil => []
 | .own l => [⟨15, p8 l, 0⟩]
def j4.l : j4 → List j9
 | .nil => []
 | .own l => l
def j4.k : j4 → Nat
 | .nil => 2
 | .own _ => 3
def s6.cell (k : Nat) : s6 → AV
 | .nil => .b7 true []
 | .own l => .own k 0 l.length
def s6.rows : s6 → List Row
 | .nil => []
 | .own l => [⟨3, loops l, 0⟩]
def s6.l : s6 → List Loop
 | .nil => []
 | .own l => l
structure MS where
 L : List Int
 at_ : Int
 g : Int
 su : Int
 re : Int
 sl : Int
 pa : Int
 ar : List fL
 lo : s6
 bs : List c5
 i : j4
 t : u2
def MS.rows (S : MS) : List Row :=
 [⟨10, [[.b7 false (dJ S.L), .v (.int .i64 S.at_), .v (.int .i64 S.g), .v (.int .i64 S.su), .v (.int .i64 S.re), .v (.int .i64 S.sl), .v (.int .i64 S.pa), .b7 false (Q5 S.ar), S.lo.cell S.i.k, .own 1 0 (S.bs.length + 1)]], 0⟩,
  ⟨14, E0 S.bs ++ [S.i.cell :: S.t.av], 0⟩] ++ S.i.rows ++ S.lo.rows
theorem v7 (l : List c5) (e : List AV) : (E0 l ++ [e])[l.length]? = some e := by
 rw [List.getElem?_append_right (by rw [b8]; omega), b8]; simp
theorem w9 (l : List c5) (e : List AV) (f : List AV → List AV) : (E0 l ++ [e]).modify l.length f = E0 l ++ [f e] := by
 apply List.ext_getElem?
 intro j
 rw [List.getElem?_modify]
 by_cases h : l.length = j
 · subst h
   rw [v7, v7]; simp
 · simp only [h, if_false, id_map']
   by_cases h2 : j < l.length
   · rw [List.getElem?_append_left (by rw [b8]; exact h2), List.getElem?_append_left (by rw [b8]; exact h2)]
   · rw [List.getElem?_eq_none (by simp [b8]; omega), List.getElem?_eq_none (by simp [b8]; omega)]
theorem E4 (n : Nat) : ((n + 1 : Nat) : Int) - 1 = n := by omega
def MS.put (S : MS) (i : j9) : MS := { S with i := .own (S.i.l ++ [i]) }
def a9J := ZZ.mk (Zq @E4 (Zq @v7 (Zq @w9 (Zq @b8 (Zq @m6 (Zq @u4 (Zq @l0 (Zq @c9 (Zq @m7 (Zq @y0 (Zq @p0 (Zq @o7 (Zq @y3 (Zq @n5 (Zq @y5 (Zq @y4 (Zq @x8 (Zq @x7 (Zq @o5 (Zq @b5 @b6))))))))))))))))))))
theorem U1 (S : MS) (i : j9) (hb : S.bs.length ≤ 1000) (hi : S.i.l.length ≤ 1000000) : B2 Tryd.prog 63 [.ptr 0 0 0, .agg i.av] S.rows 1 (fun _ : Unit => True) (fun _ => .Q8 []) (fun _ => (S.put i).rows) := by
 obtain ⟨L, at_, g, su, re, sl, pa, ar, lo, bs, ii, t⟩ := S
 obtain ⟨op, sub, n, ⟨dk, dn, dv⟩, ⟨ak, an, av⟩, ⟨bk, bn, bv⟩, ⟨ck, cn, cv⟩⟩ := i
 simp only at hb hi
 cases lo <;> cases ii
 all_goals simp only [j4.l] at hi
 all_goals
   simp only [MS.rows, MS.put, j4.cell, j4.rows, j4.l, j4.k, s6.cell, s6.rows, s6.l, j9.av, List.cons_append, List.nil_append, List.append_nil]; refine Zf Tryd.func63 Tryd.ntmps63 ?_
   repeat' (first | refine Za ?_ | (with_reducible first | refine Zz.mk fun N hN mk hmk => ?_ | refine Zb.mk fun N hN => ?_ | refine Zi.mk fun h => ?_ | refine ⟨fun h => ?_, fun h => ?_⟩ | exact True.intro) | (refine hN _ ?_; clear hN N) | (refine Zk hmk ?_; clear hmk mk) | refine Zt a9J.d ?_ | fail)
 · refine Zr (()) [0, 1, 216] a9J.d ?_
   trivial
 · refine Zr (()) [0, 1, 216] a9J.d ?_
   trivial
 · refine Zr (()) [0, 1, 216, 2] a9J.d ?_
   trivial
 · refine Zr (()) [0, 1, 216, 3] a9J.d ?_
   trivial
def A5 (L : List Int) : Prop := ∀ z, z < L.length → 0 ≤ L.getD z 0 ∧ L.getD z 0 < 256
structure gI (S : MS) (n : Int) : Prop where
 L : A5 S.L
 at_ : 0 ≤ S.at_ ∧ S.at_ ≤ n
 bs : S.bs.length ≤ 1000
 il : S.i.l.length ≤ n
 ar : S.ar.length = 5
 al : ∀ z, z < 5 → 1 ≤ (S.ar.getD z A0).len ∧ (S.ar.getD z A0).len ≤ 1000
def pn (S : MS) (pr : Bool) : Int := if a6 S.L S.at_ % 5 = 3 ∧ pr = false then 0 else a6 S.L S.at_ % 5
def MS.vM (S : MS) (pr : Bool) : j9 := ⟨3, 17, 0, G8 S.L (S.at_ + 1), X2 S.L (S.at_ + 1 + 1), B7 (w32 ((S.ar.getD (pn S pr).toNat A0).len - 1)), O0⟩
def MS.place (S : MS) (pr : Bool) : MS := { S with at_ := S.at_ + 1 + 1 + 1 }.put (S.vM pr)
end Go.Proofs.YtfccigmfcpimgaaDoor
end
