/- Own work (by an AI agent; no person has read it): part of a proof of the seat YtfccigmfcpimgaaDoor. -/
import Derived.Lib.LaidTab
import Derived.Lib.TrailingZeros
import Derived.LoopNIn
import Derived.RangeFuncNested
import Derived.RangeFuncBound
import Derived.Shelf.Abstract
import Derived.Deep.Slices
import Derived.ProofKit
import Derived.OpenShut
import Derived.Test.YtfccigmfcpimgaaDoorTie
import Derived.Test.YtfccigmfcpimgaaDoorCards
import Derived.LaidMore
import Derived.Lay
import Derived.SevenTiedAt
import Derived.Stop.Joined
import Derived.Shelf.Vars
import Derived.Deep.DeepHandedRow
import Derived.Test.YtfccigmfcpimgaaDoorXb
set_option linter.unusedSimpArgs false
set_option linter.unusedVariables false
set_option maxRecDepth 100000
set_option maxHeartbeats 10000000
section
namespace Go.Ab
open Go.RowKit (Below)
section
section
variable {P : Program} {f : FuncId} {xs xs0 : List AV} {rs : List Row} {m : Nat} {α : Type} {I : α → Prop} {y : α → AV} {rs' : α → List Row} {s : LS} {K : AV → LS → Prop}
theorem a8U {h : Nat → RS} {ids : List Nat} {rows : List Row} (hp : a7 h (s5 ids 0) ids = some rows) {id : Nat} (hi : id ∈ ids) : ∃ r, h id = .live r := by
 obtain ⟨h1, h2⟩ := cJ hp
 obtain ⟨j, hj, rfl⟩ := List.mem_iff_getElem.1 hi
 have hj2 : j < rows.length := by omega
 obtain ⟨id', r, e1, e2, _⟩ := h2 j rows[j] (by simp [hj2])
 rw [List.getElem?_eq_getElem hj] at e1
 cases e1
 exact ⟨r, e2⟩
theorem a5X [j5 P] (C : B2 P f xs rs m I y rs') (ids : List Nat) (hnd : ids.Nodup) (h1 : a7 (LS.hf s.h) (s5 ids 0) ids = some rs) (h2 : xs0.mapM (m8 (s5 ids 0) 4) = some xs) (hm : m ≤ ids.length)
   (h3 : ∀ a, I a → m ≤ (rs' a).length ∧ (rs' a).length ≤ m + 8)
   (hK : ∀ a, I a → K (B8 (lJ ids m s.nx) 4 (y a)) ⟨s.t, cC ids m s.nx ((rs' a).map (bS (lJ ids m s.nx))) s.h, s.nx + 8⟩) : xL P f xs0 s K := by
 refine ⟨C.1, fun G M0 w0 ρ a w args hgl R hargs => ?_⟩
 obtain ⟨R, hok⟩ := R
 have hlive : ∀ id ∈ ids, ∃ r, LS.hf s.h id = .live r := fun id hi => a8U h1 hi
 have hnf : ∀ id ∈ ids, LS.hf s.h id ≠ .free := fun id hi e => by obtain ⟨r, hr⟩ := hlive id hi; rw [hr] at e; cases e
 have hlt : ∀ id, LS.hf s.h id ≠ .free → id < s.nx := fun id h => by
   rcases Nat.lt_or_ge id s.nx with h' | h'
   · exact h'
   · exact absurd (LS.free (s := s) hok h') h
 have hids : ∀ {id j}, s5 ids 0 id = some j → id ∈ ids := fun h => List.mem_of_getElem? (wA h)
 let M1 : Nat → Nat → Prop := fun b o => M0 b o ∨ ∃ id r β z, id ∉ ids ∧ LS.hf s.h id = .live r ∧ ρ id = some (b, β, z) ∧ β + r.fro * z ≤ o
 have hM1 : ∀ b o, M1 b o → u1 M0 ρ (LS.hf s.h) b o := by
   rintro b o (g | ⟨id, r, β, z, _, g1, g2, g3⟩)
   · exact .inl g
   · exact .inr ⟨id, r, β, z, g1, g2, g3⟩
 have hm1 : ∀ b o, M1 b o → b < w.heap.size ∧ ∀ id ∈ ids, ∀ r p, LS.hf s.h id = .live r → ρ id = some p → p.1 ≠ b := by
   rintro b o (g | ⟨id, r, β, z, g0, g1, g2, g3⟩)
   · exact ⟨(R.toH.m0 b o g).1, fun id _ r p => (R.toH.m0 b o g).2 id r p⟩
   · refine ⟨(R.cP g1 g2).1, fun id' hi r' p hl' hp' e => ?_⟩
     obtain ⟨b', β', z'⟩ := p
     simp only at e
     subst e
     have := R.inj _ _ _ _ _ _ _ _ _ g1 hl' g2 hp'
     subst this
     exact g0 hi
 obtain ⟨H, up, hM⟩ := rF R.toH hM1 hnd hm1 h1
 have hargs' : RC (u1 M1 (renρ ρ ids 0) (u5 0 rs)) (renρ ρ ids 0) w xs args := by
   refine ⟨by rw [M3 h2]; exact hargs.1, fun i x u e1 e2 => ?_⟩
   obtain ⟨x0, e3, e4⟩ := F4 h2 i x e1
   exact up 4 x0 x u e4 (hargs.2 i x0 u e3 e2)
 refine (C.2 M1 w0 _ w args hgl H hargs').mono ?_
 rintro e w' ⟨v, b, ρ', he, hI, H', hv, hst, F⟩
 obtain ⟨l1, l2⟩ := h3 b hI
 generalize hn : (rs' b).length = n at l1 l2
 obtain ⟨g, hg⟩ : ∃ g, lJ ids m s.nx = g := ⟨_, rfl⟩
 obtain ⟨rows, hrows⟩ : ∃ rows, (rs' b).map (bS g) = rows := ⟨_, rfl⟩
 have hrl : rows.length = n := by rw [← hrows]; simpa using hn
 obtain ⟨ρ2, hρ2⟩ : ∃ ρ2 : Nat → Option (Nat × Nat × Nat), ρ2 = fun id => if s.nx ≤ id ∧ id < s.nx + (n - m) then ρ' (m + (id - s.nx)) else ρ id := ⟨_, rfl⟩
 have hKb := hK b hI
 rw [hg, hrows] at hKb
 have hh : ∀ id, LS.hf (cC ids m s.nx rows s.h) id = if s.nx ≤ id ∧ id < s.nx + (n - m) then .live (rows.getD (m + (id - s.nx)) ⟨0, [], 0⟩) else vP ids m rows id (LS.hf s.h id) := fun id => by
   rw [b2H hok hnf, hrl]
 have rlive : ∀ j, j < n → u5 0 (rs' b) j = .live ((rs' b).getD j ⟨0, [], 0⟩) := fun j hj => by
   unfold u5; rw [if_pos (by omega)]; rfl
 have rrow : ∀ j, j < n → rows.getD j ⟨0, [], 0⟩ = bS g ((rs' b).getD j ⟨0, [], 0⟩) := fun j hj => by
   rw [← hrows, List.getD_eq_getElem?_getD, List.getElem?_map, List.getD_eq_getElem?_getD, List.getElem?_eq_getElem (by omega)]; rfl
 have hρlt : ∀ j p, ρ' j = some p → j < n := fun j p h => by
   rcases Nat.lt_or_ge j n with h' | h'
   · exact h'
   · have := H'.free j (by unfold u5; rw [if_neg (by omega)])
     rw [this] at h; cases h
 have hρids : ∀ j, j < m → ρ' j = ρ (ids.getD j 0) := fun j hj => by
   have hj2 : j < ids.length := by omega
   rw [hst j hj]
   simp only [renρ, Nat.zero_le, if_true, Nat.sub_zero, List.getElem?_eq_getElem hj2, Option.bind_some, List.getD_eq_getElem?_getD, Option.getD_some]
 have hmem : ∀ j, j < ids.length → ids.getD j 0 ∈ ids := fun j hj => by
   rw [List.getD_eq_getElem?_getD, List.getElem?_eq_getElem hj]; exact List.getElem_mem hj
 have hgj : ∀ j p, ρ' j = some p → ρ2 (g j) = some p := fun j p h => by
   have hj := hρlt j p h
   rw [← hg, hρ2]
   unfold lJ
   by_cases hjm : j < m
   · have := hlt _ (hnf _ (hmem j (by omega)))
     rw [if_pos hjm]
     simp only
     rw [if_neg (by omega), ← hρids j hjm]; exact h
   · rw [if_neg hjm]
     simp only
     rw [if_pos (by omega), show m + (s.nx + (j - m) - s.nx) = j from by omega]; exact h
 have hρ : ∀ id p, ρ id = some p → ρ2 id = some p := fun id p h => by
   rw [hρ2]
   simp only
   by_cases hid : s.nx ≤ id ∧ id < s.nx + (n - m)
   · have := R.free id (LS.free (s := s) hok hid.1)
     rw [this] at h; cases h
   · rw [if_neg hid]; exact h
 have ent : ∀ {id r}, LS.hf (cC ids m s.nx rows s.h) id = .live r → (∃ j, j < n ∧ r = bS g ((rs' b).getD j ⟨0, [], 0⟩) ∧ ρ2 id = ρ' j ∧ ((s.nx ≤ id ∧ j = m + (id - s.nx)) ∨ (id ∈ ids ∧ j < m ∧ ids[j]? = some id))) ∨ (id ∉ ids ∧ LS.hf s.h id = .live r ∧ ρ2 id = ρ id) := by
   intro id r h
   rw [hh] at h
   by_cases hid : s.nx ≤ id ∧ id < s.nx + (n - m)
   · rw [if_pos hid] at h
     cases h
     exact .inl ⟨m + (id - s.nx), by omega, rrow _ (by omega), by rw [hρ2]; simp only; rw [if_pos hid], .inl ⟨hid.1, rfl⟩⟩
   · rw [if_neg hid] at h
     have e2 : ρ2 id = ρ id := by rw [hρ2]; simp only; rw [if_neg hid]
     unfold vP at h
     split at h
     · rename_i j hj
       split at h
       · rename_i hjm
         cases h
         have e3 := wA hj
         refine .inl ⟨j, by omega, rrow _ (by omega), ?_, .inr ⟨hids hj, hjm, e3⟩⟩
         rw [e2, hρids j hjm, List.getD_eq_getElem?_getD, e3]; rfl
       · cases h
     · rename_i hj
       refine .inr ⟨fun hi => ?_, h, e2⟩
       obtain ⟨j, hj'⟩ := a9e hi
       rw [hj] at hj'; cases hj'
 have rsz : ∀ row : Row, (bS g row).sz = row.sz ∧ (bS g row).fro = row.fro ∧ (bS g row).es.length = row.es.length := fun row => by
   unfold bS; split <;> simp
 have hMM : ∀ b' o, u1 M0 ρ2 (LS.hf (cC ids m s.nx rows s.h)) b' o → u1 M1 ρ' (u5 0 (rs' b)) b' o := by
   rintro b' o (g1 | ⟨id, r, β, z, g1, g2, g3⟩)
   · exact .inl (.inl g1)
   · rcases ent g1 with ⟨j, hj, rfl, e1, _⟩ | ⟨e0, e1, e2⟩
     · exact .inr ⟨j, _, β, z, rlive j hj, by rw [← e1]; exact g2, by rw [(rsz _).2.1] at g3; exact g3⟩
     · exact .inl (.inr ⟨id, r, β, z, e0, e1, by rw [← e2]; exact g2, g3⟩)
 have hc : ∀ b' o c, ¬ u1 M0 ρ (LS.hf s.h) b' o → w.cell? ⟨b', o, none⟩ = some c → ¬ u1 M0 ρ2 (LS.hf (cC ids m s.nx rows s.h)) b' o ∧ w'.cell? ⟨b', o, none⟩ = some c := by
   intro b' o c g1 g2
   obtain ⟨q1, q2⟩ := F.hc b' o c (fun h => g1 (hM b' o h)) g2
   exact ⟨fun h => q1 (hMM b' o h), q2⟩
 have upB : ∀ (k : Nat) {x : AV} {u : Value}, u3 (u1 M1 ρ' (u5 0 (rs' b))) ρ' w' x u → u3 (u1 M0 ρ2 (LS.hf (cC ids m s.nx rows s.h))) ρ2 w' (B8 g k x) u := fun k x u h => a5C hMM hgj k h
 have hkeep : ∀ b' x, w.heap[b']? = some x → (∀ id ∈ ids, ∀ p, ρ id = some p → p.1 ≠ b') → w'.heap[b']? = some x := fun b' x h1 h2 => by
   refine F.hk b' x h1 fun j p hp => ?_
   simp only [renρ, Nat.zero_le, if_true, Nat.sub_zero] at hp
   cases hj : ids[j]? with
   | none => rw [hj] at hp; cases hp
   | some id => rw [hj] at hp; exact h2 id (List.mem_of_getElem? hj) p hp
 have hother : ∀ {id r b' β z}, id ∉ ids → LS.hf s.h id = .live r → ρ id = some (b', β, z) → ∀ id' ∈ ids, ∀ p, ρ id' = some p → p.1 ≠ b' := by
   intro id r b' β z h1 h2 h3 id' h4 p h5 e
   obtain ⟨r', hr'⟩ := hlive id' h4
   obtain ⟨b2, β2, z2⟩ := p
   simp only at e
   subst e
   have := R.inj _ _ _ _ _ _ _ _ _ h2 hr' h3 h5
   subst this
   exact h1 h4
 have hmaps : ∀ b' es c, w.heap[b']? = some (Obj.map es c) → w'.heap[b']? = some (Obj.map es c) := fun b' es c h => by
   refine hkeep b' _ h fun id hi p hp e => ?_
   obtain ⟨r, hr⟩ := hlive id hi
   obtain ⟨b2, β2, arr, e', p1, p2, p3, _⟩ := R.live id r hr
   rw [hp] at p1
   cases p1
   simp only at e
   subst e
   rw [h] at p3; cases p3
 have hnew : ∀ {id r p}, LS.hf (cC ids m s.nx rows s.h) id = .live r → ρ2 id = some p → (∃ j r0 q, LS.hf s.h j = .live r0 ∧ ρ j = some q ∧ q.1 = p.1) ∨ w.heap.size ≤ p.1 := by
   intro id r p h1 h2
   rcases ent h1 with ⟨j, hj, rfl, e1, _⟩ | ⟨e0, e1, e2⟩
   · rw [e1] at h2
     rcases F.hn j _ p (rlive j hj) h2 with ⟨i, q, q1, q2⟩ | q
     · simp only [renρ, Nat.zero_le, if_true, Nat.sub_zero] at q1
       cases hi : ids[i]? with
       | none => rw [hi] at q1; cases q1
       | some id' =>
         rw [hi] at q1
         obtain ⟨r0, hr0⟩ := hlive id' (List.mem_of_getElem? hi)
         exact .inl ⟨id', r0, q, hr0, q1, q2⟩
     · exact .inr q
   · exact .inl ⟨id, r, p, e1, by rw [← e2]; exact h2, rfl⟩
 refine ⟨v, _, _, ρ2, he, hKb, ⟨?_, b2u hok (by omega)⟩, upB 4 hv⟩
 refine { n := R.n, tm := fun t => (R.tm t).mono hρ hc F.hs, live := ?_, free := ?_, inj := ?_, V4 := H'.V4, m0 := R.m0, defers := R.defers, oR := ?_, mQ := fun x u hx => (R.mQ x u hx).mono (fun _ _ h => h) hc F.hs, mR := ?_, iT := ?_, eG := ?_, pM := ?_, qE := fun b' x h => F.hs _ _ (R.qE b' x h) }
 · intro id r h
   rcases ent h with ⟨j, hj, rfl, e1, _⟩ | ⟨e0, e1, e2⟩
   · obtain ⟨b', β, arr, e', p1, p2, p3, p4, p5, p6⟩ := H'.live j _ (rlive j hj)
     obtain ⟨q1, q2, q3⟩ := rsz ((rs' b).getD j ⟨0, [], 0⟩)
     refine ⟨b', β, arr, e', by rw [e1, q1]; exact p1, p2, p3, by rw [q1, q3]; exact p4, ?_, ?_⟩
     · intro z hz
       rw [q1]
       unfold bS at hz
       split at hz
       · exact p5 z hz
       · simp only [List.mem_map] at hz
         obtain ⟨z0, hz0, rfl⟩ := hz
         rw [List.length_map]; exact p5 z0 hz0
     · intro i k ee x u g1 g2 g3
       rw [q1] at g3
       unfold bS at g1
       split at g1
       · rename_i hpl
         have hp : x.plain = true := by
           have := List.all_eq_true.1 hpl ee (List.mem_of_getElem? g1)
           exact List.all_eq_true.1 this x (List.mem_of_getElem? g2)
         exact (((p6 i k ee x u g1 g2 g3).aH hp).up).qU hMM
       · simp only [List.getElem?_map] at g1
         cases hq : ((rs' b).getD j ⟨0, [], 0⟩).es[i]? with
         | none => rw [hq] at g1; cases g1
         | some e0 =>
           rw [hq] at g1
           simp only [Option.map_some, Option.some.injEq] at g1
           subst g1
           rw [List.getElem?_map] at g2
           cases hx : e0[k]? with
           | none => rw [hx] at g2; cases g2
           | some x0 =>
             rw [hx] at g2
             cases g2
             exact upB 3 (p6 i k e0 x0 u hq hx g3)
   · obtain ⟨b', β, arr, e', p1, p2, p3, p4, p5, p6⟩ := R.live id r e1
     exact ⟨b', β, arr, e', by rw [e2]; exact p1, p2, hkeep _ _ p3 (hother e0 e1 p1), p4, p5, fun i j e x u g1 g2 g3 => (p6 i j e x u g1 g2 g3).mono hρ hc F.hs⟩
 · intro id h
   have h : LS.hf (cC ids m s.nx rows s.h) id = .free := h
   rw [hh] at h
   by_cases hid : s.nx ≤ id ∧ id < s.nx + (n - m)
   · rw [if_pos hid] at h; cases h
   · rw [if_neg hid] at h
     rw [hρ2]
     simp only
     rw [if_neg hid]
     refine R.free id ?_
     unfold vP at h
     split at h
     · split at h <;> cases h
     · exact h
 · intro i1 i2 r1 r2 b' β β' z z' g1 g2 g3 g4
   have new_old : ∀ {i1 i2 r1 r2 b' β β' z z'}, (∃ j, j < n ∧ r1 = bS g ((rs' b).getD j ⟨0, [], 0⟩) ∧ ρ2 i1 = ρ' j ∧ ((s.nx ≤ i1 ∧ j = m + (i1 - s.nx)) ∨ (i1 ∈ ids ∧ j < m ∧ ids[j]? = some i1))) → (i2 ∉ ids ∧ LS.hf s.h i2 = .live r2 ∧ ρ2 i2 = ρ i2) → ρ2 i1 = some (b', β, z) → ρ2 i2 = some (b', β', z') → False := by
     rintro i1 i2 r1 r2 b' β β' z z' ⟨j, hj, rfl, e1, _⟩ ⟨f0, f1, f2⟩ q1 q2
     rw [e1] at q1
     rw [f2] at q2
     rcases F.hn j _ _ (rlive j hj) q1 with ⟨i, q, t1, t2⟩ | t
     · simp only [renρ, Nat.zero_le, if_true, Nat.sub_zero] at t1
       cases hi : ids[i]? with
       | none => rw [hi] at t1; cases t1
       | some id' =>
         rw [hi] at t1
         exact hother f0 f1 q2 id' (List.mem_of_getElem? hi) q t1 t2
     · have := (R.cP f1 q2).1
       simp only at t
       omega
   rcases ent g1 with c1 | c1 <;> rcases ent g2 with c2 | c2
   · obtain ⟨j1, hj1, rfl, e1, d1⟩ := c1
     obtain ⟨j2, hj2, rfl, e2, d2⟩ := c2
     rw [e1] at g3
     rw [e2] at g4
     have hj := H'.inj _ _ _ _ _ _ _ _ _ (rlive j1 hj1) (rlive j2 hj2) g3 g4
     subst hj
     rcases d1 with ⟨d1, d1'⟩ | ⟨d1, d1', d1''⟩ <;> rcases d2 with ⟨d2, d2'⟩ | ⟨d2, d2', d2''⟩
     · omega
     · omega
     · omega
     · rw [d1''] at d2''; cases d2''; rfl
   · exact (new_old c1 c2 g3 g4).elim
   · exact (new_old c2 c1 g4 g3).elim
   · obtain ⟨_, f1, f2⟩ := c1
     obtain ⟨_, f3, f4⟩ := c2
     rw [f2] at g3
     rw [f4] at g4
     exact R.inj _ _ _ _ _ _ _ _ _ f1 f3 g3 g4
 · intro id k cs h i x hx
   have h : LS.hf (cC ids m s.nx rows s.h) id = .B3 k cs := h
   rw [hh] at h
   by_cases hid : s.nx ≤ id ∧ id < s.nx + (n - m)
   · rw [if_pos hid] at h; cases h
   · rw [if_neg hid] at h
     unfold vP at h
     split at h
     · split at h <;> cases h
     · exact (R.oR id k cs h i x hx).mono hρ hc F.hs
 · intro id b' q f' h
   have h : LS.hf (cC ids m s.nx rows s.h) id = .mp b' q f' := h
   rw [hh] at h
   by_cases hid : s.nx ≤ id ∧ id < s.nx + (n - m)
   · rw [if_pos hid] at h; cases h
   · rw [if_neg hid] at h
     unfold vP at h
     split at h
     · split at h <;> cases h
     · obtain ⟨q1, q2⟩ := R.mR id b' q f' h
       exact ⟨q1, q2.keep hmaps⟩
 · intro b' o h
   refine hkeep b' o (R.iT b' o h) fun id hi p hp e => ?_
   obtain ⟨r, hr⟩ := hlive id hi
   have := R.eG id r p hr hp
   rw [e, h] at this
   cases this
 · intro id r p h hp
   rcases hnew h hp with ⟨j, r0, q, h1, h2, h3⟩ | h1
   · rw [← h3]; exact R.eG j r0 q h1 h2
   · exact R.a7d h1
 · intro id b' q f' h
   have h : LS.hf (cC ids m s.nx rows s.h) id = .mp b' q f' := h
   rw [hh] at h
   by_cases hid : s.nx ≤ id ∧ id < s.nx + (n - m)
   · rw [if_pos hid] at h; cases h
   · rw [if_neg hid] at h
     unfold vP at h
     split at h
     · split at h <;> cases h
     · exact R.pM id b' q f' h
end
end
section
def aD (fn : Func) (xs : List AV) (rs : List Row) (m : Nat) : LS :=
 ⟨xs ++ List.replicate (fn.ntmps - xs.length) .dead, j3 0 rs ++ [(7, .B3 99 ((List.range m).map fun j => .ptr j 0 0))], 8⟩
def a1o (P : Program) (fn : Func) (rs : List Row) (m : Nat) {α : Type} (I : α → Prop) (y : α → AV) (rs' : α → List Row) (e : Exit) (s : LS) : Prop :=
 (match e with | .normal | .ret => True | _ => False) ∧ ∃ x, xH P s.n9 fn.results.toList = some x ∧ ∃ a, I a ∧ ∃ ids : List Nat, ids.Nodup ∧ (rs' a).length = ids.length ∧ ((rs' a).take m).map Row.sz = (rs.take m).map Row.sz ∧
   (∃ gid, x9 99 s.h = some (gid, (ids.take m).map fun j => .ptr j 0 0) ∧ LS.hf s.h gid = .B3 99 ((ids.take m).map fun j => .ptr j 0 0)) ∧ m8 (s5 ids 0) 4 x = some (y a) ∧ a7 (LS.hf s.h) (s5 ids 0) ids = some (rs' a)
section
variable {P : Program} {f : FuncId} {fn : Func} {c : Code} {xs : List AV} {rs : List Row} {m : Nat} {α : Type} {I : α → Prop} {y : α → AV} {rs' : α → List Row}
theorem b2I (fn : Func) (xs : List AV) (rs : List Row) (m : Nat) (id : Nat) (hrs : rs.length ≤ 7) : LS.hf (aD fn xs rs m).h id = if id = 7 then .B3 99 ((List.range m).map fun j => .ptr j 0 0) else u5 0 rs id := by
 simp only [aD, LS.hf, lookup_append, dN, u5]
 by_cases h1 : 0 ≤ id ∧ id < 0 + rs.length
 · rw [if_pos h1, if_neg (by omega), if_pos h1]; rfl
 · rw [if_neg h1, if_neg h1]
   by_cases h2 : id = 7
   · subst h2; simp
   · have : (id == 7) = false := by simpa using h2
     simp only [List.lookup_cons, this, List.lookup_nil, if_neg h2]
     rfl
open Classical in
theorem a3X [j5 P] (hf : P.funcs[f]? = some fn) (hb : fn.body = some c) (hn : (fn.name == "runtime.NumGoroutine") = false) (hrs : rs.length ≤ 7) (hm : m ≤ rs.length)
   (h : gH (md := false) P c (aD fn xs rs m) (a1o P fn rs m I y rs')) : B2 P f xs rs m I y rs' := by
 refine ⟨⟨fn, hf, by simp [hb], hn⟩, fun M0 w0 ρ w args hg H hargs => ?_⟩
 have rlive : ∀ j, j < rs.length → u5 0 rs j = .live (rs.getD j ⟨0, [], 0⟩) := fun j hj => by
   unfold u5; rw [if_pos (by omega)]; rfl
 have rlt : ∀ j p, ρ j = some p → j < rs.length := fun j p h => by
   rcases Nat.lt_or_ge j rs.length with h' | h'
   · exact h'
   · have := H.free j (by unfold u5; rw [if_neg (by omega)])
     rw [this] at h; cases h
 have hfi := fun id => b2I fn xs rs m id hrs
 have hMo : u1 M0 ρ (LS.hf (aD fn xs rs m).h) = u1 M0 ρ (u5 0 rs) := dH fun id r => by
   rw [hfi]
   by_cases h7 : id = 7
   · subst h7
     rw [if_pos rfl]
     unfold u5
     rw [if_neg (by omega)]
     simp
   · rw [if_neg h7]
 let kp : Nat → Option Obj := fun b => if ∃ j p, ρ j = some p ∧ p.1 = b then none else w.heap[b]?
 let G : Gh := ⟨fun _ i => match ρ i with | some (b, β, _) => .pointer (some ⟨b, β, none⟩) | none => undef,
   fun x u => ∃ b o c, ¬ u1 M0 ρ (u5 0 rs) b o ∧ w.cell? ⟨b, o, none⟩ = some c ∧ x = .aP [[.v c]] 0 0 ∧ u = .pointer (some ⟨b, o, none⟩), kp, w.shape?, []⟩
 have R0 : F6 G M0 w0 (aD fn xs rs m) ρ { tmps := args ++ Array.replicate (fn.ntmps - args.size) undef, defers := [] } w := by
   refine ⟨{ n := ?_, tm := ?_, live := ?_, free := ?_, inj := ?_, V4 := H.V4, m0 := ?_, defers := rfl, oR := ?_, mQ := ?_, mR := ?_, iT := ?_, eG := ?_, pM := ?_, qE := fun _ _ h => h }, ?_⟩
   · simp [aD, LS.n9, hargs.1]
   · intro t
     show u3 (u1 M0 ρ (LS.hf (aD fn xs rs m).h)) ρ w (LS.tf (aD fn xs rs m).t t) _
     rw [hMo]
     simp only [aD, LS.tf, List.getD_eq_getElem?_getD]
     by_cases ht : t < xs.length
     · rw [List.getElem?_append_left ht, List.getElem?_eq_getElem ht, Option.getD_some]
       have h2 : t < args.size := by rw [hargs.1]; exact ht
       have e : (args ++ Array.replicate (fn.ntmps - args.size) undef).getD t undef = args[t] := by
         rw [Array.getD_eq_getD_getElem?, Array.getElem?_append_left h2]
         simp [h2]
       rw [e]
       exact hargs.2 t xs[t] args[t] (by simp [ht]) (by simp [h2])
     · rw [List.getElem?_append_right (by omega)]
       have : ((List.replicate (fn.ntmps - xs.length) AV.dead)[t - xs.length]?).getD .dead = .dead := by
         rw [List.getElem?_replicate]; split <;> rfl
       rw [this]
       exact .dead _
   · intro id r h
     have h : LS.hf (aD fn xs rs m).h id = .live r := h
     rw [hfi] at h
     split at h
     · cases h
     · show ∃ b β arr e, ρ id = some (b, β, r.sz) ∧ _ ∧ _ ∧ _ ∧ _ ∧ ∀ (i j : Nat) e x u, _ → _ → _ → u3 (u1 M0 ρ (LS.hf (aD fn xs rs m).h)) ρ w x u
       rw [hMo]; exact H.live id r h
   · intro id h
     have h : LS.hf (aD fn xs rs m).h id = .free := h
     rw [hfi] at h
     split at h
     · cases h
     · exact H.free id h
   · intro i1 i2 r1 r2 b β β' z z' h1 h2 h3 h4
     have h1 : LS.hf (aD fn xs rs m).h i1 = .live r1 := h1
     have h2 : LS.hf (aD fn xs rs m).h i2 = .live r2 := h2
     rw [hfi] at h1 h2
     split at h1
     · cases h1
     · split at h2
       · cases h2
       · exact H.inj i1 i2 r1 r2 b β β' z z' h1 h2 h3 h4
   · intro b o g
     obtain ⟨g1, g2⟩ := H.m0 b o g
     refine .inr ⟨w.heap[b], ?_⟩
     show kp b = _
     simp only [kp]
     rw [if_neg, Array.getElem?_eq_getElem g1]
     rintro ⟨j, p, q1, q2⟩
     exact g2 j _ p (rlive j (rlt j p q1)) q1 q2
   · intro id k cs hgh i x hx
     have hgh : LS.hf (aD fn xs rs m).h id = .B3 k cs := hgh
     show u3 (u1 M0 ρ (LS.hf (aD fn xs rs m).h)) ρ w x _
     rw [hMo]
     rw [hfi] at hgh
     split at hgh
     · cases hgh
       rw [List.getElem?_map] at hx
       cases hi : (List.range m)[i]? with
       | none => rw [hi] at hx; cases hx
       | some j =>
         rw [hi] at hx
         cases hx
         have hj : j < m ∧ j = i := by
           have := (List.getElem?_eq_some_iff.1 hi)
           obtain ⟨l1, l2⟩ := this
           simp at l1 l2
           exact ⟨by omega, l2.symm⟩
         obtain ⟨hj, rfl⟩ := hj
         obtain ⟨b, β, arr, e, p1, _⟩ := H.live j _ (rlive j (by omega))
         show u3 _ ρ w (.ptr j 0 0) (match ρ j with | some (b, β, _) => .pointer (some ⟨b, β, none⟩) | none => undef)
         rw [p1]
         have := u3.ptr (M := u1 M0 ρ (u5 0 rs)) (w := w) j 0 0 b β _ p1
         simpa using this
     · unfold u5 at hgh
       split at hgh <;> cases hgh
   · rintro x u ⟨b, o, c', g1, g2, rfl, rfl⟩
     show u3 (u1 M0 ρ (LS.hf (aD fn xs rs m).h)) _ w _ _
     rw [hMo]
     have := u3.aP (M := u1 M0 ρ (u5 0 rs)) (ρ := fun _ => none) (w := w) [[AV.v c']] 0 0 b o 1 (fun _ _ => c') (by simp) (by simp) (by simp) (fun i j hi hj => by
       have e1 : i = 0 := by simpa using hi
       have e2 : j = 0 := by omega
       subst e1; subst e2
       simpa using ⟨g1, g2⟩) (fun i j e x h1 h2 => by
       match i, h1 with
       | 0, h1 =>
         cases h1
         match j, h2 with
         | 0, h2 => cases h2; exact .v _)
     simpa using this
   · intro id b q f' hh
     have hh : LS.hf (aD fn xs rs m).h id = .mp b q f' := hh
     rw [hfi] at hh
     split at hh
     · cases hh
     · unfold u5 at hh
       split at hh <;> cases hh
   · intro b o hh
     have hh : kp b = some o := hh
     simp only [kp] at hh
     split at hh
     · cases hh
     · exact hh
   · intro id r p hh hp
     show kp p.1 = none
     simp only [kp]
     rw [if_pos ⟨id, p, hp, rfl⟩]
   · intro id b q f' hh
     have hh : LS.hf (aD fn xs rs m).h id = .mp b q f' := hh
     rw [hfi] at hh
     split at hh
     · cases hh
     · unfold u5 at hh
       split at hh <;> cases hh
   · intro p hp
     simp only [aD, List.mem_append, List.mem_singleton] at hp
     rcases hp with hp | rfl
     · have := sJ rs 0 p hp
       simp only [aD]; omega
     · simp only [aD]; omega
 refine callsIn_wide.1 (callsIn_of_wp_marks (F := Fence.wide) (n := 0) hf hb trivial (h none (fun _ => rfl) G M0 w0 ρ _ w _ hg R0 ?_))
 intro Ds e s' ρF a' w' hDs k RX
 have key : ∀ (a' : Act) (w' : World), F6 G M0 w0 s' ρF a' w' → ∃ v, (results fn a'.tmps).run P w' = .ok v w' ∧ ∃ b ρ', I b ∧ lU M0 w0 (u5 0 (rs' b)) ρ' w' ∧ u3 (u1 M0 ρ' (u5 0 (rs' b))) ρ' w' (y b) v ∧ (∀ i, i < m → ρ' i = ρ i) ∧ a9z M0 ρ (u5 0 rs) w ρ' (u5 0 (rs' b)) w' := by
   intro a' w' R
   obtain ⟨_, x, hx, b, hI, ids, hnd, hlen, aO, ⟨gid, _, hgh⟩, hy, hp⟩ := k
   obtain ⟨v, h1, h2⟩ := dE R.1 hx
   obtain ⟨H', up, hM⟩ := mD R.1.toH hnd hp
   obtain ⟨gl, gget⟩ := cJ hp
   refine ⟨v, h1, b, _, hI, H', up 4 x _ v hy h2, ?_, ?_⟩
   · intro i hi
     have hml : m ≤ ids.length := by
       have := congrArg List.length aO
       simp only [List.length_map, List.length_take] at this
       omega
     have hil : i < ids.length := by omega
     have hρ' : renρ ρF ids 0 i = ρF ids[i] := by
       simp only [renρ, Nat.zero_le, if_true, Nat.sub_zero, List.getElem?_eq_getElem hil, Option.bind_some]
     rw [hρ']
     have hg1 := R.1.oR gid 99 _ hgh i (.ptr ids[i] 0 0) (by
       rw [List.getElem?_map, List.getElem?_take, if_pos hi, List.getElem?_eq_getElem hil]; rfl)
     obtain ⟨b0, β0, arr0, e0, p1, _⟩ := H.live i _ (rlive i (by omega))
     have hg2 : G.g 99 i = .pointer (some ⟨b0, β0, none⟩) := by
       show (match ρ i with | some (b, β, _) => Value.pointer (some ⟨b, β, none⟩) | none => undef) = _
       rw [p1]
     rw [hg2] at hg1
     have hil2 : i < (rs' b).length := by omega
     obtain ⟨id', row0, e1, e2, e3⟩ := gget i (rs' b)[i] (by simp [hil2])
     rw [List.getElem?_eq_getElem hil] at e1
     cases e1
     obtain ⟨b1, β1, arr1, e4, q1, _⟩ := R.1.live _ row0 e2
     have hszi : (rs' b)[i].sz = (rs.getD i ⟨0, [], 0⟩).sz := by
       have := congrArg (fun l => l[i]?) aO
       simp only [List.getElem?_map, List.getElem?_take, if_pos hi, List.getElem?_eq_getElem hil2, Option.map_some] at this
       have hir : i < rs.length := by omega
       rw [List.getElem?_eq_getElem hir] at this
       simp only [Option.map_some, Option.some.injEq] at this
       rw [this, List.getD_eq_getElem?_getD, List.getElem?_eq_getElem hir]; rfl
     have hr0 : row0.sz = (rs' b)[i].sz := by
       unfold e6 at e3
       split at e3
       · cases e3; rfl
       · simp only [Option.map_eq_some_iff] at e3
         obtain ⟨es, _, e5⟩ := e3
         rw [← e5]
     rw [p1, q1]
     generalize hu : Value.pointer (some (⟨b0, β0, none⟩ : Addr)) = u at hg1
     cases hg1 with
     | ptr _ _ _ b2 β2 sz2 g =>
       rw [q1] at g
       cases g
       simp only [Value.pointer.injEq, Option.some.injEq, Addr.mk.injEq, Nat.zero_mul, Nat.add_zero, and_true] at hu
       obtain ⟨rfl, rfl⟩ := hu
       rw [hr0, hszi]
   · refine ⟨?_, ?_, ?_, ?_⟩
     · intro b' o c' g1 g2
       have hk := R.1.mQ (.aP [[.v c']] 0 0) (.pointer (some ⟨b', o, none⟩)) ⟨b', o, c', g1, g2, rfl, rfl⟩
       generalize hu : Value.pointer (some (⟨b', o, none⟩ : Addr)) = u at hk
       cases hk with
       | aP _ _ _ b2 o2 sz cell hi hk hsz' hm' hr =>
         have e1 : sz = 1 := (hsz' _ (List.mem_singleton.2 rfl)).symm
         subst e1
         obtain ⟨t1, t2⟩ := hm' 0 0 (by simp) (by simp)
         simp only [Nat.zero_mul, Nat.add_zero, Value.pointer.injEq, Option.some.injEq, Addr.mk.injEq, and_true] at t1 t2 hu
         obtain ⟨rfl, rfl⟩ := hu
         have := hr 0 0 _ _ rfl rfl
         rw [this.X5] at t2
         exact ⟨fun q => t1 (hM _ _ q), t2⟩
     · intro r s h; exact R.1.qE r s h
     · intro b' x' g1 g2
       refine R.1.iT b' x' ?_
       show kp b' = some x'
       simp only [kp]
       rw [if_neg, g1]
       rintro ⟨j, p, q1, q2⟩
       exact g2 j p q1 q2
     · intro id r p g1 g2
       unfold u5 at g1
       split at g1
       · rename_i hr
         have hlt : id < ids.length := by omega
         have hlt2 : id < (rs' b).length := by omega
         obtain ⟨id', row0, e1, e2, e3⟩ := gget id (rs' b)[id] (by simp [hlt2])
         simp only [renρ, Nat.zero_le, if_true, Nat.sub_zero, e1, Option.bind_some] at g2
         have := R.1.eG id' row0 p e2 g2
         have this : kp p.1 = none := this
         simp only [kp] at this
         split at this
         · rename_i hq
           obtain ⟨j, q, q1, q2⟩ := hq
           exact .inl ⟨j, q, q1, q2⟩
         · exact .inr (Array.getElem?_eq_none_iff.1 this)
       · cases g1
 have k1 := k.1
 cases e <;> first
   | exact nU (P := P) (fn := fn) Ds hDs rfl R0.1.m0 RX.1 (fun a2 w2 _ R2 => let ⟨v, h1, b, ρ', h2, h3, h4, h5, h6⟩ := key a2 w2 ⟨R2, RX.2⟩; ⟨v, h1, v, b, ρ', rfl, h2, h3, h4, h5, h6⟩)
   | exact k1.elim
end
end
section
def a6W (l : List Oper) : Bool := (List.range l.length).all fun i => match l[i]? with
 | some o => o.after.all fun e => !Region.binds .any e || decide (e.on < i)
 | none => true
def a7e (l : List Oper) : Bool := (List.range (l.length - 1)).all fun i => ((V1 l []).getD (l.length - 1) 0).testBit i
section
variable {G : Gh} {M0 : Nat → Nat → Prop} {w0 : World} {P : Program} {Q' : Exit → Act → World → Prop}
structure wU (n : Nat) (l' l : Array Bool) : Prop where
 s' : l'.size = n
 s : l.size = n + 1
 eq : ∀ j, j < n → l'.getD j true = l.getD j true
 last : l.getD n true = false
theorem eF (l : Array Bool) {j : Nat} (h : j < l.size) : l.getD j true = l.getD j false := by
 simp [h]
theorem wU.eqf {n : Nat} {l' l : Array Bool} (c : wU n l' l) {j : Nat} (h : j < n) : l'.getD j false = l.getD j false := by
 have h1 := c.s'
 have h2 := c.s
 rw [← eF l' (by omega), ← eF l (by omega)]
 exact c.eq j h
theorem wU.set {n : Nat} {l' l : Array Bool} (c : wU n l' l) {i : Nat} (h : i < n) : wU n (l'.setIfInBounds i true) (l.setIfInBounds i true) := by
 refine ⟨by simp [c.s'], by simp [c.s], fun j hj => ?_, ?_⟩
 · by_cases hij : i = j
   · subst hij
     have h1 := c.s'
     have h2 := c.s
     have e1 : i < l'.size := by omega
     have e2 : i < l.size := by omega
     simp [e1, e2]
   · rw [getD_set_ne true hij, getD_set_ne true hij]; exact c.eq j hj
 · rw [getD_set_ne true (by omega)]; exact c.last
theorem b03 [j5 P] (m : Option Nat) (hgl : j5.ok P w0) {L0 : List Oper} {o : Oper} (hback : a6W (L0 ++ [o]) = true) (hlast : a7e (L0 ++ [o]) = true) {E : Nat → qL} {Q : St → Prop}
   (hQ : ∀ s ρ a w, Q s → Rel G M0 w0 s ρ a w → wpListIn (bY m) 0 P (L0 ++ [o]).toArray Q' [o] a w) :
   ∀ (fuel : Nat) (l' l : Array Bool) (s : St) (ρ : Nat → Option (Nat × Nat × Nat)) (a : Act) (w : World), wU L0.length l' l → iQ (L0 ++ [o]).toArray l → Rel G M0 w0 s ρ a w → a74 P L0.toArray E Q fuel l' s → wpAnyIn (bY m) 0 P .any (L0 ++ [o]).toArray Q' (fuel + 1) l a w := by
 have hget : ∀ i, i < L0.length → (L0 ++ [o]).toArray[i]? = L0.toArray[i]? := fun i hi => by
   simp [List.getElem?_append_left hi]
 have hgetn : (L0 ++ [o]).toArray[L0.length]? = some o := by simp
 have hedge : ∀ (i : Nat) oi, (L0 ++ [o]).toArray[i]? = some oi → ∀ e ∈ oi.after, Region.binds .any e = true → e.on < i := by
   intro i oi hi e he hb
   have hi' : (L0 ++ [o])[i]? = some oi := by simpa using hi
   have hlt : i < (L0 ++ [o]).length := (List.getElem?_eq_some_iff.1 hi').1
   unfold a6W at hback
   rw [List.all_eq_true] at hback
   have := hback i (List.mem_range.2 hlt)
   rw [hi'] at this
   simp only [Array.all_eq_true_iff_forall_mem] at this
   have := this e he
   simpa [hb] using this
 have hall : ∀ l : Array Bool, iQ (L0 ++ [o]).toArray l → L0.length ∈ Region.ready .any (L0 ++ [o]).toArray l → ∀ j, j < L0.length → l.getD j false = true := by
   intro l hc hr j hj
   obtain ⟨_, o', ho', hdep⟩ := mem_ready.1 hr
   rw [hgetn] at ho'
   cases ho'
   unfold a7e at hlast
   rw [List.all_eq_true] at hlast
   have hd : rO (V1 (L0 ++ [o]) []) j L0.length := by
     have := hlast j (List.mem_range.2 (by simpa using hj))
     simpa [rO] using this
   obtain ⟨e, he, hb, h1⟩ := b5a (l := L0 ++ [o]) (j := L0.length) (o := o) (by simp) hd
   have hl := hdep e he hb
   rcases h1 with rfl | ⟨_, h1⟩
   · exact hl
   · exact b6s hc _ hl j h1
 have hiff : ∀ l' l : Array Bool, wU L0.length l' l → ∀ i, i < L0.length → (i ∈ Region.ready .any (L0 ++ [o]).toArray l ↔ i ∈ Region.ready .any L0.toArray l') := by
   intro l' l c i hi
   rw [mem_ready, mem_ready, hget i hi, c.eq i hi]
   refine and_congr Iff.rfl ⟨?_, ?_⟩
   · rintro ⟨o', h1, h2⟩
     exact ⟨o', h1, fun e he hb => by
       have := hedge i o' (by rw [hget i hi]; exact h1) e he hb
       rw [c.eqf (by omega)]; exact h2 e he hb⟩
   · rintro ⟨o', h1, h2⟩
     exact ⟨o', h1, fun e he hb => by
       have := hedge i o' (by rw [hget i hi]; exact h1) e he hb
       rw [← c.eqf (by omega)]; exact h2 e he hb⟩
 have hsome : ∀ l' l : Array Bool, wU L0.length l' l → Region.ready .any (L0 ++ [o]).toArray l ≠ [] ∧ (Region.ready .any L0.toArray l' = [] → L0.length ∈ Region.ready .any (L0 ++ [o]).toArray l) := by
   intro l' l c
   by_cases h : ∃ j, j < L0.length ∧ l.getD j true = false
   · obtain ⟨j, ⟨hj, hu⟩, hmin⟩ := b3S _ h
     have hr : j ∈ Region.ready .any (L0 ++ [o]).toArray l := by
       rw [mem_ready]
       refine ⟨hu, L0[j], by rw [hget j hj]; simp [hj], fun e he hb => ?_⟩
       have hlt := hedge j L0[j] (by rw [hget j hj]; simp [hj]) e he hb
       cases hq : l.getD e.on true with
       | true => rw [eF l (by have := c.s; omega)] at hq; exact hq
       | false => exact absurd (hmin e.on ⟨by omega, hq⟩) (by omega)
     refine ⟨fun e => (by rw [e] at hr; cases hr), fun e => ?_⟩
     have := (hiff l' l c j hj).1 hr
     rw [e] at this; cases this
   · have hr : L0.length ∈ Region.ready .any (L0 ++ [o]).toArray l := by
       rw [mem_ready]
       refine ⟨c.last, o, hgetn, fun e he hb => ?_⟩
       have hlt := hedge _ o hgetn e he hb
       cases hq : l.getD e.on true with
       | true => rw [eF l (by have := c.s; omega)] at hq; exact hq
       | false => exact absurd ⟨e.on, hlt, hq⟩ h
     exact ⟨fun e => (by rw [e] at hr; cases hr), fun _ => hr⟩
 have hend : ∀ (k : Nat) (l' l : Array Bool) (a : Act) (w : World), wU L0.length l' l → (∀ j, j < L0.length → l.getD j false = true) → Q' .normal a w → wpAnyIn (bY m) 0 P .any (L0 ++ [o]).toArray Q' k (l.setIfInBounds L0.length true) a w := by
   intro k l' l a w c hl hq
   have hnone : Region.ready .any (L0 ++ [o]).toArray (l.setIfInBounds L0.length true) = [] := by
     refine List.eq_nil_iff_forall_not_mem.2 fun i hi => ?_
     obtain ⟨h1, o', h2, _⟩ := mem_ready.1 hi
     have hlt : i < L0.length + 1 := by
       have := (Array.getElem?_eq_some_iff.1 h2).1
       simpa using this
     by_cases hin : i = L0.length
     · subst hin
       have : L0.length < l.size := by have := c.s; omega
       simp [this] at h1
     · rw [getD_set_ne true (Ne.symm hin)] at h1
       have := hl i (by omega)
       rw [eF l (by have := c.s; omega), this] at h1
       cases h1
   cases k with
   | zero => exact ⟨hnone, hq⟩
   | succ k => exact ⟨fun _ => hq, fun i hi => by rw [hnone] at hi; cases hi⟩
 have hfin : ∀ (k : Nat) (l' l : Array Bool) (s : St) (ρ : Nat → Option (Nat × Nat × Nat)) (a : Act) (w : World), wU L0.length l' l → iQ (L0 ++ [o]).toArray l → L0.length ∈ Region.ready .any (L0 ++ [o]).toArray l → Q s → Rel G M0 w0 s ρ a w →
     wpOpIn (bY m) 0 P (L0 ++ [o]).toArray Q' L0.length (wpAnyIn (bY m) 0 P .any (L0 ++ [o]).toArray Q' k (l.setIfInBounds L0.length true)) a w := by
   intro k l' l s ρ a w c hc hr hq R
   have h1 := hall l hc hr
   have h2 := hQ s ρ a w hq R
   refine wpOpIn_mono (K := fun a w => Q' .normal a w) (fun a w hh => hend k l' l a w c h1 hh) ?_
   unfold wpOpIn
   rw [hgetn]
   exact h2
 intro fuel
 induction fuel with
 | zero =>
   intro l' l s ρ a w c hc R h
   obtain ⟨h1, h2⟩ := hsome l' l c
   refine ⟨fun e => absurd e h1, fun i hi => ?_⟩
   by_cases hin : i = L0.length
   · subst hin
     exact hfin 0 l' l s ρ a w c hc hi h.2 R
   · obtain ⟨_, o', g2, _⟩ := mem_ready.1 hi
     have hlt : i < L0.length := by
       have := (Array.getElem?_eq_some_iff.1 g2).1
       simp at this
       omega
     have := (hiff l' l c i hlt).1 hi
     rw [h.1] at this; cases this
 | succ fuel ih =>
   intro l' l s ρ a w c hc R h
   obtain ⟨h1, h2⟩ := hsome l' l c
   refine ⟨fun e => absurd e h1, fun i hi => ?_⟩
   by_cases hin : i = L0.length
   · subst hin
     have hr' : Region.ready .any L0.toArray l' = [] := by
       refine List.eq_nil_iff_forall_not_mem.2 fun j hj => ?_
       obtain ⟨g1, o', g2, _⟩ := mem_ready.1 hj
       have hjl : j < L0.length := by
         have := (Array.getElem?_eq_some_iff.1 g2).1
         simpa using this
       have := hall l hc hi j hjl
       rw [c.eq j hjl, eF l (by have := c.s; omega), this] at g1
       cases g1
     exact hfin _ l' l s ρ a w c hc hi (h.1 hr') R
   · obtain ⟨_, o', g2, _⟩ := mem_ready.1 hi
     have hlt : i < L0.length := by
       have := (Array.getElem?_eq_some_iff.1 g2).1
       simp at this
       omega
     obtain ⟨oi, ho, hy, hrest⟩ := h.2 i ((hiff l' l c i hlt).1 hi)
     obtain ⟨hd, hy⟩ := hy
     have hcs := lX hc hi
     unfold wpOpIn
     rw [hget i hlt, ho]
     simp only
     have hgA : ∀ b, gA L0.toArray oi s = some b → gA (L0 ++ [o]).toArray oi s = some b := by
       intro b hb
       unfold gA at hb ⊢
       cases hg : oi.guard with
       | none => rw [hg] at hb; exact hb
       | some p =>
         obtain ⟨j, want⟩ := p
         rw [hg] at hb
         simp only at hb ⊢
         cases hj : L0.toArray[j]? with
         | none => rw [hj] at hb; cases hb
         | some oj =>
           have hjl : j < L0.length := by
             have := (Array.getElem?_eq_some_iff.1 hj).1
             simpa using this
           rw [hget j hjl]; exact hb
     cases hE : E i with
     | none =>
       rw [hE] at hy hrest
       simp only at hy
       rw [a64 R (hgA _ hy), if_neg (by simp)]
       exact ⟨fun f _ => jT m f, ih _ _ _ _ _ _ (c.set hlt) hcs (R.pure hd (.v _)) hrest⟩
     | some p =>
       obtain ⟨nid, fx⟩ := p
       rw [hE] at hy hrest
       simp only at hy
       rw [a64 R (hgA _ hy.1), if_pos rfl]
       exact bT m (iR hy.2.1) (nG hgl R hd hy.2.2 hy.2.1 fun ρ' a' w' R' => ih _ _ _ _ _ _ (c.set hlt) hcs R' hrest)
theorem a28 [j5 P] (m : Option Nat) (hgl : j5.ok P w0) {id : Nat} {L0 : List Oper} {o : Oper} {es : List qL} {s s' : St} {ρ : Nat → Option (Nat × Nat × Nat)} {a : Act} {w : World} (hm : P.follows .mixedOrders = true) (R : Rel G M0 w0 s ρ a w)
   (hB : Region.lexB .any L0.toArray = true) (hback : a6W (L0 ++ [o]) = true) (hlast : a7e (L0 ++ [o]) = true)
   (hmem : ∀ i j, i < j → j < L0.length → ¬ rO (V1 L0 []) i j → dT (es.getD i none) (es.getD j none)) (hR : rM P L0.toArray L0 s es s')
   (hQ : ∀ ρ' a' w', Rel G M0 w0 s' ρ' a' w' → wpListIn (bY m) 0 P (L0 ++ [o]).toArray Q' [o] a' w') : (Code.region id (L0 ++ [o]).toArray true).wpIn (bY m) 0 P Q' a w := by
 simp only [Region.lexB, Bool.and_eq_true] at hB
 refine wpIn_region_any hm ?_
 have aO : (L0 ++ [o]).toArray.size = L0.length + 1 := by simp
 have hsz0 : L0.toArray.size = L0.length := by simp
 rw [aO]
 rw [hsz0] at hB
 refine b03 m hgl hback hlast (E := fun i => es.getD i none) (Q := fun t => t = s') (fun t ρ' a' w' e R' => by subst e; exact hQ _ _ _ R') L0.length (Array.replicate L0.length false) _ s ρ a w.drew ?_ ?_ R.drew ?_
 · refine ⟨by simp, by simp, fun j hj => ?_, ?_⟩
   · rw [Array.getD_eq_getD_getElem?, Array.getD_eq_getD_getElem?, Array.getElem?_replicate, Array.getElem?_replicate, if_pos hj, if_pos (by omega)]
   · rw [Array.getD_eq_getD_getElem?, Array.getElem?_replicate, if_pos (by omega)]; rfl
 · intro k hk
   exfalso
   simp only [Array.getD_eq_getD_getElem?, Array.getElem?_replicate] at hk
   split at hk <;> simp at hk
 · refine tE hmem L0 0 _ s s' es (by simp) ?_ (fun j _ => Nat.zero_le _) hB.2 (fun j hj => by simp) hR rfl
   intro k hk
   exfalso
   simp only [Array.getD_eq_getD_getElem?, Array.getElem?_replicate] at hk
   split at hk <;> simp at hk
end
section
variable {P : Program} {s : LS} {K : Exit → LS → Prop} {k : List KF}
theorem a56 {l : List Oper} (h : l ≠ []) : l.dropLast ++ [l.getLastD default] = l := by
 rw [List.getLastD_eq_getLast?, List.getLast?_eq_some_getLast h, Option.getD_some]
 exact List.dropLast_concat_getLast h
def b3R (P : Program) [j5 P] (ops : List (Option Tmp)) (o : Oper) (N : LS → Prop) (s : LS) : Prop := iV P ops [o] s N
theorem a3y [j5 P] {ops : List (Option Tmp)} {o : Oper} {N : LS → Prop} (h : iV P ops [o] s N) : b3R P ops o N s := h
theorem b2n {md : Bool} [j5 P] {id : Nat} {l : List Oper} (hm : P.follows .mixedOrders = true) (hne : l.isEmpty = false) (hB : Region.lexB .any l.dropLast.toArray = true) (hback : a6W l = true) (hlast : a7e l = true)
   (h : ∀ N : LS → Prop, (∀ s, X6 (md := md) P K k .normal s → N s) → ∀ mk, V1 l.dropLast [] = mk → oI P (aK l.dropLast) mk l.dropLast s [] (b3R P (aK l) (l.getLastD default) N)) : AK (md := md) P (.region id l.toArray true) k s K := by
 intro m hmm G M0 w0 ρ a w Q hg R hQ
 have hsp := a56 (l := l) (by intro e; rw [e] at hne; cases hne)
 obtain ⟨es, s', h1, h2, h3, h4, h5⟩ := wC l.dropLast s [] _ R.2 (h _ (fun _ k => k) _ rfl)
 have h4' := iW [l.getLastD default] s' _ h4
 generalize hL0 : l.dropLast = L0 at *
 generalize ho : l.getLastD default = o at *
 clear hL0 ho
 subst hsp
 refine a28 m hg hm R.1 hB hback hlast ?_ h2 fun ρ' a' w' R' => iX m hg [o] (K := fun s => X6 (md := md) P K k .normal s) ⟨R', h5⟩ h4' fun s2 ρ2 a2 w2 hk R2 => hQ [] _ _ _ _ _ .nil hk (by rw [bI]; exact R2)
 intro i j hij hj hnd
 simp only [List.nil_append, gB, List.length_map, List.all_eq_true, List.mem_range, Bool.or_eq_true] at h3
 rcases h3 j (by omega) i hij with g | g
 · exact absurd g hnd
 · have e : ∀ i, i < es.length → (es.map bR).getD i none = bR (es.getD i none) := by
     intro i hi
     simp [List.getD_eq_getElem?_getD, hi]
   rw [e i (by omega), e j (by omega)] at g
   exact a2Y g
end
end
section
theorem b0M {fn : Func} {n : Nat} (h : fn.ntmps = n) (xs : List AV) (rs : List Row) (m : Nat) : aD fn xs rs m = ⟨xs ++ List.replicate (n - xs.length) .dead, j3 0 rs ++ [(7, .B3 99 ((List.range m).map fun j => .ptr j 0 0))], 8⟩ := by subst h; rfl
def uE : AV → Bool
 | .v _ => true
 | _ => false
theorem a9d (id : Nat) : ∀ zs : List AV, zs.all uE = true → zs.mapM (a9c id) = some zs := by
 intro zs
 induction zs with
 | nil => intro _; rfl
 | cons z zs ih =>
   intro h
   simp only [List.all_cons, Bool.and_eq_true] at h
   have h1 : a9c id z = some z := by
     cases z <;> first | rfl | (simp [uE] at h)
   rw [List.mapM_cons, h1, ih h.2]; rfl
section
variable {P : Program} {s : LS} {N : LS → Prop} {rest : LS → (LS → Prop) → Prop} {restD : LS → rL → (LS → Prop) → Prop} {log : rL} {d : Option Tmp} {f : FuncId} {zs cs cs' e : List AV} {val : AV} {n id : Nat}
theorem a2T [j5 P] (C : jI P f n (.ptr 0 0 0 :: zs) cs cs' val) (hz : zs.all uE = true) (h1 : LS.hf s.h id = .live ⟨n, [e], 0⟩) (h2 : e.take cs.length = cs) (h3 : cs'.length = cs.length) (h4 : cs.all AV.plain = true) (h5 : cs'.all AV.plain = true) (h6 : val.flat = true) :
   a60 P f (.ptr id 0 0 :: zs) (LS.hf s.h) ⟨val, [(id, some (0, 0, cs.length), true)], some (id, 0, 0, cs'), [], none, []⟩ := by
 refine ⟨id, ⟨n, [e], 0⟩, .ptr 0 0 0 :: zs, cs, cs', val, C, ?_, h1, rfl, rfl, fun j hj => ?_, h3, h4, h5, h6, rfl⟩
 · rw [List.mapM_cons, a9d id zs hz]
   simp [a9c]
 · show e[j]? = cs[j]?
   rw [← h2, List.getElem?_take]
   have : j < (e.take cs.length).length := by rw [h2]; exact hj
   rw [if_pos (by simp at this; omega)]
theorem a4R [j5 P] (C : jI P f n (.ptr 0 0 0 :: zs) cs cs' val) (hz : zs.all uE = true) (h1 : LS.hf s.h id = .live ⟨n, [e], 0⟩) (h2 : e.take cs.length = cs) (h3 : cs'.length = cs.length) (h4 : cs.all AV.plain = true) (h5 : cs'.all AV.plain = true) (h6 : val.flat = true)
   (h : rest (s.dI d ⟨val, [(id, some (0, 0, cs.length), true)], some (id, 0, 0, cs'), [], none, []⟩) N) : lK P rest d s N f (.ptr id 0 0 :: zs) :=
 .inr (.inr (.inr ⟨_, a2T C hz h1 h2 h3 h4 h5 h6, h⟩))
theorem a2S [j5 P] (C : jI P f n (.ptr 0 0 0 :: zs) cs cs' val) (hz : zs.all uE = true) (h1 : LS.hf s.h id = .live ⟨n, [e], 0⟩) (h2 : e.take cs.length = cs) (h3 : cs'.length = cs.length) (h4 : cs.all AV.plain = true) (h5 : cs'.all AV.plain = true) (h6 : val.flat = true)
   (h : restD (s.dI d ⟨val, [(id, some (0, 0, cs.length), true)], some (id, 0, 0, cs'), [], none, []⟩) (log ++ [some (s.nx, [(id, some (0, 0, cs.length), true)])]) N) : jO P restD d s log N f (.ptr id 0 0 :: zs) :=
 .inr ⟨_, a2T C hz h1 h2 h3 h4 h5 h6, h⟩
theorem a4S [j5 P] {xs ys : List AV} {rs : List Row} {m : Nat} {α : Type} {I : α → Prop} {y : α → AV} {rs' : α → List Row} (C : B2 P f ys rs m I y rs') (ids : List Nat) (hnd : ids.Nodup) (h1 : a7 (LS.hf s.h) (s5 ids 0) ids = some rs) (h2 : xs.mapM (m8 (s5 ids 0) 4) = some ys)
   (hm : m ≤ ids.length) (h3 : ∀ a, I a → m ≤ (rs' a).length ∧ (rs' a).length ≤ m + 8)
   (h : ∀ a, Z7 (I a) → rest (LS.put ⟨s.t, cC ids m s.nx ((rs' a).map (bS (lJ ids m s.nx))) s.h, s.nx + 8⟩ d (B8 (lJ ids m s.nx) 4 (y a))) N) : lK P rest d s N f xs :=
 .inr (.inr (.inl (a5X C ids hnd h1 h2 hm h3 fun a ha => h a ⟨ha⟩)))
end
theorem b1N {P : Program} {fn : Func} {rs : List Row} {m : Nat} {α : Type} {I : α → Prop} {y : α → AV} {rs' : α → List Row} {e : Exit} {s : LS} (he : match e with | .normal | .ret => True | _ => False) (a : α) (ids : List Nat) {x : AV} {gid : Nat} {gcs : List AV}
   (hx : xH P s.n9 fn.results.toList = some x) (hI : I a) (hnd : ids.Nodup) (hl : (rs' a).length = ids.length) (aO : ((rs' a).take m).map Row.sz = (rs.take m).map Row.sz) (hg : x9 99 s.h = some (gid, gcs)) (hg2 : LS.hf s.h gid = .B3 99 gcs) (hg3 : gcs = (ids.take m).map fun j => .ptr j 0 0)
   (hy : m8 (s5 ids 0) 4 x = some (y a)) (hp : a7 (LS.hf s.h) (s5 ids 0) ids = some (rs' a)) : a1o P fn rs m I y rs' e s :=
 ⟨he, x, hx, a, hI, ids, hnd, hl, aO, ⟨gid, by rw [hg, hg3], by rw [hg2, hg3]⟩, hy, hp⟩
theorem vZ (r : Nat → Option Nat) (n : Nat) {x : AV} (h : x.plain = true) : m8 r (n + 1) x = some x := by
 cases x <;> first | rfl | (simp [AV.plain] at h; done) | skip
 rename_i f cs
 cases cs with
 | nil => rfl
 | cons c cs => simp [AV.plain] at h
theorem iA {α : Type} {f : α → Option α} : ∀ {l : List α}, (∀ x ∈ l, f x = some x) → l.mapM f = some l := by
 intro l
 induction l with
 | nil => intro _; rfl
 | cons a l ih =>
   intro h
   rw [List.mapM_cons, h a (by simp), ih fun x hx => h x (by simp [hx])]; rfl
theorem oG {l : List (List AV)} (h : w8 l = true) (r : Nat → Option Nat) : (l.mapM fun (e : List AV) => e.mapM (m8 r 3)) = some l :=
 iA fun e he => iA fun x hx => vZ r 2 (List.all_eq_true.1 (List.all_eq_true.1 h e he) x hx)
theorem vB {α β : Type} (f : α → Option β) : ∀ (l l' : List α), (l ++ l').mapM f = (l.mapM f).bind fun x => (l'.mapM f).map (x ++ ·) := by
 intro l l'
 induction l with
 | nil => simp
 | cons a l ih =>
   simp only [List.cons_append, List.mapM_cons, ih]
   cases f a with
   | none => rfl
   | some b =>
     cases l.mapM f with
     | none => rfl
     | some x => cases l'.mapM f <;> simp
theorem eB {l : List (List AV)} (h : w8 l = true) (l' : List (List AV)) (r : Nat → Option Nat) : ((l ++ l').mapM fun (e : List AV) => e.mapM (m8 r 3)) = (l'.mapM fun (e : List AV) => e.mapM (m8 r 3)).map (l ++ ·) := by
 rw [vB, oG h]; rfl
theorem vA (g : Nat → Nat) (n : Nat) {x : AV} (h : x.plain = true) : B8 g (n + 1) x = x := by
 cases x <;> first | rfl | (simp [AV.plain] at h; done) | skip
 rename_i f cs
 cases cs with
 | nil => rfl
 | cons c cs => simp [AV.plain] at h
theorem pU {l : List (List AV)} (h : w8 l = true) (g : Nat → Nat) : (l.map fun (e : List AV) => e.map (B8 g 3)) = l := by
 have : ∀ e ∈ l, (e.map (B8 g 3)) = e := fun e he => by
   have : ∀ x ∈ e, B8 g 3 x = x := fun x hx => vA g 2 (List.all_eq_true.1 (List.all_eq_true.1 h e he) x hx)
   exact (List.map_congr_left this).trans (List.map_id e)
 exact (List.map_congr_left this).trans (List.map_id l)
theorem gE {l : List (List AV)} (h : w8 l = true) (l' : List (List AV)) (g : Nat → Nat) : ((l ++ l').map fun (e : List AV) => e.map (B8 g 3)) = l ++ l'.map fun (e : List AV) => e.map (B8 g 3) := by
 rw [List.map_append, pU h]
end
end Go.Ab
end
section
namespace Go.Proofs.YtfccigmfcpimgaaDoor
open Go.Ab
open Go.RowKit (Below)
theorem a9p {n : String} {x : Array Value} {w w' : World} (h : w.var? Tryd.prog n = some x) (hb : Below w.heap.size w w') : w'.var? Tryd.prog n = some x := by
 unfold World.var? at h ⊢
 cases hg : Tryd.prog.globalNamed n with
 | none => rw [hg] at h; cases h
 | some g =>
   rw [hg] at h
   simp only [Option.bind_some] at h ⊢
   cases hh : w.heap[g]? with
   | none => rw [hh] at h; cases h
   | some b => rw [hb.block g (E7 hh)]; exact h
def a0x : List Int := Lib.deBruijn64tab.map fun n : Nat => (n : Int)
def okW (w : World) : Prop := Lib.TabIs Tryd.prog w "math/bits.deBruijn64tab" .u8 a0x
theorem b1p {w w' : World} (h : okW w) (hb : Below w.heap.size w w') : okW w' := a9p h hb
instance : j5 Tryd.prog := ⟨okW, b1p⟩
end Go.Proofs.YtfccigmfcpimgaaDoor
end
section
namespace Go.Proofs.YtfccigmfcpimgaaDoor
open Go.Ab
structure J8 where
 k : Int
 n : Int
 v : Int
 deriving DecidableEq
def J8.av (o : J8) : List AV := [.v (.int .i64 o.k), .v (.int .i64 o.n), .v (.int .i32 o.v)]
def O0 : J8 := ⟨0, 0, 0⟩
structure j9 where
 op : Int
 sub : Int
 n : Int
 d : J8
 a : J8
 b : J8
 c : J8
 deriving DecidableEq
def j9.av (i : j9) : List AV := [.v (.int .i64 i.op), .v (.int .i64 i.sub), .v (.int .i64 i.n), .v (.int .i64 i.d.k), .v (.int .i64 i.d.n), .v (.int .i32 i.d.v), .v (.int .i64 i.a.k), .v (.int .i64 i.a.n), .v (.int .i32 i.a.v), .v (.int .i64 i.b.k), .v (.int .i64 i.b.n), .v (.int .i32 i.b.v), .v (.int .i64 i.c.k), .v (.int .i64 i.c.n), .v (.int .i32 i.c.v)]
def I0 : j9 := ⟨0, 0, 0, O0, O0, O0, O0⟩
structure u2 where
 kind : Int
 sub : Int
 d : J8
 a : J8
 b : J8
 t0 : Int
 t1 : Int
 deriving DecidableEq
def u2.av (t : u2) : List AV := [.v (.int .i64 t.kind), .v (.int .i64 t.sub), .v (.int .i64 t.d.k), .v (.int .i64 t.d.n), .v (.int .i32 t.d.v), .v (.int .i64 t.a.k), .v (.int .i64 t.a.n), .v (.int .i32 t.a.v), .v (.int .i64 t.b.k), .v (.int .i64 t.b.n), .v (.int .i32 t.b.v), .v (.int .i64 t.t0), .v (.int .i64 t.t1)]
def U4 : u2 := ⟨0, 0, O0, O0, O0, 0, 0⟩
def p8 (l : List j9) : List (List AV) := l.map j9.av
structure c5 where
 i : List j9
 t : u2
def c5.av (b : c5) : List AV := .b7 false (p8 b.i) :: b.t.av
def B0 : c5 := ⟨[], U4⟩
def E0 (l : List c5) : List (List AV) := l.map c5.av
structure Loop where
 h : Int
 r : Int
 b : Int
def Loop.av (l : Loop) : List AV := [.v (.int .i64 l.h), .v (.int .i64 l.r), .v (.int .i64 l.b)]
def loops (l : List Loop) : List (List AV) := l.map Loop.av
structure fL where
 name : ByteArray
 space : Int
 ty : Int
 len : Int
def fL.av (a : fL) : List AV := [.v (.string a.name), .v (.int .i64 a.space), .v (.int .i64 a.ty), .v (.int .i64 a.len)]
def A0 : fL := ⟨⟨#[]⟩, 0, 0, 0⟩
def Q5 (l : List fL) : List (List AV) := l.map fL.av
def dJ (l : List Int) : List (List AV) := l.map fun z => [.v (.int .u8 z)]
def e7 (l : List Int) : List (List AV) := l.map fun z => [.v (.int .i64 z)]
structure Code where
 group : Int
 sub : Int
 r9 : Int
 L3 : Int
 params : Int
 D7 : List fL
 loops : List Loop
 b : List c5
def Code.av (c : Code) : List AV := [.v (.int .i64 c.group), .v (.int .i64 c.sub), .v (.int .i64 c.r9), .v (.int .i64 c.L3), .v (.int .i64 c.params), .b7 false (Q5 c.D7), .b7 false (Proofs.YtfccigmfcpimgaaDoor.loops c.loops), .b7 false (E0 c.b)]
theorem m6 (l : List j9) : (p8 l).length = l.length := by simp [p8]
theorem u4 (l : List j9) : (∀ e ∈ p8 l, e.length = 15) = True := by simp [p8, j9.av]
theorem cW (l : List j9) (z : Nat) (h : z < l.length) : (p8 l)[z]? = some (l.getD z I0).av := by simp [p8, h, List.getD_eq_getElem?_getD]
theorem l0 (l : List j9) : ((p8 l).all fun e => e.all AV.plain) = true := by simp [p8, j9.av, AV.plain]
theorem o7 (l : List j9) (a b c d e f g h i j k m n o p : Int) :
   p8 l ++ [[.v (.int .i64 a), .v (.int .i64 b), .v (.int .i64 c), .v (.int .i64 d), .v (.int .i64 e), .v (.int .i32 f), .v (.int .i64 g), .v (.int .i64 h), .v (.int .i32 i), .v (.int .i64 j), .v (.int .i64 k), .v (.int .i32 m), .v (.int .i64 n), .v (.int .i64 o), .v (.int .i32 p)]] = p8 (l ++ [⟨a, b, c, ⟨d, e, f⟩, ⟨g, h, i⟩, ⟨j, k, m⟩, ⟨n, o, p⟩⟩]) := by simp [p8, j9.av]
theorem p0 (l : List j9) : (p8 l).take l.length = p8 l := by rw [← m6, List.take_length]
theorem y0 (l : List j9) : (∀ e ∈ p8 l, ∀ x ∈ e, AV.one x = true) = True := by
 simp only [eq_iff_iff, iff_true]
 intro e he x hx
 simp only [p8, List.mem_map] at he
 obtain ⟨j, _, rfl⟩ := he
 simp only [j9.av, List.mem_cons, List.not_mem_nil, or_false] at hx
 rcases hx with rfl | rfl | rfl | rfl | rfl | rfl | rfl | rfl | rfl | rfl | rfl | rfl | rfl | rfl | rfl <;> rfl
theorem b8 (l : List c5) : (E0 l).length = l.length := by simp [E0]
theorem L9 (l : List c5) : (∀ e ∈ E0 l, e.length = 14) = True := by simp [E0, c5.av, u2.av]
theorem F7 (l : List c5) (z : Nat) (h : z < l.length) : (E0 l)[z]? = some (l.getD z B0).av := by simp [E0, h, List.getD_eq_getElem?_getD]
theorem zK (l : List c5) (z : Int) (h : 0 ≤ z ∧ z < l.length) : (E0 l)[z.toNat]? = some (l.getD z.toNat B0).av := F7 l z.toNat (by omega)
theorem c9 (l : List c5) : ((E0 l).all fun e => e.all AV.plain) = true := by simp [E0, c5.av, u2.av, AV.plain]
theorem qO (l : List c5) : w8 (E0 l) = true := c9 l
theorem S6 : E0 [] = [] := rfl
theorem rV (l : List c5) : (∀ e ∈ E0 l, ∀ x ∈ e, AV.one x = true) = True := by
 simp only [eq_iff_iff, iff_true]
 intro e he x hx
 simp only [E0, List.mem_map] at he
 obtain ⟨j, _, rfl⟩ := he
 simp only [c5.av, u2.av, List.mem_cons, List.not_mem_nil, or_false] at hx
 rcases hx with rfl | rfl | rfl | rfl | rfl | rfl | rfl | rfl | rfl | rfl | rfl | rfl | rfl | rfl <;> rfl
theorem A7 (l : List fL) : (Q5 l).length = l.length := by simp [Q5]
theorem J5 (l : List fL) : (∀ e ∈ Q5 l, e.length = 4) = True := by simp [Q5, fL.av]
theorem u9 (l : List fL) (z : Nat) (h : z < l.length) : (Q5 l)[z]? = some (l.getD z A0).av := by simp [Q5, h, List.getD_eq_getElem?_getD]
theorem v8 (l : List fL) (z : Int) (h : 0 ≤ z ∧ z < l.length) : (Q5 l)[z.toNat]? = some (l.getD z.toNat A0).av := u9 l z.toNat (by omega)
theorem aR (l : List Loop) : (loops l).length = l.length := by simp [loops]
theorem sH (l : List Loop) : (∀ e ∈ loops l, e.length = 3) = True := by simp [loops, Loop.av]
theorem m7 (l : List Loop) : ((loops l).all fun e => e.all AV.plain) = true := by simp [loops, Loop.av, AV.plain]
theorem uY (l : List Loop) (a b c : Int) : loops l ++ [[.v (.int .i64 a), .v (.int .i64 b), .v (.int .i64 c)]] = loops (l ++ [⟨a, b, c⟩]) := by simp [loops, Loop.av]
theorem aL (l : List Loop) : (loops l).take l.length = loops l := by rw [← aR, List.take_length]
theorem nZ (l : List Loop) : (∀ e ∈ loops l, ∀ x ∈ e, AV.one x = true) = True := by
 simp only [eq_iff_iff, iff_true]
 intro e he x hx
 simp only [loops, List.mem_map] at he
 obtain ⟨j, _, rfl⟩ := he
 simp only [Loop.av, List.mem_cons, List.not_mem_nil, or_false] at hx
 rcases hx with rfl | rfl | rfl <;> rfl
theorem tJ (l : List Int) : (dJ l).length = l.length := by simp [dJ]
theorem a4P (l : List Int) : (∀ e ∈ dJ l, e.length = 1) = True := by simp [dJ]
theorem zL (l : List Int) (z : Nat) (h : z < l.length) : (dJ l)[z]? = some [.v (.int .u8 (l.getD z 0))] := by simp [dJ, h, List.getD_eq_getElem?_getD]
theorem a8d (l : List Int) (z : Int) (h : 0 ≤ z ∧ z < l.length) : (dJ l)[z.toNat]? = some [.v (.int .u8 (l.getD z.toNat 0))] := zL l z.toNat (by omega)
theorem u7 (l : List Int) : (e7 l).length = l.length := by simp [e7]
theorem N9 (l : List Int) : (∀ e ∈ e7 l, e.length = 1) = True := by simp [e7]
theorem B4 (l : List Int) (z : Nat) (h : z < l.length) : (e7 l)[z]? = some [.v (.int .i64 (l.getD z 0))] := by simp [e7, h, List.getD_eq_getElem?_getD]
theorem K0 (l : List Int) (z : Int) (h : 0 ≤ z ∧ z < l.length) : (e7 l)[z.toNat]? = some [.v (.int .i64 (l.getD z.toNat 0))] := B4 l z.toNat (by omega)
theorem c6 (l : List Int) : ((e7 l).all fun e => e.all AV.plain) = true := by simp [e7, AV.plain]
theorem G7 (l : List Int) (a : Int) : e7 l ++ [[.v (.int .i64 a)]] = e7 (l ++ [a]) := by simp [e7]
theorem B1 (l : List Int) : (e7 l).take l.length = e7 l := by rw [← u7, List.take_length]
theorem y3 (t : u2) : t.av.length = 13 := rfl
theorem n5 (t : u2) : t.av.all AV.plain = true := by simp [u2.av, AV.plain]
theorem y5 (t : u2) (r : Nat → Option Nat) : t.av.mapM (m8 r 3) = some t.av := iA fun x hx => vZ r 2 (List.all_eq_true.1 (n5 t) x hx)
theorem y4 (t : u2) (g : Nat → Nat) : t.av.map (B8 g 3) = t.av := by
 have : ∀ x ∈ t.av, B8 g 3 x = id x := fun x hx => vA g 2 (List.all_eq_true.1 (n5 t) x hx)
 rw [List.map_congr_left this, List.map_id]
theorem x8 (l : List c5) (l' : List (List AV)) (r : Nat → Option Nat) : ((E0 l ++ l').mapM fun (e : List AV) => e.mapM (m8 r 3)) = (l'.mapM fun (e : List AV) => e.mapM (m8 r 3)).map (E0 l ++ ·) := eB (qO l) l' r
theorem x7 (l : List c5) (l' : List (List AV)) (g : Nat → Nat) : ((E0 l ++ l').map fun (e : List AV) => e.map (B8 g 3)) = E0 l ++ l'.map fun (e : List AV) => e.map (B8 g 3) := gE (qO l) l' g
def wrap (n : Int) : Int := IntKind.i64.wrap n
theorem b5 (n : Int) : IntKind.i64.wrap n = wrap n := rfl
theorem b6 {n : Int} (h : -9223372036854775808 ≤ n) (h2 : n < 9223372036854775808) : wrap n = n := by
 simp [wrap, IntKind.wrap, IntKind.bits, IntKind.signed]; omega
def w32 (n : Int) : Int := IntKind.i32.wrap n
theorem qK (n : Int) : IntKind.i32.wrap n = w32 n := rfl
theorem wP {n : Int} (h : -2147483648 ≤ n) (h2 : n < 2147483648) : w32 n = n := by
 simp [w32, IntKind.wrap, IntKind.bits, IntKind.signed]; omega
theorem p7 (a b : Int) (h : 0 ≤ a) : a.tmod b = a % b := Int.tmod_eq_emod_of_nonneg h
theorem b3o (a b : Int) (h : 0 ≤ a) : a.tdiv b = a / b := Int.tdiv_eq_ediv_of_nonneg h
end Go.Proofs.YtfccigmfcpimgaaDoor
end
section
namespace Go.Ab
open Go.RowKit (Below)
section
section
variable {G : Gh} {M0 : Nat → Nat → Prop} {w0 : World} {ρ : Nat → Option (Nat × Nat × Nat)} {w : World} {P : Program} {K : Exit → LS → Prop} {s : LS}
def nQ (ks : List Nat) : Nat → List AV → List AV
 | _, [] => []
 | i, x :: l => (if ks.contains i then x else .dead) :: nQ ks (i + 1) l
theorem pJ (ks : List Nat) : ∀ (l : List AV) (i : Nat), (nQ ks i l).length = l.length
 | [], _ => rfl
 | _ :: l, i => by simp [nQ, pJ ks l (i + 1)]
theorem uF (ks : List Nat) : ∀ (l : List AV) (i j : Nat), (nQ ks i l).getD j .dead = l.getD j .dead ∨ (nQ ks i l).getD j .dead = .dead
 | [], _, _ => .inl rfl
 | x :: l, i, 0 => by
   simp only [nQ, List.getD_cons_zero]
   split
   · exact .inl rfl
   · exact .inr rfl
 | _ :: l, i, j + 1 => by
   simp only [nQ, List.getD_cons_succ]
   exact uF ks l (i + 1) j
theorem b2h {t t' : List AV} {h : List (Nat × RS)} {nx : Nat} (hl : t'.length = t.length) (hk : ∀ j, t'.getD j .dead = t.getD j .dead ∨ t'.getD j .dead = .dead) : Q9 ⟨t, h, nx⟩ ⟨t', h, nx⟩ := by
 intro G M0 w0 ρ a w ⟨R, hok⟩
 refine ⟨ρ, ⟨by show a.tmps.size = t'.length; rw [hl]; exact R.n, fun j => ?_, R.live, R.free, R.inj, R.V4, R.m0, R.defers, R.oR, R.mQ, R.mR, R.iT, R.eG, R.pM, R.qE⟩, hok⟩
 show u3 (u1 M0 ρ (LS.hf h)) ρ w (t'.getD j .dead) _
 rcases hk j with e | e
 · rw [e]; exact R.tm j
 · rw [e]; exact .dead _
theorem gJ {md : Bool} [j5 P] {c : Code} {k : List KF} {t : List AV} {h : List (Nat × RS)} {nx : Nat} (ks : List Nat) (hn : AK (md := md) P c k ⟨nQ ks 0 t, h, nx⟩ K) : AK (md := md) P c k ⟨t, h, nx⟩ K :=
 w7 (b2h (pJ ks t 0) fun j => uF ks t 0 j) hn
theorem jL {md : Bool} [j5 P] {x : Code} {k : List KF} {s : LS} {α : Type} (S : α → LS) (I : α → Prop) (h1 : AK (md := md) P x [] s (S8 (fun s' => ∃ a, I a ∧ Q9 s' (S a)) (X6 (md := md) P K k))) (h2 : ∀ a, I a → X6 (md := md) P K k .normal (S a)) : AK (md := md) P x k s K := by
 intro m hmm G M0 w0 ρ a w Q hg R hQ
 refine h1 m hmm G M0 w0 ρ a w Q hg R fun Ds e s' ρ' a' w' hD hk R' => ?_
 cases e with
 | normal =>
   obtain ⟨x, hI, hw⟩ := hk
   obtain ⟨ρ'', R''⟩ := hw _ _ _ _ _ _ R'
   exact hQ Ds .normal _ _ _ _ hD (h2 x hI) R''
 | _ => exact hQ _ _ _ _ _ _ hD hk R'
def pA : Code → List Nat → Code
 | c, [] => c
 | .seq a _, 0 :: p => pA a p
 | .seq _ b, 1 :: p => pA b p
 | .cond _ a _, 0 :: p => pA a p
 | .cond _ _ b, 1 :: p => pA b p
 | .block _ c, 0 :: p => pA c p
 | .loop c, 0 :: p => pA c p
 | c, _ => c
def cT (f : Func) : Code := f.body.getD .skip
theorem b2f {t : List AV} {h h' : List (Nat × RS)} {nx : Nat} (id : Nat) (sz : Nat) (es es' : List (List AV)) (fro : Nat) (h1 : LS.hf h id = .live ⟨sz, es ++ es', fro⟩) (h2 : LS.hf h' = n7 (LS.hf h) id (.live ⟨sz, es, fro⟩)) (h3 : ∀ p ∈ h', p.1 < nx) : Q9 ⟨t, h, nx⟩ ⟨t, h', nx⟩ := by
 intro G M0 w0 ρ a w ⟨R, hok⟩
 have hh : (LS.n9 ⟨t, h', nx⟩).h = n7 (LS.hf h) id (.live ⟨sz, es, fro⟩) := h2
 have live' : ∀ i r, n7 (LS.hf h) id (.live ⟨sz, es, fro⟩) i = .live r → ∃ r0, LS.hf h i = .live r0 ∧ r0.sz = r.sz ∧ r0.fro = r.fro ∧ ∃ zs, r0.es = r.es ++ zs := by
   intro i r hr
   unfold n7 at hr
   split at hr
   · rename_i e; subst e; cases hr; exact ⟨_, h1, rfl, rfl, es', rfl⟩
   · exact ⟨r, hr, rfl, rfl, [], by simp⟩
 have hM : ∀ b o, u1 M0 ρ (n7 (LS.hf h) id (.live ⟨sz, es, fro⟩)) b o → u1 M0 ρ (LS.hf h) b o := by
   rintro b o (g | ⟨i, r, β, z, g1, g2, g3⟩)
   · exact .inl g
   · obtain ⟨r0, e1, e2, e3, _⟩ := live' i r g1
     exact .inr ⟨i, r0, β, z, e1, g2, by rw [e3]; exact g3⟩
 have other : ∀ i, (∀ r, n7 (LS.hf h) id (.live ⟨sz, es, fro⟩) i ≠ .live r) → n7 (LS.hf h) id (.live ⟨sz, es, fro⟩) i = LS.hf h i := by
   intro i hi
   unfold n7 at hi ⊢
   split
   · rename_i e; rw [if_pos e] at hi; exact absurd rfl (hi _)
   · rfl
 refine ⟨ρ, ⟨R.n, fun j => ?_, fun i r hr => ?_, fun i hi => ?_, fun i i' r r' b β β' z z' g1 g2 g3 g4 => ?_, R.V4, R.m0, R.defers, fun i k cs hg j x hx => ?_, fun x u hx => ?_, fun i b q f hm => ?_, R.iT, fun i r p hr hp => ?_, fun i b q f hm => ?_, R.qE⟩, h3⟩
 · rw [hh]; exact (R.tm j).qU hM
 · rw [hh] at hr
   obtain ⟨r0, e1, e2, e3, zs, e4⟩ := live' i r hr
   obtain ⟨b, β, arr, e, g1, g2, g3, g4, g5, g6⟩ := R.live i r0 e1
   refine ⟨b, β, arr, e, by rw [← e2]; exact g1, g2, g3, ?_, fun x hx => by rw [← e2]; exact g5 x (by rw [e4]; simp [hx]), fun i' j e' x u k1 k2 k3 => ?_⟩
   · rw [e4, List.length_append, Nat.add_mul] at g4; rw [← e2]; omega
   · rw [hh]
     have hlt : i' < r.es.length := (List.getElem?_eq_some_iff.1 k1).1
     exact (g6 i' j e' x u (by rw [e4, List.getElem?_append_left hlt]; exact k1) k2 (by rw [e2]; exact k3)).qU hM
 · rw [hh] at hi
   exact R.free i (show LS.hf h i = .free from (other i (fun r hr => by rw [hr] at hi; cases hi)).symm.trans hi)
 · rw [hh] at g1 g2
   obtain ⟨r0, e1, _⟩ := live' i r g1
   obtain ⟨r1, e2, _⟩ := live' i' r' g2
   exact R.inj i i' r0 r1 b β β' z z' e1 e2 g3 g4
 · rw [hh] at hg
   rw [other i (fun r hr => by rw [hr] at hg; cases hg)] at hg
   rw [hh]; exact (R.oR i k cs hg j x hx).qU hM
 · rw [hh]; exact (R.mQ x u hx).qU hM
 · rw [hh] at hm
   rw [other i (fun r hr => by rw [hr] at hm; cases hm)] at hm
   exact R.mR i b q f hm
 · rw [hh] at hr
   obtain ⟨r0, e1, _⟩ := live' i r hr
   exact R.eG i r0 p e1 hp
 · rw [hh] at hm
   rw [other i (fun r hr => by rw [hr] at hm; cases hm)] at hm
   exact R.pM i b q f hm
end
end
section
section
variable {G : Gh} {M0 : Nat → Nat → Prop} {w0 : World} {ρ : Nat → Option (Nat × Nat × Nat)} {a : Act} {w : World} {P : Program} {K : Exit → LS → Prop} {s : LS} {Q : Exit → Act → World → Prop}
theorem a9b (ids : List (Nat × Nat)) (R0 : F6 G M0 w0 s ρ a w) : F6 G M0 w0 ⟨s.t, n6 ids s.h, s.nx⟩ ρ a w := by
 obtain ⟨R, hok⟩ := R0
 refine ⟨?_, a0V hok⟩
 have hH : LS.hf (n6 ids s.h) = raise ids s.n9.h := kO ids s.h
 refine { n := R.n, tm := fun t => ?_, live := fun id r hr => ?_, free := fun id hr => ?_, inj := fun id id' r r' b β β' z z' h1 h2 h3 h4 => ?_, V4 := R.V4, m0 := R.m0, defers := R.defers, oR := fun id k cs hg i x hx => ?_, mQ := fun x u hx => ?_, mR := fun id b q f hm => ?_, iT := R.iT, eG := fun id r p hr hp => ?_, pM := fun id b q f hm => ?_, qE := R.qE }
 · show u3 (u1 M0 ρ (LS.hf (n6 ids s.h))) ρ w (LS.tf s.t t) _
   rw [hH]; exact (R.tm t).raise
 · have hr : LS.hf (n6 ids s.h) id = .live r := hr
   rw [hH] at hr
   obtain ⟨r0, h0, rfl⟩ := Q7 hr
   obtain ⟨b, β, arr, e, l1, l2, l3, l4, l5, l6⟩ := R.live id r0 h0
   refine ⟨b, β, arr, e, l1, l2, l3, l4, l5, fun i j e x u g1 g2 g3 => ?_⟩
   show u3 (u1 M0 ρ (LS.hf (n6 ids s.h))) ρ w x u
   rw [hH]; exact (l6 i j e x u g1 g2 g3).raise
 · have hr : LS.hf (n6 ids s.h) id = .free := hr
   rw [hH] at hr
   exact R.free id (Q6 hr fun r h => by cases h)
 · have h1 : LS.hf (n6 ids s.h) id = .live r := h1
   have h2 : LS.hf (n6 ids s.h) id' = .live r' := h2
   rw [hH] at h1 h2
   obtain ⟨r0, g0, _⟩ := Q7 h1
   obtain ⟨r1, g1, _⟩ := Q7 h2
   exact R.inj id id' r0 r1 b β β' z z' g0 g1 h3 h4
 · have hg : LS.hf (n6 ids s.h) id = .B3 k cs := hg
   rw [hH] at hg
   show u3 (u1 M0 ρ (LS.hf (n6 ids s.h))) ρ w x _
   rw [hH]
   exact (R.oR id k cs (Q6 hg fun r h => by cases h) i x hx).raise
 · show u3 (u1 M0 ρ (LS.hf (n6 ids s.h))) _ w x u
   rw [hH]; exact (R.mQ x u hx).mono (fun _ _ h => h) (fun _ _ _ g1 g2 => ⟨fun g => g1 (J9 g), g2⟩) (fun _ _ h => h)
 · have hm : LS.hf (n6 ids s.h) id = .mp b q f := hm
   rw [hH] at hm
   exact R.mR id b q f (Q6 hm fun r h => by cases h)
 · have hr : LS.hf (n6 ids s.h) id = .live r := hr
   rw [hH] at hr
   obtain ⟨r0, h0, _⟩ := Q7 hr
   exact R.eG id r0 p h0 hp
 · have hm : LS.hf (n6 ids s.h) id = .mp b q f := hm
   rw [hH] at hm
   exact R.pM id b q f (Q6 hm fun r h => by cases h)
def SOp (P : Program) [j5 P] (o : Oper) (s : LS) (N : LS → Prop) : Prop :=
 ∀ (G : Gh) (M0 : Nat → Nat → Prop) (w0 : World) (ρ : Nat → Option (Nat × Nat × Nat)) (a : Act) (w : World), j5.ok P w0 → F6 G M0 w0 s ρ a w →
   ∃ v s' ρ' w', (execOp a.eval o).run P w = .ok (.value v) w' ∧ N s' ∧ F6 G M0 w0 s' ρ' (a.put o.dst v) w'
theorem a5V [j5 P] (m : Option Nat) (hgl : j5.ok P w0) {ops : List Oper} (l2 : List Oper) : ∀ (l : List Oper) {s : LS} {ρ : Nat → Option (Nat × Nat × Nat)} {a : Act} {w : World} {K : LS → Prop}, F6 G M0 w0 s ρ a w → cK P ops l s K →
   (∀ s' ρ' a' w', K s' → F6 G M0 w0 s' ρ' a' w' → wpListIn (bY m) 0 P ops.toArray Q l2 a' w') → wpListIn (bY m) 0 P ops.toArray Q (l ++ l2) a w := by
 intro l
 induction l with
 | nil => intro s ρ a w K R h hK; exact hK _ _ _ _ h R
 | cons o rest ih =>
   intro s ρ a w K R h hK
   simp only [cK] at h
   rw [List.cons_append]
   unfold wpListIn
   rcases a3k R h with ⟨hw, hd, hx⟩ | ⟨hw, hd, hr⟩
   · rw [if_pos hw]
     rcases hx with ⟨fx, hx, hr⟩ | hx
     · refine bT m (iR hx) (nG hgl R.1 hd (fun k _ => LS.free R.2 (by omega)) hx fun ρ' a' w' R' => ?_)
       obtain ⟨h1, h2⟩ := tF R.2 hd hx
       exact ih ⟨by rw [h1]; exact R', h2⟩ hr hK
     · exact bT m (qV hx) (zY hgl R hd hx fun s' ρ' a' w' hs R' => ih R' hs hK)
   · rw [if_neg (by simp [hw])]
     exact ⟨fun f _ => jT m f, ih (R.put hd (.v _)) hr hK⟩
theorem b2o {md : Bool} [j5 P] {id : Nat} {k : List KF} (l1 : List Oper) (o : Oper) (l2 : List Oper) {l : Array Oper} (hl : l = (l1 ++ o :: l2).toArray) (hg : o.guard = none) (hnd : ∀ c, o.op ≠ .defer c)
   (h : ∀ N : LS → Prop, (∀ s, X6 (md := md) P K k .normal s → N s) → iV P (aK (l1 ++ o :: l2)) l1 s (fun s1 => SOp P o s1 (fun s2 => iV P (aK (l1 ++ o :: l2)) l2 s2 N))) : AK (md := md) P (.region id l false) k s K := by
 subst hl
 intro m hmm G M0 w0 ρ a w Q hgl R hQ
 refine wpIn_region_lit (a5V m hgl (o :: l2) l1 R (iW l1 s _ (h _ fun _ k => k)) fun s1 ρ1 a1 w1 hS R1 => ?_)
 obtain ⟨v, s2, ρ2, w2, hrun, h2, R2⟩ := hS G M0 w0 ρ1 a1 w1 hgl R1
 unfold wpListIn
 rw [if_pos (by simp [Region.wanted, hg])]
 refine bT m hnd ?_
 unfold Oper.wp
 rw [hrun]
 exact iX m hgl l2 R2 (iW l2 s2 _ h2) fun s' ρ' a' w' hk R' => hQ [] _ _ _ _ _ .nil hk (by rw [bI]; exact R')
theorem b3m [j5 P] {o : Oper} {t : TypeId} {x : Operand} {n : Nat} {E : TI} {id i k : Nat} {r : Row} {e : List AV} {N : LS → Prop} (ho : o.op = .slice t x none none none) (hD : td P t = some (.array n E)) (hE9 : E.size = 1) (hd : V0 s o.dst)
   (hx : LS.ev s.t x = .ptr id i k) (hr : LS.hf s.h id = .live r) (hi : r.es[i]? = some e) (hk : k + n ≤ r.sz) (hpl : e.all AV.plain = true) (hn : 0 < n)
   (hN : N ((⟨s.t, n6 [(id, i + 1)] s.h, s.nx⟩ : LS).put o.dst (.b7 true (((e.drop k).take n).map fun c => [c])))) : SOp P o s N := by
 intro G M0 w0 ρ a w hgl R
 obtain ⟨b, β, arr, ty, l1, l2, l3, l4, l5, l6⟩ := R.1.live id r hr
 obtain ⟨e', hund, hti⟩ := oN hD
 have hev := R.1.ev x
 rw [LS.lL, hx] at hev
 have hlen : i < r.es.length := (List.getElem?_eq_some_iff.1 hi).1
 have he : e.length = r.sz := l5 e (List.mem_of_getElem? hi)
 have hmul : (i + 1) * r.sz ≤ r.es.length * r.sz := Nat.mul_le_mul_right _ hlen
 rw [Nat.add_mul, Nat.one_mul] at hmul
 have hu : a.eval x = .pointer (some ⟨b, β + i * r.sz + k, none⟩) := by
   generalize a.eval x = u at hev
   cases hev with
   | ptr _ _ _ b' β' sz' h' => rw [l1] at h'; cases h'; rfl
 have R2 := a9b [(id, i + 1)] R
 have hrun : (execOp a.eval o).run P w = .ok (.value (.slice (some ⟨b, β + i * r.sz + k, none⟩) n n)) w := by
   have h1 : (Instr.sliceAt t (.pointer (some ⟨b, β + i * r.sz + k, none⟩)) none none none).run P w = .ok (.slice (some ⟨b, β + i * r.sz + k, none⟩) n n) w := by
     have aO := D9 hti w
     simp only [Instr.sliceAt, run_underlying hund, Sem.run_bind, Result.andThen_ok, Instr.sureAddr, Instr.sliceBounds, Sem.run_pure, aO, Nat.sub_zero, Nat.zero_mul]
     rw [if_neg (by omega), X8, Nat.add_zero]
   simp only [execOp, ho, Option.map_none, hu]
   exact K7 h1
 refine ⟨_, _, ρ, w, hrun, hN, ?_⟩
 refine F6.put R2 (dX (by cases hdd : o.dst with | none => trivial | some d => rw [hdd] at hd; exact hd)) ?_
 have hfr : ∀ j, j < n → ¬ u1 M0 ρ (LS.hf (n6 [(id, i + 1)] s.h)) b (β + i * r.sz + k + j) := by
   rintro j hj (g | ⟨id', r', β', z', g1, g2, g3⟩)
   · rcases R.1.m0 b _ g with g | ⟨x, g⟩
     · omega
     · have := R.1.eG id r _ hr l1
       rw [this] at g; cases g
   · rw [kO] at g1
     obtain ⟨r0, h0, e0⟩ := Q7 g1
     have : id' = id := R.1.inj id' id r0 r b β' β z' r.sz h0 hr g2 l1
     subst this
     rw [l1] at g2; cases g2
     have h0' : LS.hf s.h id' = .live r0 := h0
     rw [hr] at h0'; cases h0'
     rw [e0] at g3
     simp only [A9, List.foldl_cons, List.foldl_nil, if_true] at g3
     have : (i + 1) * r.sz ≤ max r.fro (i + 1) * r.sz := Nat.mul_le_mul_right _ (Nat.le_max_right _ _)
     rw [Nat.add_mul, Nat.one_mul] at this
     omega
 have hcell : ∀ j, j < n → ∃ c u, e[k + j]? = some c ∧ arr[β + i * r.sz + (k + j)]? = some u ∧ u3 (u1 M0 ρ s.n9.h) ρ w c u := by
   intro j hj
   have h1 : k + j < e.length := by omega
   have h2 : β + i * r.sz + (k + j) < arr.size := by omega
   exact ⟨e[k + j], arr[β + i * r.sz + (k + j)], List.getElem?_eq_getElem h1, Array.getElem?_eq_getElem h2, l6 i (k + j) e _ _ hi (List.getElem?_eq_getElem h1) (Array.getElem?_eq_getElem h2)⟩
 have hln : (((e.drop k).take n).map fun c => [c]).length = n := by simp; omega
 have hrep := u3.b7 (M := u1 M0 ρ (LS.hf (n6 [(id, i + 1)] s.h))) (ρ := ρ) (w := w) true (((e.drop k).take n).map fun c => [c]) (some ⟨b, β + i * r.sz + k, none⟩) n b (β + i * r.sz + k) 1 (fun i' j' => arr.getD (β + i * r.sz + k + i' + j') undef) (by rw [hln]; exact Nat.le_refl _) (fun _ => hln.symm)
   (fun z hz => by
     simp only [List.mem_map] at hz
     obtain ⟨c, _, rfl⟩ := hz
     rfl)
   (fun _ => rfl)
   (fun i' j' hi' hj' => by
     rw [hln] at hi'
     obtain rfl : j' = 0 := by omega
     refine ⟨by rw [Nat.mul_one, Nat.add_zero]; exact hfr i' hi', ?_⟩
     obtain ⟨c, u, _, h2, _⟩ := hcell i' hi'
     rw [dW l3, Nat.mul_one, Nat.add_zero, show β + i * r.sz + k + i' = β + i * r.sz + (k + i') by omega, h2]
     rw [Array.getD_eq_getD_getElem?]; first | (rw [h2]; rfl) | (rw [show β + i * r.sz + (k + i') + 0 = β + i * r.sz + (k + i') by omega, h2]; rfl))
   (fun i' j' e2 x2 h1 h2 => by
     have hi' : i' < n := by have := (List.getElem?_eq_some_iff.1 h1).1; rw [hln] at this; exact this
     obtain ⟨c, u, g1, g2, g3⟩ := hcell i' hi'
     rw [List.getElem?_map, List.getElem?_take_of_lt hi', List.getElem?_drop, g1] at h1
     cases h1
     cases j' with
     | succ j' => simp at h2
     | zero =>
       simp only [List.getElem?_cons_zero, Option.some.injEq] at h2
       subst h2
       rw [Array.getD_eq_getD_getElem?, show β + i * r.sz + k + i' + 0 = β + i * r.sz + (k + i') by omega, g2]
       have hc : c.plain = true := List.all_eq_true.1 hpl c (List.mem_of_getElem? g1)
       have g4 : u3 (u1 M0 ρ (raise [(id, i + 1)] s.n9.h)) (fun _ => none) w c u := g3.raise.aH hc
       rw [kO]; exact g4)
 rw [hln] at hrep
 exact hrep
end
end
end Go.Ab
end
section
namespace Go.Ab
section
section
variable {P : Program} {K : Exit → LS → Prop} {s : LS}
def oH {md : Bool} (P : Program) [j5 P] (c : Code) (K : Exit → LS → Prop) : List Unit → LS → Prop
 | [], _ => False
 | _ :: l, s => AK (md := md) P c [] s (S8 (oH (md := md) P c K l) K)
theorem E9 {md : Bool} [j5 P] {c : Code} {u : Unit} {l : List Unit} : oH (md := md) P c K (u :: l) s = AK (md := md) P c [] s (S8 (oH (md := md) P c K l) K) := rfl
theorem A4 {md : Bool} [j5 P] {c : Code} {k : List KF} (l : List Unit) (h : oH (md := md) P c (X6 (md := md) P K k) l s) : AK (md := md) P (.loop c) k s K := by
 intro m hmm G M0 w0 ρ a w Q hgl R hQ
 refine wpIn_loop_rounds l.length ?_
 suffices H : ∀ (l : List Unit) (s : LS) (Ds : List Nat) (ρ : Nat → Option (Nat × Nat × Nat)) (a : Act) (w : World), jJ w0 G Ds → F6 (aC G Ds) M0 w0 s ρ a w → oH (md := md) P c (X6 (md := md) P K k) l s → Code.roundsIn (bY m) 0 P c Q l.length a w from H l s [] ρ a w .nil (by rw [bI]; exact R) h
 intro l
 induction l with
 | nil => intro s Ds ρ a w _ _ h; exact h.elim
 | cons u l ih =>
   intro s Ds ρ a w hD R h
   rw [List.length_cons, roundsIn_succ]
   refine h m hmm (aC G Ds) M0 w0 ρ a w _ hgl R fun D2 e s' ρ' a' w' hD2 hk R' => ?_
   have hD3 := hD.dI hD2
   rw [tV] at R'
   cases e with
   | normal => exact ih s' _ ρ' a' w' hD3 R' hk
   | _ => exact hQ _ _ _ _ _ _ hD3 hk R'
theorem a7n : ∀ (rs : List Row) (nid : Nat), ∀ p ∈ j3 nid rs, p.1 < nid + rs.length
 | [], _, _, h => by simp [j3] at h
 | r :: rs, nid, p, h => by
   simp only [j3, List.mem_cons] at h
   rcases h with rfl | h
   · simp
   · have := a7n rs (nid + 1) p h; simp; omega
theorem a6b (ks : List Nat) {t : List AV} {h : List (Nat × RS)} {nx nx' : Nat} {s'' : LS} (hlt : ∀ p ∈ h, p.1 < nx') (e : (⟨nQ ks 0 t, h, nx'⟩ : LS) = s'') : Q9 ⟨t, h, nx⟩ s'' := by
 subst e
 intro G M0 w0 ρ a w R
 obtain ⟨ρ', R', _⟩ := b2h (pJ ks t 0) (fun j => uF ks t 0 j) G M0 w0 ρ a w R
 exact ⟨ρ', R', hlt⟩
theorem a9R {md : Bool} [j5 P] {id : Nat} {k : List KF} (n : Nat) {L : List Oper} {o : Oper} (ho : L[n]? = some o) (hg : o.guard = none) (hnd : ∀ c, o.op ≠ .defer c)
   (h : ∀ N N2 : LS → Prop, (∀ s, X6 (md := md) P K k .normal s → N s) → (∀ s2, iV P (aK L) (L.drop (n + 1)) s2 N → N2 s2) → iV P (aK L) (L.take n) s (fun s1 => SOp P o s1 N2)) : AK (md := md) P (.region id L.toArray false) k s K := by
 have hl : L = L.take n ++ o :: L.drop (n + 1) := by
   obtain ⟨hlt, e⟩ := List.getElem?_eq_some_iff.1 ho
   rw [← e, ← List.drop_eq_getElem_cons hlt, List.take_append_drop]
 refine b2o (L.take n) o (L.drop (n + 1)) (congrArg List.toArray hl) hg hnd fun N hN => ?_
 rw [← hl]
 exact h N _ hN fun s2 h2 => h2
end
end
end Go.Ab
end
section
namespace Go.Ab
open Go.RowKit (Below)
section
theorem wS {F : Fence} (hd : F.depth = none) {n n' : Nat} {P : Program} {c : Code} {Q : Exit → Act → World → Prop} {a : Act} {w : World} (h : c.wpIn F n P Q a w) : c.wpIn F n' P Q a w :=
 fun b k cs hro hb _ => h b k cs hro hb (fun _ hh => by rw [hd] at hh; cases hh)
section
variable {M0 : Nat → Nat → Prop} {w0 : World} {ρ : Nat → Option (Nat × Nat × Nat)} {a : Act} {w : World} {G : Gh} {P : Program} {s : LS}
def ghG (G : Gh) (a : Act) (t : List AV) (keep : List Nat) (k : Nat) : Gh :=
 { g := fun l i => if l = k then a.tmps.getD (keep.getD i 0) undef else G.g l i, fr := fun x u => G.fr x u ∨ ∃ j, x = LS.tf (Z4 t) j ∧ u = a.tmps.getD j undef, kp := G.kp, sh := G.sh, df := [] }
theorem b0F {t : List AV} {a1 : Act} {keep : List Nat} {k : Nat} (R : F6 G M0 w0 s ρ a w) (hn1 : a1.tmps.size = t.length) (ht1 : ∀ j, u3 (u1 M0 ρ s.n9.h) ρ w (LS.tf t j) (a1.tmps.getD j undef)) (hfresh : l7 k s.h) (hd : a1.defers = []) :
   F6 (ghG G a s.t keep k) M0 w0 ⟨t, s.h ++ [(s.nx, .B3 k (keep.map (LS.tf s.t)))], s.nx + 8⟩ ρ a1 w := by
 have hh : ∀ id, LS.hf (s.h ++ [(s.nx, .B3 k (keep.map (LS.tf s.t)))]) id = if id = s.nx then .B3 k (keep.map (LS.tf s.t)) else s.n9.h id := fun id => a0Z R.2 id
 have hfree : s.n9.h s.nx = .free := LS.free R.2 (Nat.le_refl _)
 have hM : u1 M0 ρ (LS.hf (s.h ++ [(s.nx, .B3 k (keep.map (LS.tf s.t)))])) = u1 M0 ρ s.n9.h := dH fun id r => by
   rw [hh]
   by_cases hid : id = s.nx
   · subst hid; rw [if_pos rfl, hfree]; simp
   · rw [if_neg hid]
 refine ⟨⟨hn1, ?_, ?_, ?_, ?_, R.1.V4, R.1.m0, hd, ?_, ?_, ?_, R.1.iT, ?_, ?_, R.1.qE⟩, ?_⟩
 · intro j
   show u3 (u1 M0 ρ (LS.hf (s.h ++ [(s.nx, .B3 k (keep.map (LS.tf s.t)))]))) ρ w _ _
   rw [hM]; exact ht1 j
 · intro id r h
   have h : LS.hf (s.h ++ [(s.nx, .B3 k (keep.map (LS.tf s.t)))]) id = .live r := h
   rw [hh] at h
   by_cases hid : id = s.nx
   · rw [if_pos hid] at h; cases h
   · rw [if_neg hid] at h
     show ∃ b β arr e, ρ id = some (b, β, r.sz) ∧ _ ∧ _ ∧ _ ∧ _ ∧ ∀ (i j : Nat) e x u, _ → _ → _ → u3 (u1 M0 ρ (LS.hf (s.h ++ [(s.nx, .B3 k (keep.map (LS.tf s.t)))]))) ρ w x u
     rw [hM]; exact R.1.live id r h
 · intro id h
   have h : LS.hf (s.h ++ [(s.nx, .B3 k (keep.map (LS.tf s.t)))]) id = .free := h
   rw [hh] at h
   by_cases hid : id = s.nx
   · rw [if_pos hid] at h; cases h
   · rw [if_neg hid] at h; exact R.1.free id h
 · intro id id' r r' b β β' z z' h h'
   have h : LS.hf (s.h ++ [(s.nx, .B3 k (keep.map (LS.tf s.t)))]) id = .live r := h
   have h' : LS.hf (s.h ++ [(s.nx, .B3 k (keep.map (LS.tf s.t)))]) id' = .live r' := h'
   rw [hh] at h h'
   by_cases hid : id = s.nx
   · rw [if_pos hid] at h; cases h
   · by_cases hid' : id' = s.nx
     · rw [if_pos hid'] at h'; cases h'
     · rw [if_neg hid] at h; rw [if_neg hid'] at h'; exact R.1.inj id id' r r' b β β' z z' h h'
 · intro id l cs h i x hx
   show u3 (u1 M0 ρ (LS.hf (s.h ++ [(s.nx, .B3 k (keep.map (LS.tf s.t)))]))) ρ w x _
   rw [hM]
   have h : LS.hf (s.h ++ [(s.nx, .B3 k (keep.map (LS.tf s.t)))]) id = .B3 l cs := h
   rw [hh] at h
   by_cases hid : id = s.nx
   · rw [if_pos hid] at h
     cases h
     simp only [ghG, if_true]
     rw [List.getElem?_map] at hx
     cases hk : keep[i]? with
     | none => rw [hk] at hx; cases hx
     | some j =>
       rw [hk] at hx
       cases hx
       rw [List.getD_eq_getElem?_getD, hk, Option.getD_some]
       exact R.1.tm j
   · rw [if_neg hid] at h
     have := kM hfresh h
     simp only [ghG, if_neg this]
     exact R.1.oR id l cs h i x hx
 · intro x u hx
   show u3 (u1 M0 ρ (LS.hf (s.h ++ [(s.nx, .B3 k (keep.map (LS.tf s.t)))]))) _ w x u
   rw [hM]
   rcases hx with hx | ⟨t, rfl, rfl⟩
   · exact R.1.mQ x u hx
   · exact a3w R t
 · intro id b q f h
   have h : LS.hf (s.h ++ [(s.nx, .B3 k (keep.map (LS.tf s.t)))]) id = .mp b q f := h
   rw [hh] at h
   by_cases hid : id = s.nx
   · rw [if_pos hid] at h; cases h
   · rw [if_neg hid] at h; exact R.1.mR id b q f h
 · intro id r p h hp
   have h : LS.hf (s.h ++ [(s.nx, .B3 k (keep.map (LS.tf s.t)))]) id = .live r := h
   rw [hh] at h
   by_cases hid : id = s.nx
   · rw [if_pos hid] at h; cases h
   · rw [if_neg hid] at h; exact R.1.eG id r p h hp
 · intro id b q f h
   have h : LS.hf (s.h ++ [(s.nx, .B3 k (keep.map (LS.tf s.t)))]) id = .mp b q f := h
   rw [hh] at h
   by_cases hid : id = s.nx
   · rw [if_pos hid] at h; cases h
   · rw [if_neg hid] at h; exact R.1.pM id b q f h
 · intro p hp
   simp only [List.mem_append, List.mem_singleton] at hp ⊢
   rcases hp with hp | rfl
   · have := R.2 p hp; omega
   · simp
theorem a8u {id : Nat} {p : Nat × RS} : ∀ {l : List (Nat × RS)}, p ∈ D5 id l → ∃ q ∈ l, q.1 = p.1 := by
 intro l
 induction l with
 | nil => intro h; cases h
 | cons q l ih =>
   intro h
   simp only [D5, List.mem_cons] at h
   rcases h with h | h
   · refine ⟨q, by simp, ?_⟩
     split at h
     · rw [h]
     · rw [h]
   · obtain ⟨q', h1, h2⟩ := ih h
     exact ⟨q', List.mem_cons_of_mem _ h1, h2⟩
theorem a5l {t : List AV} {keep : List Nat} {k : Nat} {s' : LS} {ρ' : Nat → Option (Nat × Nat × Nat)} {a' : Act} {w' : World} {id : Nat} {cs : List AV} (R' : F6 (ghG G a t keep k) M0 w0 s' ρ' a' w')
   (q1 : LS.hf s'.h id = .B3 k cs) (q2 : l7 k (D5 id s'.h)) (hn : a.tmps.size = t.length) (hd : a.defers = G.df) : F6 G M0 w0 ⟨u6 (Z4 t) keep cs, D5 id s'.h, s'.nx⟩ ρ' a w' := by
 have hg : ∀ id', LS.hf (D5 id s'.h) id' = if id' = id then .gone else LS.hf s'.h id' := fun id' => a3m id s'.h id' (by rw [q1]; intro h; cases h)
 have hM2 : u1 M0 ρ' (LS.hf (D5 id s'.h)) = u1 M0 ρ' s'.n9.h := dH fun id' r => by
   rw [hg]
   by_cases hid : id' = id
   · subst hid
     rw [if_pos rfl]
     show RS.gone = RS.live r ↔ LS.hf s'.h id' = .live r
     rw [q1]; simp
   · rw [if_neg hid]; rfl
 have hkt : ∀ i, u3 (u1 M0 ρ' s'.n9.h) ρ' w' (LS.tf (Z4 t) i) (a.tmps.getD i undef) := fun i => (R'.1.mQ _ _ (.inr ⟨i, rfl, rfl⟩)).up
 obtain ⟨l1, l2⟩ := a2O (ρ := ρ') (w := w') keep (Z4 t) cs hkt (fun i y hy hi => by
   have := R'.1.oR id k cs q1 i y hy
   simpa [ghG] using this)
 refine ⟨⟨?_, ?_, ?_, ?_, ?_, R'.1.V4, R'.1.m0, hd, ?_, ?_, ?_, R'.1.iT, ?_, ?_, R'.1.qE⟩, ?_⟩
 · show a.tmps.size = (u6 (Z4 t) keep cs).length
   rw [l1]; simp [Z4]; exact hn
 · intro i
   show u3 (u1 M0 ρ' (LS.hf (D5 id s'.h))) ρ' w' _ _
   rw [hM2]; exact l2 i
 · intro id' r h
   have h : LS.hf (D5 id s'.h) id' = .live r := h
   rw [hg] at h
   by_cases hid : id' = id
   · rw [if_pos hid] at h; cases h
   · rw [if_neg hid] at h
     show ∃ b β arr e, ρ' id' = some (b, β, r.sz) ∧ _ ∧ _ ∧ _ ∧ _ ∧ ∀ (i j : Nat) e x u, _ → _ → _ → u3 (u1 M0 ρ' (LS.hf (D5 id s'.h))) ρ' w' x u
     rw [hM2]; exact R'.1.live id' r h
 · intro id' h
   have h : LS.hf (D5 id s'.h) id' = .free := h
   rw [hg] at h
   by_cases hid : id' = id
   · rw [if_pos hid] at h; cases h
   · rw [if_neg hid] at h; exact R'.1.free id' h
 · intro i1 i2 r r' b β β' z z' h h'
   have h : LS.hf (D5 id s'.h) i1 = .live r := h
   have h' : LS.hf (D5 id s'.h) i2 = .live r' := h'
   rw [hg] at h h'
   by_cases hid : i1 = id
   · rw [if_pos hid] at h; cases h
   · by_cases hid' : i2 = id
     · rw [if_pos hid'] at h'; cases h'
     · rw [if_neg hid] at h; rw [if_neg hid'] at h'; exact R'.1.inj i1 i2 r r' b β β' z z' h h'
 · intro id' l cs' h i y hy
   show u3 (u1 M0 ρ' (LS.hf (D5 id s'.h))) ρ' w' _ _
   rw [hM2]
   have h : LS.hf (D5 id s'.h) id' = .B3 l cs' := h
   have hlk := kM q2 h
   rw [hg] at h
   by_cases hid : id' = id
   · rw [if_pos hid] at h; cases h
   · rw [if_neg hid] at h
     have := R'.1.oR id' l cs' h i y hy
     simpa only [ghG, if_neg hlk] using this
 · intro y u hy
   show u3 (u1 M0 ρ' (LS.hf (D5 id s'.h))) (fun _ => none) w' _ _
   rw [hM2]; exact R'.1.mQ y u (.inl hy)
 · intro id' b q f h
   have h : LS.hf (D5 id s'.h) id' = .mp b q f := h
   rw [hg] at h
   by_cases hid : id' = id
   · rw [if_pos hid] at h; cases h
   · rw [if_neg hid] at h; exact R'.1.mR id' b q f h
 · intro id' r p h hp
   have h : LS.hf (D5 id s'.h) id' = .live r := h
   rw [hg] at h
   by_cases hid : id' = id
   · rw [if_pos hid] at h; cases h
   · rw [if_neg hid] at h; exact R'.1.eG id' r p h hp
 · intro id' b q f h
   have h : LS.hf (D5 id s'.h) id' = .mp b q f := h
   rw [hg] at h
   by_cases hid : id' = id
   · rw [if_pos hid] at h; cases h
   · rw [if_neg hid] at h; exact R'.1.pM id' b q f h
 · intro p hp
   obtain ⟨q, h1, h2⟩ := a8u hp
   rw [← h2]; exact R'.2 q h1
end
end
section
section
variable {M0 : Nat → Nat → Prop} {w0 : World} {ρ : Nat → Option (Nat × Nat × Nat)} {a a2 : Act} {w w2 : World} {G G2 : Gh} {P : Program} {s : LS}
def a5J (h : List (Nat × RS)) : Prop := ∀ id b q f, LS.hf h id ≠ .mp b q f
theorem F6.a4r (R : F6 G M0 w0 s ρ a w) (hmp : a5J s.h) (ht : a2.tmps = a.tmps) (hg : G2.g = G.g) (hf : ∀ x u, G2.fr x u → G.fr x u) (hsh : G2.sh = G.sh)
   (h1 : ∀ (b : Nat) (arr : Array Value) (e : TypeId) (fr : Nat × Nat), w.heap[b]? = some (.cells arr e fr) → w2.heap[b]? = some (.cells arr e fr))
   (hb : Below w0.heap.size w0 w2) (hk : ∀ b o, G2.kp b = some o → w2.heap[b]? = some o) (hkc : ∀ b arr e fr, w.heap[b]? = some (.cells arr e fr) → G.kp b = none → G2.kp b = none)
   (hm : ∀ b o, M0 b o → b < w0.heap.size ∨ ∃ x, G2.kp b = some x) (hd : a2.defers = G2.df) : F6 G2 M0 w0 s ρ a2 w2 := by
 obtain ⟨R, hok⟩ := R
 have mono : ∀ {M : Nat → Nat → Prop} {ρ' : Nat → Option (Nat × Nat × Nat)} {x : AV} {u : Value}, u3 M ρ' w x u → u3 M ρ' w2 x u := fun hr => hr.mono (fun _ _ h => h) (fun _ _ _ g1 g2 => ⟨g1, zM h1 g2⟩) (fun _ _ h => iZ h1 h)
 refine ⟨⟨by rw [ht]; exact R.n, fun t => by rw [ht]; exact mono (R.tm t), fun id r hr => ?_, R.free, R.inj, hb, hm, hd, fun id k cs hc i x hx => by rw [hg]; exact mono (R.oR id k cs hc i x hx), fun x u hx => mono (R.mQ x u (hf x u hx)), fun id b q f h => absurd h (hmp id b q f), hk, fun id r p hr hp => ?_, fun id b q f h => absurd h (hmp id b q f), fun b x hx => iZ h1 (R.qE b x (by rw [← hsh]; exact hx))⟩, hok⟩
 · obtain ⟨b, β, arr, e, l1, l2, l3, l4, l5, l6⟩ := R.live id r hr
   exact ⟨b, β, arr, e, l1, l2, h1 _ _ _ _ l3, l4, l5, fun i j e' x u g1 g2 g3 => mono (l6 i j e' x u g1 g2 g3)⟩
 · obtain ⟨b, β, arr, e, l1, l2, l3, _⟩ := R.live id r hr
   rw [l1] at hp; cases hp
   exact hkc _ _ _ _ l3 (R.eG id r _ hr l1)
def cS (G : Gh) (w : World) : Gh := { G with kp := fun b => match w.heap[b]? with | some o => if o.isCells then G.kp b else some o | none => G.kp b }
theorem oV (R : F6 G M0 w0 s ρ a w) {b : Nat} {o : Obj} (h : G.kp b = some o) : (cS G w).kp b = some o := by
 have hw := R.1.iT b o h
 simp only [cS, hw]
 split
 · exact h
 · rfl
theorem F6.big (R : F6 G M0 w0 s ρ a w) (hmp : a5J s.h) : F6 (cS G w) M0 w0 s ρ a w := by
 refine R.a4r hmp rfl rfl (fun _ _ h => h) rfl (fun _ _ _ _ h => h) R.1.V4 (fun b o h => ?_) (fun b arr e fr h hn => ?_) (fun b o h => ?_) R.1.defers
 · simp only [cS] at h
   cases hw : w.heap[b]? with
   | none => rw [hw] at h; have := R.1.iT b o h; rw [hw] at this; cases this
   | some x =>
     rw [hw] at h
     simp only at h
     split at h
     · have := R.1.iT b o h; rw [hw] at this; exact this
     · exact h
 · simp only [cS, h, Obj.isCells, if_true]; exact hn
 · rcases R.1.m0 b o h with h | ⟨x, h⟩
   · exact .inl h
   · exact .inr ⟨x, oV R h⟩
def HX (X : Nat → Nat → Value → Prop) (W : World) : Prop := ∀ b o c, X b o c → W.cell? ⟨b, o, none⟩ = some c
def a4v (G : Gh) (X : Nat → Nat → Value → Prop) : Gh := { G with fr := fun x u => G.fr x u ∨ ∃ b o c, X b o c ∧ x = .aP [[.v c]] 0 0 ∧ u = .pointer (some ⟨b, o, none⟩) }
theorem HX.of {X : Nat → Nat → Value → Prop} (R : F6 (a4v G X) M0 w0 s ρ a w) : HX X w := by
 intro b o c h
 have := R.1.mQ (.aP [[.v c]] 0 0) (.pointer (some ⟨b, o, none⟩)) (.inr ⟨b, o, c, h, rfl, rfl⟩)
 generalize hu : Value.pointer (some ⟨b, o, none⟩) = u at this
 cases this with
 | aP es i k b' o' sz cell hi hk aO hm hr =>
   simp only [Value.pointer.injEq, Option.some.injEq, Addr.mk.injEq, Nat.zero_mul, Nat.add_zero, and_true] at hu
   obtain ⟨rfl, rfl⟩ := hu
   have h1 := (hm 0 0 (by simp) (by omega)).2
   have h2 := (hr 0 0 [.v c] (.v c) rfl rfl).X5
   rw [h2] at h1
   simpa using h1
theorem F6.a4v {X : Nat → Nat → Value → Prop} (R : F6 G M0 w0 s ρ a w) (hX : ∀ b o c, X b o c → ¬ u1 M0 ρ s.n9.h b o ∧ w.cell? ⟨b, o, none⟩ = some c) : F6 (a4v G X) M0 w0 s ρ a w := by
 refine ⟨⟨R.1.n, R.1.tm, R.1.live, R.1.free, R.1.inj, R.1.V4, R.1.m0, R.1.defers, R.1.oR, fun x u hx => ?_, R.1.mR, R.1.iT, R.1.eG, R.1.pM, R.1.qE⟩, R.2⟩
 rcases hx with hx | ⟨b, o, c, hx, rfl, rfl⟩
 · exact R.1.mQ x u hx
 · obtain ⟨h1, h2⟩ := hX b o c hx
   have := u3.aP (M := u1 M0 ρ s.n9.h) (ρ := fun _ => none) (w := w) [[.v c]] 0 0 b o 1 (fun _ _ => c) (by simp) (by omega) (by simp) (fun i j hi hj => by
     have : i = 0 := by simpa using hi
     have : j = 0 := by omega
     subst this; subst i
     exact ⟨h1, h2⟩) (fun i j e x h1 h2 => by
     cases i with
     | zero =>
       cases h1
       cases j with
       | zero => cases h2; exact .v _
       | succ j => simp at h2
     | succ i => simp at h1)
   simpa using this
end
def b5z (t : List AV) (keep : List Nat) (lab : Nat) (Nx : LS) : LS → Prop := fun s2 => ∃ id cs, LS.hf s2.h id = .B3 lab cs ∧ l7 lab (D5 id s2.h) ∧ a5J s2.h ∧ Q9 ⟨u6 (Z4 t) keep cs, D5 id s2.h, s2.nx⟩ Nx
def b1O (t : List AV) (h : List (Nat × RS)) (nx : Nat) (keep : List Nat) (lab : Nat) (p1 p2 : Tmp) (x1 x2 : AV) : LS :=
 ⟨(t.set p1 x1).set p2 x2, h ++ [(nx, .B3 lab (keep.map (LS.tf t)))], nx + 8⟩
theorem a79 {P : Program} [j5 P] {g : Operand} {p1 p2 : Tmp} {assign body : Code} {s : LS} {K : Exit → LS → Prop} {gf : FuncId} {α : Type} (N : Nat) (v1 v2 : α → Value) (x1 x2 : α → AV) (S : List α → LS) (Sq : List α → Prop) (lab : Nat) (keep : List Nat)
   (hv : ∀ x, (∀ M ρ w, u3 M ρ w (x1 x) (v1 x)) ∧ ∀ M ρ w, u3 M ρ w (x2 x) (v2 x))
   (hcal : gQ P gf) (hw : Q9 s (S [])) (hp : ∀ pre, p1 < (S pre).t.length ∧ p2 < (S pre).t.length) (hmp : ∀ pre, a5J (S pre).h) (hfr : ∀ pre, l7 lab (S pre).h)
   (hit : ∀ (G : Gh) (M0 : Nat → Nat → Prop) (w0 : World) (ρ : Nat → Option (Nat × Nat × Nat)) (a : Act) (w : World), F6 G M0 w0 (S []) ρ a w → ∃ lb, a.eval g = .func (.func gf) #[] lb ∧
     ∀ X : Nat → Nat → Value → Prop, (∀ b o c, ¬ u1 M0 ρ (S []).n9.h b o → w.cell? ⟨b, o, none⟩ = some c → X b o c) → HX X w →
       SeqStopsK Fence.wide 2 P gf lb (fun x => #[v1 x, v2 x]) (fun W W' => HX X W → HX X W') Sq (fun _ => True) N w)
   (hround : ∀ pre x, pre.length < N → gH (md := true) P assign (b1O (S pre).t (S pre).h (S pre).nx keep lab p1 p2 (x1 x) (x2 x))
     (S8 (fun s1 => a5J s1.h ∧ gH (md := true) P body s1 (S8 (b5z (S pre).t keep lab (S (pre ++ [x]))) (fun _ _ => False))) (fun _ _ => False)))
   (hK : ∀ xs, Sq xs → K .normal (S xs)) : gH (md := false) P (.rangeFunc g #[p1, p2] assign body) s K := by
 intro m hm G M0 w0 ρ a w Q hgl R hQ
 obtain rfl := hm rfl
 obtain ⟨ρ1, R1⟩ := hw G M0 w0 ρ a w R
 obtain ⟨lb, hev, hseq⟩ := hit G M0 w0 ρ1 a w R1
 obtain ⟨X, hX⟩ : ∃ X : Nat → Nat → Value → Prop, X = fun b o c => ¬ u1 M0 ρ1 (S []).n9.h b o ∧ w.cell? ⟨b, o, none⟩ = some c := ⟨_, rfl⟩
 have hXw : HX X w := fun b o c h => by rw [hX] at h; exact h.2
 have hseq := hseq X (fun b o c h1 h2 => by rw [hX]; exact ⟨h1, h2⟩) hXw
 obtain ⟨G1, hG1⟩ : ∃ G1, G1 = a4v G X := ⟨_, rfl⟩
 have R2 : F6 G1 M0 w0 (S []) ρ1 a w := by rw [hG1]; exact R1.a4v (fun b o c h => by rw [hX] at h; exact h)
 have hkB : ∀ b o, G1.kp b = some o → b < w.heap.size := fun b o h => E7 (R2.1.iT b o h)
 have aO := R2.1.V4.size
 have hdf : a.defers = G1.df := R2.1.defers
 have hm0 := R2.1.m0
 have hX1 : ∀ {sx : LS} {ρx : Nat → Option (Nat × Nat × Nat)} {ax : Act} {W : World}, F6 G1 M0 w0 sx ρx ax W → HX X W := fun Rx => by rw [hG1] at Rx; exact HX.of Rx
 obtain ⟨fnr, hfn, hbody, hname⟩ := hcal
 have heg : ∀ args w, (callFunc gf args).run P w = .ok (.enter gf args) w := fun args w => by
   have hb : fnr.body.isNone = false := by cases hb : fnr.body with | none => rw [hb] at hbody; cases hbody | some _ => rfl
   simp only [callFunc, Sem.run_bind, run_program, Result.andThen_ok, hfn, hname, hb, Bool.false_eq_true, if_false, Sem.run_pure]
 have grown : ∀ {Gx : Gh} {sx : LS} {ρx : Nat → Option (Nat × Nat × Nat)} {ax : Act} {A B : World} {row : Option Nat}, (∀ b o, Gx.kp b = some o → b < w.heap.size) → a5J sx.h → F6 Gx M0 w0 sx ρx ax A → A.grownBy B row →
     (∀ r, row = some r → w.heap.size ≤ r ∧ ∃ o : Obj, A.heap[r]? = some o ∧ o.isCells = false) → F6 Gx M0 w0 sx ρx ax B := by
   intro Gx sx ρx ax A B row hkx hmx Rx hg hr
   have tH : ∀ (b : Nat) (o : Obj), A.heap[b]? = some o → (∀ r, row = some r → r ≠ b) → B.heap[b]? = some o := fun b o h hne => (hg.block b (E7 h) (fun e => hne b e.symm rfl)).trans h
   refine Rx.a4r hmx rfl rfl (fun _ _ h => h) rfl (fun b arr e fr h => tH b _ h fun r hr2 e2 => ?_) ?_ (fun b o h => tH b _ (Rx.1.iT b o h) fun r hr2 e2 => ?_) (fun _ _ _ _ _ h => h) Rx.1.m0 Rx.1.defers
   · subst e2
     obtain ⟨_, o, ho, hc⟩ := hr r hr2
     rw [h] at ho; cases ho; cases hc
   · have hb := Rx.1.V4
     refine ⟨hg.os.trans hb.os, hg.tape.trans hb.tape, hg.output.trans hb.output, Nat.le_trans hb.size hg.size, fun k hk => ?_⟩
     have hlt : k < A.heap.size := Nat.lt_of_lt_of_le hk hb.size
     refine (hg.block k hlt (fun e => ?_)).trans (hb.block k hk)
     have := (hr k e.symm).1
     omega
   · subst e2
     have := (hr r hr2).1
     have := hkx r o h
     omega
 refine wS (dM none) (n := 3) ?_
 have key : (Code.rangeFunc g #[p1, p2] assign body).wpIn Fence.wide 3 P Q a w := by
   refine wpIn_rangeFunc ?_
   intro fn hfnn
   obtain ⟨rec, hrec⟩ : ∃ rec : LoopState → Loop, rec = fun st => { state := st, pending := none, fn, tmps := a.tmps, params := #[p1, p2], assign, body, defers := w.heap.size } := ⟨_, rfl⟩
   obtain ⟨l, hl⟩ : ∃ l, l = w.heap.size + 1 := ⟨_, rfl⟩
   obtain ⟨W1, hW1⟩ : ∃ W1, W1 = (w.alloc (.deferred (some []))).alloc (.loop (rec .ready)) := ⟨_, rfl⟩
   have hL1 : W1.heap[l]? = some (.loop (rec .ready)) := by
     rw [hW1, hl]; have := World.alloc_heap_new (w.alloc (.deferred (some []))) (.loop (rec .ready)); rwa [World.size_alloc] at this
   have hD1 : W1.heap[w.heap.size]? = some (.deferred (some [])) := by
     rw [hW1]; exact (Below.heap_alloc _ _ _ (by simp)).trans (World.alloc_heap_new w _)
   have hs1 : W1.heap.size = w.heap.size + 2 := by rw [hW1]; simp
   have R3 : F6 G1 M0 w0 (S []) ρ1 a W1 := by
     rw [hW1]
     refine grown hkB (hmp _) (grown hkB (hmp _) R2 (World.grownBy_alloc _ _ none) (fun r e => by cases e)) (World.grownBy_alloc _ _ none) (fun r e => by cases e)
   have hb1 : Below w.heap.size w W1 := by
     rw [hW1]; exact (((Below.refl _ w).alloc (Nat.le_refl _) _).alloc (by simp) _)
   refine ⟨l, [a1c w.heap.size], W1, { target := .fn (.func gf) lb, args := #[.func (.yield l) #[] #[]] }, W1, gf, #[.func (.yield l) #[] #[]] ++ lb, W1, ?_, ?_, fun _ _ => trivial, ?_, fun _ => by omega, ?_⟩
   · rw [hW1, hrec, hl]; exact run_enterLoop_outer _ _ _ _ _
   · simp only [resolve, hev]
     simp [go_sem]
   · simp [invoke, go_sem, heg]
   obtain ⟨J, hJ⟩ : ∃ J : List α → World → Prop, J = fun pre W => (∃ ρx, F6 G1 M0 w0 (S pre) ρx a W) ∧ W.heap[l]? = some (.loop (rec .ready)) ∧ W.heap[w.heap.size]? = some (.deferred (some [])) := ⟨_, rfl⟩
   refine (hseq l J (fun _ _ => False) W1 hb1 ?_ (fun _ _ _ _ h => h.elim) ?_ (by rw [hJ]; exact ⟨⟨ρ1, R3⟩, hL1, hD1⟩)).mono ?_
   · intro pre A B row hs hg hr
     rw [hJ] at hs ⊢
     obtain ⟨⟨ρx, Rx⟩, q1, q2⟩ := hs
     refine ⟨⟨ρx, grown hkB (hmp _) Rx hg fun r e => ?_⟩, (grownBy_keeps hg (fun r e => (hr r e).2) q1 rfl).trans q1, (grownBy_keeps hg (fun r e => (hr r e).2) q2 rfl).trans q2⟩
     obtain ⟨hB, o, ho, hw⟩ := hr r e
     exact ⟨by omega, o, ho, Obj.not_cells_of_walk hw⟩
   ·
     intro pre x W hj hlen
     rw [hJ] at hj
     obtain ⟨⟨ρx, Rx⟩, q1, q2⟩ := hj
     have hy := run_yield (P := P) (args := #[v1 x, v2 x]) q1 (by rw [hrec]; rfl)
     rw [hrec] at hy
     refine ⟨fn, _, assign, body, hy, roundIn_of_wpIn hfnn ?_⟩
     refine wS (dM (some l)) (n := 0) ?_
     obtain ⟨a1, ha1⟩ : ∃ a1 : Act, a1 = { tmps := (#[p1, p2].zip #[v1 x, v2 x]).foldl (fun t (p, v) => t.setIfInBounds p v) a.tmps, defers := [] } := ⟨_, rfl⟩
     rw [← ha1]
     have Rb := Rx.big (hmp _)
     have Rp : F6 (cS G1 W) M0 w0 (((S pre).put (some p1) (x1 x)).put (some p2) (x2 x)) ρx ((a.put (some p1) (v1 x)).put (some p2) (v2 x)) W :=
       F6.put (d := some p2) (F6.put (d := some p1) Rb (hp pre).1 ((hv x).1 _ _ _)) (by show p2 < ((S pre).t.set p1 (x1 x)).length; rw [List.length_set]; exact (hp pre).2) ((hv x).2 _ _ _)
     have hat : a1.tmps = ((a.put (some p1) (v1 x)).put (some p2) (v2 x)).tmps := by rw [ha1]; simp [Act.put]
     have Ri : F6 (ghG (cS G1 W) a (S pre).t keep lab) M0 w0 (b1O (S pre).t (S pre).h (S pre).nx keep lab p1 p2 (x1 x) (x2 x)) ρx a1 W :=
       b0F (t := ((S pre).t.set p1 (x1 x)).set p2 (x2 x)) Rb (by rw [hat]; exact Rp.1.n) (fun j => by rw [hat]; exact Rp.1.tm j) (hfr _) (by rw [ha1])
     have hkl : (cS G1 W).kp l = some (.loop (rec .ready)) := by simp only [cS, q1, Obj.isCells]; rfl
     have hkD : (cS G1 W).kp w.heap.size = some (.deferred (some [])) := by simp only [cS, q2, Obj.isCells]; rfl
     refine hround pre x hlen (some l) (fun h => by cases h) _ M0 w0 ρx a1 W _ hgl Ri ?_
     intro Ds e s1 ρ2 a2 W2 hDs hs1 R4
     cases e with
     | normal =>
       obtain ⟨hm1, hbd⟩ := hs1
       have ne1 : ∀ b o, (cS G1 W).kp b = some o → b ∉ Ds := fun b o h hb => by have := (hDs.2 b hb).2; simp only [ghG] at this; rw [h] at this; cases this
       have kp1 : ∀ b o, (cS G1 W).kp b = some o → W2.heap[b]? = some o := fun b o h => R4.1.iT b o (by simp only [aC, ne1 b o h, if_false]; exact h)
       have q3 := kp1 _ _ hkl
       have q4 := kp1 _ _ hkD
       refine ⟨_, run_beginRound q3 (by rw [hrec]), ?_⟩
       obtain ⟨W3, hW3⟩ : ∃ W3, W3 = W2.putObj l (.loop { rec .ready with state := .busy }) := ⟨_, rfl⟩
       rw [← hW3]
       have hlt : l < W2.heap.size := E7 q3
       have q5 : W3.heap[l]? = some (.loop (rec .busy)) := by rw [hW3, World.putObj_heap_same hlt, hrec]
       have oth : ∀ b, b ≠ l → W3.heap[b]? = W2.heap[b]? := fun b hb => by rw [hW3]; exact World.putObj_heap_other hb
       have q6 : W3.heap[w.heap.size]? = some (.deferred (some [])) := (oth _ (by omega)).trans q4
       have celO : ∀ (b : Nat) (arr : Array Value) (e : TypeId) (fr : Nat × Nat), W2.heap[b]? = some (.cells arr e fr) → W3.heap[b]? = some (.cells arr e fr) := fun b arr e fr h => by
         rw [oth b (fun e => by rw [e, q3] at h; cases h)]; exact h
       have blO : Below w0.heap.size w0 W3 := by
         have hb := R4.1.V4
         rw [hW3]
         exact hb.grown (grownBy_putObj' W2 l _) hb.size (fun k e => by cases e; omega)
       have kB2 : ∀ b o, (cS G1 W3).kp b = some o → W3.heap[b]? = some o := fun b o h => by
         have base : G1.kp b = some o → W3.heap[b]? = some o := fun hh => (oth b (by have := hkB b o hh; omega)).trans (kp1 b o (oV Rx hh))
         simp only [cS] at h
         cases hw : W3.heap[b]? with
         | none => rw [hw] at h; simp only at h; exact hw ▸ base h
         | some y =>
           rw [hw] at h
           simp only at h
           split at h
           · exact hw ▸ base h
           · exact h
       obtain ⟨G3, hG3⟩ : ∃ G3 : Gh, G3 = { ghG (cS G1 W3) a (S pre).t keep lab with df := a2.defers } := ⟨_, rfl⟩
       have R5 : F6 G3 M0 w0 s1 ρ2 a2 W3 := by
         refine R4.a4r hm1 rfl (by rw [hG3]; rfl) (fun y u h => by rw [hG3] at h; exact h) (by rw [hG3]; rfl) celO blO (fun b o h => by rw [hG3] at h; exact kB2 b o h) (fun b arr e fr h hn => ?_) (fun b o h => ?_) (by rw [hG3])
         · rw [hG3]
           show (cS G1 W3).kp b = none
           simp only [cS, celO _ _ _ _ h, Obj.isCells, if_true]
           simp only [aC] at hn
           split at hn
           · cases hn
           · have hn : (cS G1 W).kp b = none := hn
             cases hh : G1.kp b with
             | none => rfl
             | some y => rw [oV Rx hh] at hn; cases hn
         · rcases Rx.1.m0 b o h with h | ⟨y, h⟩
           · exact .inl h
           · refine .inr ⟨y, ?_⟩
             rw [hG3]
             show (cS G1 W3).kp b = some y
             have := kp1 b y (oV Rx h)
             simp only [cS, (oth b (by have := hkB b y h; omega)).trans this]
             split
             · exact h
             · rfl
       refine wS (dM (some l)) (n := 0) ?_
       refine hbd (some l) (fun h => by cases h) G3 M0 w0 ρ2 a2 W3 _ hgl R5 ?_
       intro Ds2 e s2 ρ3 a3 W4 hD2 hs2 R6
       cases e with
       | normal =>
         obtain ⟨id, cs, k1, k2, k3, k4⟩ := hs2
         have hkl3 : G3.kp l = some (.loop (rec .busy)) := by rw [hG3]; simp only [ghG, cS, q5, Obj.isCells]; rfl
         have hkD3 : G3.kp w.heap.size = some (.deferred (some [])) := by rw [hG3]; simp only [ghG, cS, q6, Obj.isCells]; rfl
         have kp3 : ∀ b o, G3.kp b = some o → W4.heap[b]? = some o := fun b o h => R6.1.iT b o (by
           have : b ∉ Ds2 := fun hb => by have := (hD2.2 b hb).2; rw [h] at this; cases this
           simp only [aC, this, if_false]; exact h)
         have q7 := kp3 _ _ hkl3
         have q8 := kp3 _ _ hkD3
         have hre := run_endRound (P := P) none q7
         obtain ⟨W5, hW5⟩ : ∃ W5, W5 = W4.putObj l (.loop (rec .ready)) := ⟨_, rfl⟩
         have hlt4 : l < W4.heap.size := E7 q7
         have hre5 : (Instr.endRound l none).run P W4 = .ok (.bool true) W5 := by rw [hre, hW5, hrec]; rfl
         have oth5 : ∀ b, b ≠ l → W5.heap[b]? = W4.heap[b]? := fun b hb => by rw [hW5]; exact World.putObj_heap_other hb
         obtain ⟨a4, ha4⟩ : ∃ a4 : Act, a4 = { tmps := a3.tmps, defers := [] } := ⟨_, rfl⟩
         have R7 : F6 (ghG G1 a (S pre).t keep lab) M0 w0 s2 ρ3 a4 W5 := by
           refine R6.a4r k3 (by rw [ha4]) (by rw [hG3]; rfl) (fun y u h => by rw [hG3]; exact h) (by rw [hG3]; rfl) (fun b arr e fr h => ?_) ?_ (fun b o h => ?_) (fun b arr e fr h hn => ?_) (fun b o h => Rx.1.m0 b o h) (by rw [ha4]; rfl)
           · rw [oth5 b (fun e => by rw [e, q7] at h; cases h)]; exact h
           · rw [hW5]; exact R6.1.V4.grown (grownBy_putObj' W4 l _) R6.1.V4.size (fun k e => by cases e; omega)
           · have h : G1.kp b = some o := h
             refine (oth5 b (by have := hkB b o h; omega)).trans (kp3 b o ?_)
             rw [hG3]
             show (cS G1 W3).kp b = some o
             have := kp1 b o (oV Rx h)
             simp only [cS, (oth b (by have := hkB b o h; omega)).trans this]
             split
             · exact h
             · rfl
           · show G1.kp b = none
             cases hh : G1.kp b with
             | none => rfl
             | some y =>
               simp only [aC] at hn
               split at hn
               · cases hn
               · rw [hG3] at hn
                 have hn : (cS G1 W3).kp b = none := hn
                 have := kp1 b y (oV Rx hh)
                 simp only [cS, (oth b (by have := hkB b y hh; omega)).trans this] at hn
                 split at hn
                 · rw [hh] at hn; cases hn
                 · cases hn
         have R8 := a5l R7 k1 k2 Rx.1.n Rx.1.defers
         obtain ⟨ρ4, R9⟩ := k4 _ _ _ _ _ _ R8
         refine ⟨_, W5, hre5, .inl ⟨rfl, ?_, fun _ => hX1 R9⟩⟩
         rw [hJ]
         refine ⟨⟨ρ4, R9⟩, by rw [hW5]; exact World.putObj_heap_same hlt4, (oth5 _ (by omega)).trans q8⟩
       | _ => exact hs2.elim
     | _ => exact hs1.elim
   ·
     rintro e W2 ⟨⟨v, rfl⟩, (⟨xs, hS, hj⟩ | ⟨pre, _, hj⟩)⟩
     · rw [hJ] at hj
       obtain ⟨⟨ρx, Rx⟩, q1, q2⟩ := hj
       refine ⟨none, _, by have := run_endLoop (P := P) q1 (by rw [hrec]; simp); rw [hrec] at this; exact this, ?_⟩
       have hDn : G.kp w.heap.size = none := by
         cases hh : G.kp w.heap.size with
         | none => rfl
         | some o => have := R1.1.iT _ o hh; have := E7 this; omega
       have Ry := grown hkB (hmp _) Rx (grownBy_putObj' W2 l (.loop { rec .ready with state := .exhausted })) (fun r e => by cases e; exact ⟨by omega, _, q1, rfl⟩)
       have q3 : (W2.putObj l (.loop { rec .ready with state := .exhausted })).heap[w.heap.size]? = some (.deferred (some [])) := (World.putObj_heap_other (by omega)).trans q2
       rw [hrec] at Ry q3
       refine hQ [w.heap.size] .normal (S xs) ρx _ _ ⟨by simp, fun D' h' => ?_⟩ (hK xs hS) ?_
       · obtain rfl := List.mem_singleton.1 h'
         exact ⟨by omega, hDn⟩
       · refine Ry.a4r (hmp _) rfl (by rw [hG1]; rfl) (fun y u h => by rw [hG1]; exact .inl h) (by rw [hG1]; rfl) (fun _ _ _ _ h => h) Ry.1.V4 (fun b o h => ?_) (fun b arr e fr h hn => ?_) (fun b o h => ?_) ?_
         · simp only [aC, List.mem_singleton] at h
           split at h
           · rename_i e; subst e; cases h; exact q3
           · exact Ry.1.iT b o (by rw [hG1]; exact h)
         · simp only [aC, List.mem_singleton]
           split
           · rename_i e; subst e; rw [q3] at h; cases h
           · rw [hG1] at hn; exact hn
         · rcases hm0 b o h with h | ⟨y, h⟩
           · exact .inl h
           · right
             simp only [aC, List.mem_singleton]
             split
             · exact ⟨_, rfl⟩
             · rw [hG1] at h; exact ⟨y, h⟩
         · show a1c w.heap.size :: a.defers = _
           rw [R1.1.defers]; rfl
     · exact hj.elim
 exact key
end
def a7o (h : List (Nat × RS)) : Bool := h.all fun p => match p.2 with | .mp _ _ _ => false | _ => true
theorem a1i {h : List (Nat × RS)} (hb : a7o h = true) : a5J h := by
 intro id b q f he
 unfold LS.hf at he
 cases hl : h.lookup id with
 | none => rw [hl] at he; cases he
 | some x =>
   rw [hl] at he
   simp only [Option.getD_some] at he
   subst he
   have hm : (id, RS.mp b q f) ∈ h := by
     clear hb
     induction h with
     | nil => cases hl
     | cons p h ih =>
       obtain ⟨i, y⟩ := p
       rw [List.lookup_cons] at hl
       by_cases e : id = i
       · subst e; simp at hl; subst hl; simp
       · have hb' : (id == i) = false := by simp [e]
         rw [hb'] at hl
         exact List.mem_cons_of_mem _ (ih hl)
   have := List.all_eq_true.1 hb _ hm
   exact absurd this (by simp)
theorem a7G {t : List AV} {keep : List Nat} {lab : Nat} {Nx s2 : LS} (id : Nat) {cs : List AV} (h1 : LS.hf s2.h id = .B3 lab cs) (h2 : l7 lab (D5 id s2.h)) (h3 : a7o s2.h = true) (h4 : Q9 ⟨u6 (Z4 t) keep cs, D5 id s2.h, s2.nx⟩ Nx) : b5z t keep lab Nx s2 :=
 ⟨id, cs, h1, h2, a1i h3, h4⟩
theorem b2L {M : Nat → Nat → Prop} {ρ : Nat → Option (Nat × Nat × Nat)} {w : World} {c : Bool} {es : List (List AV)} {u : Value} (h : u3 M ρ w (.b7 c es) u) :
   ∃ (a : Option Addr) (cap b o sz : Nat) (cell : Nat → Nat → Value), u = .slice a es.length cap ∧ es.length ≤ cap ∧ (∀ e ∈ es, e.length = sz) ∧ (es ≠ [] → a = some ⟨b, o, none⟩) ∧
     (∀ i j, i < es.length → j < sz → ¬ M b (o + i * sz + j) ∧ w.cell? ⟨b, o + i * sz + j, none⟩ = some (cell i j)) ∧ ∀ (i j : Nat) e x, es[i]? = some e → e[j]? = some x → u3 M (fun _ => none) w x (cell i j) := by
 cases h with
 | b7 c es a cap b o sz cell hc gD aO ha hm hr => exact ⟨a, cap, b, o, sz, cell, rfl, hc, aO, ha, hm, hr⟩
theorem b0K {M : Nat → Nat → Prop} {ρ : Nat → Option (Nat × Nat × Nat)} {w : World} {x : AV} {u : Value} (h : u3 M ρ w (.aP [[x]] 0 0) u) :
   ∃ (b o : Nat) (c : Value), u = .pointer (some ⟨b, o, none⟩) ∧ ¬ M b o ∧ w.cell? ⟨b, o, none⟩ = some c ∧ u3 M (fun _ => none) w x c := by
 cases h with
 | aP es i k b o sz cell hi hk aO hm hr =>
   have h1 := hm 0 0 (by simp) (by omega)
   refine ⟨b, o, cell 0 0, by simp, ?_, ?_, hr 0 0 [x] x rfl rfl⟩
   · simpa using h1.1
   · simpa using h1.2
theorem b2D {M : Nat → Nat → Prop} {ρ : Nat → Option (Nat × Nat × Nat)} {w : World} {f : FuncId} {x : AV} {u : Value} (h : u3 M ρ w (.fn f [x]) u) :
   ∃ y, u = .func (.func f) #[] #[y] ∧ u3 M ρ w x y := by
 cases h with
 | fn f cs vs hn h =>
   obtain ⟨vs⟩ := vs
   match vs, hn with
   | [y], _ => exact ⟨y, rfl, h 0 x y rfl rfl⟩
end Go.Ab
end
section
namespace Go.Ab
section
section
variable {md : Bool} {P : Program} {k : List KF} {s : LS} {K : Exit → LS → Prop}
theorem iK [j5 P] {c : Code} (S : Nat → LS) (n : Nat) (first : AK (md := md) P c [] s (S8 (fun s' => Q9 s' (S 0)) (X6 (md := md) P K k)))
   (round : ∀ i, i ≤ n → AK (md := md) P c [] (S i) (S8 (fun s' => i < n ∧ Q9 s' (S (i + 1))) (X6 (md := md) P K k))) : AK (md := md) P (.loop c) k s K := by
 refine fQ (fun m s' => (m = n + 1 ∧ s' = s) ∨ ∃ i, i ≤ n ∧ m = n - i ∧ s' = S i) (n + 1) (.inl ⟨rfl, rfl⟩) ?_
 rintro m s' (⟨rfl, rfl⟩ | ⟨i, hi, rfl, rfl⟩)
 · refine gH.mono first fun e s1 h => ?_
   cases e with
   | normal => exact ⟨n, S 0, by omega, h, .inr ⟨0, by omega, by omega, rfl⟩⟩
   | _ => exact h
 · refine gH.mono (round i hi) fun e s1 h => ?_
   cases e with
   | normal => exact ⟨n - (i + 1), S (i + 1), by have := h.1; omega, h.2, .inr ⟨i + 1, by have := h.1; omega, rfl, rfl⟩⟩
   | _ => exact h
theorem a4E [j5 P] {c : Code} (S : Nat → LS) (I : Nat → Prop) (n : Nat) (first : AK (md := md) P c [] s (S8 (fun s' => I 0 ∧ Q9 s' (S 0)) (X6 (md := md) P K k)))
   (round : ∀ i, i ≤ n → I i → AK (md := md) P c [] (S i) (S8 (fun s' => i < n ∧ I (i + 1) ∧ Q9 s' (S (i + 1))) (X6 (md := md) P K k))) : AK (md := md) P (.loop c) k s K := by
 refine fQ (fun m s' => (m = n + 1 ∧ s' = s) ∨ ∃ i, i ≤ n ∧ I i ∧ m = n - i ∧ s' = S i) (n + 1) (.inl ⟨rfl, rfl⟩) ?_
 rintro m s' (⟨rfl, rfl⟩ | ⟨i, hi, hI, rfl, rfl⟩)
 · refine gH.mono first fun e s1 h => ?_
   cases e with
   | normal => exact ⟨n, S 0, by omega, h.2, .inr ⟨0, by omega, h.1, by omega, rfl⟩⟩
   | _ => exact h
 · refine gH.mono (round i hi hI) fun e s1 h => ?_
   cases e with
   | normal => exact ⟨n - (i + 1), S (i + 1), by have := h.1; omega, h.2.2, .inr ⟨i + 1, by have := h.1; omega, h.2.1, rfl, rfl⟩⟩
   | _ => exact h
end
end
def xA (id : Nat) (r : RS) : List (Nat × RS) → List (Nat × RS)
 | [] => []
 | (i, x) :: l => (if i = id then (i, r) else (i, x)) :: xA id r l
theorem a0Y (id : Nat) (r : RS) : ∀ (h : List (Nat × RS)), LS.hf h id ≠ .free → LS.hf (xA id r h) = n7 (LS.hf h) id r
 | [], hn => absurd rfl hn
 | (i, x) :: l, hn => by
   funext j
   unfold n7
   by_cases hi : i = id
   · subst hi
     simp only [xA, if_true, LS.hf, List.lookup_cons]
     by_cases hj : j = i
     · subst hj; simp
     · have : (j == i) = false := by simp [hj]
       rw [this, if_neg hj]
       clear hn
       induction l with
       | nil => rfl
       | cons p l ih =>
         obtain ⟨q, y⟩ := p
         simp only [xA]
         split
         · rename_i e
           subst e
           rw [List.lookup_cons, List.lookup_cons, this]
           exact ih
         · rw [List.lookup_cons, List.lookup_cons]
           cases j == q with
           | true => rfl
           | false => exact ih
   · simp only [xA, if_neg hi, LS.hf, List.lookup_cons]
     by_cases hj : j = id
     · subst hj
       have e : (j == i) = false := by simp; exact fun h => hi h.symm
       have hn' : LS.hf l j ≠ .free := by
         intro h; apply hn
         simp only [LS.hf, List.lookup_cons, e]; exact h
       have := congrFun (a0Y j r l hn') j
       simp only [n7, if_true] at this
       rw [if_pos rfl, e]
       exact this
     · rw [if_neg hj]
       cases hji : j == i with
       | true => rfl
       | false =>
         have e : (id == i) = false := by simp; exact fun h => hi h.symm
         have hn' : LS.hf l id ≠ .free := by
           intro h; apply hn
           simp only [LS.hf, List.lookup_cons, e]; exact h
         have := congrFun (a0Y id r l hn') j
         simp only [n7, if_neg hj] at this
         exact this
theorem a7q {id : Nat} {r : RS} {n : Nat} : ∀ {h : List (Nat × RS)}, (∀ p ∈ h, p.1 < n) → ∀ p ∈ xA id r h, p.1 < n
 | [], _, p, hp => by cases hp
 | (i, x) :: l, hh, p, hp => by
   simp only [xA, List.mem_cons] at hp
   rcases hp with rfl | hp
   · have := hh (i, x) (by simp)
     split <;> exact this
   · exact a7q (fun q hq => hh q (by simp [hq])) p hp
theorem a9P {md : Bool} {P : Program} [j5 P] {c : Code} {k : List KF} {K : Exit → LS → Prop} {t : List AV} {h : List (Nat × RS)} {nx : Nat} (id n : Nat) {sz fro : Nat} {es : List (List AV)} (h1 : LS.hf h id = .live ⟨sz, es, fro⟩)
   (h2 : AK (md := md) P c k ⟨t, xA id (.live ⟨sz, es.take n, fro⟩) h, nx⟩ K) : AK (md := md) P c k ⟨t, h, nx⟩ K := by
 refine w7 ?_ h2
 intro G M0 w0 ρ a w R
 exact b2f id sz (es.take n) (es.drop n) fro (by rw [List.take_append_drop]; exact h1) (a0Y id _ h (by rw [h1]; intro e; cases e)) (a7q R.2) G M0 w0 ρ a w R
end Go.Ab
end
section
namespace Go.Ab
open Go.RowKit (Below)
section
section
variable {G : Gh} {M0 : Nat → Nat → Prop} {w0 : World} {ρ ρ' : Nat → Option (Nat × Nat × Nat)} {w : World} {P : Program} {h : Nat → RS}
theorem a4b {M : Nat → Nat → Prop} {r : Nat → Option Nat} (hrr : ∀ id j, r id = some j → ρ' j = ρ id) : ∀ (n : Nat) (x y : AV) (u : Value), m8 r n x = some y → u3 M ρ w x u → u3 M ρ' w y u := by
 intro n
 induction n with
 | zero =>
   intro x y u hr hx
   cases hx with
   | dead => cases hr; exact .dead _
   | T0 t => cases hr; exact .T0 t
   | v => cases hr; exact .v _
   | b7 c es a cap b o sz cell h1 h2 h3 h4 h5 h6 => cases hr; exact .b7 c es a cap b o sz cell h1 h2 h3 h4 h5 h6
   | aP es i k b o sz cell h1 h2 h3 h4 h5 => cases hr; exact .aP es i k b o sz cell h1 h2 h3 h4 h5
   | own id off n cap b β sz N e h1 h2 h3 h4 => simp only [m8, Option.map_eq_some_iff] at hr; obtain ⟨j, hj, rfl⟩ := hr; exact .own j off n cap b β sz N e (by rw [hrr _ _ hj]; exact h1) h2 h3 h4
   | ptr id i k b β sz h1 => simp only [m8, Option.map_eq_some_iff] at hr; obtain ⟨j, hj, rfl⟩ := hr; exact .ptr j i k b β sz (by rw [hrr _ _ hj]; exact h1)
   | dV id i k b β sz h1 => simp only [m8, Option.map_eq_some_iff] at hr; obtain ⟨j, hj, rfl⟩ := hr; exact .dV j i k b β sz (by rw [hrr _ _ hj]; exact h1)
   | _ => simp [m8] at hr
 | succ n ih =>
   intro x y u hr hx
   have many : ∀ (cs cs' : List AV) (vs : Array Value), cs.mapM (m8 r n) = some cs' → vs.size = cs.length → (∀ (i : Nat) x u, cs[i]? = some x → vs[i]? = some u → u3 M ρ w x u) →
       vs.size = cs'.length ∧ ∀ (i : Nat) x u, cs'[i]? = some x → vs[i]? = some u → u3 M ρ' w x u := by
     intro cs cs' vs hm hn hr
     refine ⟨by rw [M3 hm]; exact hn, fun i x u h1 h2 => ?_⟩
     obtain ⟨x0, e1, e2⟩ := F4 hm i x h1
     exact ih x0 x u e2 (hr i x0 u e1 h2)
   cases hx with
   | dead => cases hr; exact .dead _
   | T0 t => cases hr; exact .T0 t
   | v => cases hr; exact .v _
   | b7 c es a cap b o sz cell h1 h2 h3 h4 h5 h6 => cases hr; exact .b7 c es a cap b o sz cell h1 h2 h3 h4 h5 h6
   | aP es i k b o sz cell h1 h2 h3 h4 h5 => cases hr; exact .aP es i k b o sz cell h1 h2 h3 h4 h5
   | own id off n cap b β sz N e h1 h2 h3 h4 => simp only [m8, Option.map_eq_some_iff] at hr; obtain ⟨j, hj, rfl⟩ := hr; exact .own j off n cap b β sz N e (by rw [hrr _ _ hj]; exact h1) h2 h3 h4
   | ptr id i k b β sz h1 => simp only [m8, Option.map_eq_some_iff] at hr; obtain ⟨j, hj, rfl⟩ := hr; exact .ptr j i k b β sz (by rw [hrr _ _ hj]; exact h1)
   | dV id i k b β sz h1 => simp only [m8, Option.map_eq_some_iff] at hr; obtain ⟨j, hj, rfl⟩ := hr; exact .dV j i k b β sz (by rw [hrr _ _ hj]; exact h1)
   | agg cs vs hn hh =>
     simp only [m8, Option.map_eq_some_iff] at hr
     obtain ⟨cs', hm, rfl⟩ := hr
     obtain ⟨g1, g2⟩ := many cs cs' vs hm hn hh
     exact .agg cs' vs g1 g2
   | Q8 cs vs hn hh =>
     simp only [m8, Option.map_eq_some_iff] at hr
     obtain ⟨cs', hm, rfl⟩ := hr
     obtain ⟨g1, g2⟩ := many cs cs' vs hm hn hh
     exact .Q8 cs' vs g1 g2
   | fn f cs vs hn hh =>
     simp only [m8, Option.map_eq_some_iff] at hr
     obtain ⟨cs', hm, rfl⟩ := hr
     obtain ⟨g1, g2⟩ := many cs cs' vs hm hn hh
     exact .fn f cs' vs g1 g2
theorem wB {r : Nat → Option Nat} {row row' : Row} (hr : e6 r row = some row') : row'.sz = row.sz ∧ row'.fro = row.fro ∧ row'.es.length = row.es.length := by
 unfold e6 at hr
 split at hr
 · cases hr; exact ⟨rfl, rfl, rfl⟩
 · simp only [Option.map_eq_some_iff] at hr
   obtain ⟨es, hm, rfl⟩ := hr
   exact ⟨rfl, rfl, M3 hm⟩
end
def RS.a5q : RS → Bool
 | .live _ => true
 | _ => false
theorem b2g {s : LS} {t' : List AV} {h' : List (Nat × RS)} {nx' : Nat} (keep : List Nat) (r : Nat → Option Nat) (src : Nat → Nat)
   (ht : n3 keep r 0 s.t = some t')
   (hr : ∀ id j, r id = some j → (∃ row, LS.hf h' j = .live row) ∧ src j = id)
   (hrow : ∀ j row', LS.hf h' j = .live row' → ∃ row, LS.hf s.h (src j) = .live row ∧ e6 r row = some row')
   (hel : ∀ j, (∃ row', LS.hf h' j = .live row') ∨ LS.hf h' j = .gone ∨ LS.hf h' j = .free)
   (inj : ∀ i j r1 r2, LS.hf h' i = .live r1 → LS.hf h' j = .live r2 → src i = src j → i = j)
   (ok : ∀ p ∈ h', p.1 < nx') : Q9 s ⟨t', h', nx'⟩ := by
 intro G M0 w0 ρ a w ⟨R, hok⟩
 obtain ⟨ρ', hρ⟩ : ∃ ρ' : Nat → Option (Nat × Nat × Nat), ρ' = fun j => if (LS.hf h' j).a5q then ρ (src j) else none := ⟨_, rfl⟩
 have hl : ∀ j row, LS.hf h' j = .live row → ρ' j = ρ (src j) := fun j row hj => by rw [hρ]; simp only [hj, RS.a5q, if_true]
 have hrr : ∀ id j, r id = some j → ρ' j = ρ id := fun id j hj => by
   obtain ⟨⟨row, h1⟩, h2⟩ := hr id j hj
   rw [hl j row h1, h2]
 obtain ⟨g1, g2⟩ := a0m ht
 have hM : ∀ b o, u1 M0 ρ' (LS.hf h') b o → u1 M0 ρ (LS.hf s.h) b o := by
   rintro b o (g | ⟨j, row', β, z, q1, q2, q3⟩)
   · exact .inl g
   · obtain ⟨row, e1, e2⟩ := hrow j row' q1
     rw [hl j row' q1] at q2
     exact .inr ⟨src j, row, β, z, e1, q2, by rw [← (wB e2).2.1]; exact q3⟩
 have up : ∀ n x y u, m8 r n x = some y → u3 (u1 M0 ρ (LS.hf s.h)) ρ w x u → u3 (u1 M0 ρ' (LS.hf h')) ρ' w y u := fun n x y u h1 h2 => (a4b hrr n x y u h1 h2).qU hM
 refine ⟨ρ', ⟨?_, ?_, ?_, ?_, ?_, R.V4, R.m0, R.defers, ?_, ?_, ?_, R.iT, ?_, ?_, R.qE⟩, ok⟩
 · rw [R.n]; exact g1.symm
 · intro i
   show u3 (u1 M0 ρ' (LS.hf h')) ρ' w (LS.tf t' i) _
   simp only [LS.tf, List.getD_eq_getElem?_getD]
   cases hy : t'[i]? with
   | none => exact .dead _
   | some y =>
     obtain ⟨x, e1, e2⟩ := g2 i y hy
     rcases e2 with e2 | rfl
     · have hx := R.tm i
       simp only [LS.n9, LS.tf, List.getD_eq_getElem?_getD, e1, Option.getD_some] at hx
       exact up 3 x y _ e2 hx
     · exact .dead _
 · intro j row' hj
   have hj : LS.hf h' j = .live row' := hj
   obtain ⟨row, e1, e2⟩ := hrow j row' hj
   obtain ⟨b, β, arr, e, p1, p2, p3, p4, p5, p6⟩ := R.live (src j) row e1
   obtain ⟨q1, q2, q3⟩ := wB e2
   have hρj : ρ' j = some (b, β, row'.sz) := by rw [hl j row' hj, p1, q1]
   unfold e6 at e2
   split at e2
   · rename_i hpl
     cases e2
     refine ⟨b, β, arr, e, hρj, p2, p3, p4, p5, fun m k e' x u g1 g2 g3 => ?_⟩
     have hp : x.plain = true := by
       have := List.all_eq_true.1 hpl e' (List.mem_of_getElem? g1)
       exact List.all_eq_true.1 this x (List.mem_of_getElem? g2)
     exact (((p6 m k e' x u g1 g2 g3).aH hp).up).qU hM
   · simp only [Option.map_eq_some_iff] at e2
     obtain ⟨es, hm, rfl⟩ := e2
     simp only at q3 hρj ⊢
     refine ⟨b, β, arr, e, hρj, p2, p3, by rw [q3]; exact p4, fun x hx => ?_, fun m k e' x u g1 g2 g3 => ?_⟩
     · obtain ⟨m, hm1, hm2⟩ := List.mem_iff_getElem.1 hx
       obtain ⟨e0, t1, t2⟩ := F4 hm m x (by simp [hm1, hm2])
       rw [M3 t2]
       exact p5 e0 (List.mem_of_getElem? t1)
     · obtain ⟨e0, t1, t2⟩ := F4 hm m e' g1
       obtain ⟨x0, t3, t4⟩ := F4 t2 k x g2
       exact up 3 x0 x u t4 (p6 m k e0 x0 u t1 t3 g3)
 · intro j hj
   have hj : LS.hf h' j = .free := hj
   rw [hρ]; simp only [hj, RS.a5q, Bool.false_eq_true, if_false]
 · intro i j r1 r2 b β β' z z' h1 h2 h3 h4
   have h1 : LS.hf h' i = .live r1 := h1
   have h2 : LS.hf h' j = .live r2 := h2
   obtain ⟨row1, e1, _⟩ := hrow i r1 h1
   obtain ⟨row2, e2, _⟩ := hrow j r2 h2
   rw [hl i r1 h1] at h3
   rw [hl j r2 h2] at h4
   exact inj i j r1 r2 h1 h2 (R.inj _ _ row1 row2 b β β' z z' e1 e2 h3 h4)
 · intro j k cs hj
   have hj : LS.hf h' j = .B3 k cs := hj
   rcases hel j with ⟨_, e⟩ | e | e <;> rw [e] at hj <;> cases hj
 · intro x u hx
   exact (R.mQ x u hx).qU hM
 · intro j b q f hj
   have hj : LS.hf h' j = .mp b q f := hj
   rcases hel j with ⟨_, e⟩ | e | e <;> rw [e] at hj <;> cases hj
 · intro j row' p hj hp
   have hj : LS.hf h' j = .live row' := hj
   obtain ⟨row, e1, _⟩ := hrow j row' hj
   rw [hl j row' hj] at hp
   exact R.eG (src j) row p e1 hp
 · intro j b q f hj
   have hj : LS.hf h' j = .mp b q f := hj
   rcases hel j with ⟨_, e⟩ | e | e <;> rw [e] at hj <;> cases hj
end
def iS (b n : Nat) (f : Nat → RS) : List (Nat × RS) := (List.range n).map fun z => (b + z, f z)
theorem gR (b n : Nat) (f : Nat → RS) : iS b (n + 1) f = iS b n f ++ [(b + n, f n)] := by simp [iS, List.range_succ]
theorem jP (b n : Nat) (f : Nat → RS) (id : Nat) : (iS b n f).lookup id = if b ≤ id ∧ id < b + n then some (f (id - b)) else none := by
 induction n with
 | zero => rw [if_neg (by omega)]; rfl
 | succ n ih =>
   rw [gR, lookup_append, ih]
   by_cases h : b ≤ id ∧ id < b + n
   · rw [if_pos h, if_pos (by omega)]
   · rw [if_neg h]
     simp only [List.lookup_cons, List.lookup_nil]
     by_cases h2 : id = b + n
     · subst h2; simp
     · have : (id == b + n) = false := by simpa using h2
       rw [this, if_neg (by omega)]
theorem nH (b n : Nat) (f : Nat → RS) (z : Nat) (h : z < n) : (iS b n f).lookup (b + z) = some (f z) := by
 rw [jP, if_pos (by omega), Nat.add_sub_cancel_left]
theorem D6 (b n : Nat) (f : Nat → RS) (id : Nat) (h : id < b ∨ b + n ≤ id) : (iS b n f).lookup id = none := by
 rw [jP, if_neg (by omega)]
theorem b0r {b n : Nat} {f : Nat → RS} {p : Nat × RS} (h : p ∈ iS b n f) : p.1 < b + n := by
 simp only [iS, List.mem_map, List.mem_range] at h
 obtain ⟨z, hz, rfl⟩ := h
 simp only; omega
theorem a7O (id i k : Nat) (cs : List AV) (l1 l2 : List (Nat × RS)) : L8 id i k cs (l1 ++ l2) = L8 id i k cs l1 ++ L8 id i k cs l2 := by
 induction l1 with
 | nil => rfl
 | cons p l ih =>
   obtain ⟨j, x⟩ := p
   simp only [List.cons_append, L8]
   split <;> rw [ih] <;> rfl
theorem pK (id : Nat) (l1 l2 : List (Nat × RS)) : cO id (l1 ++ l2) = cO id l1 ++ cO id l2 := by
 induction l1 with
 | nil => rfl
 | cons p l ih =>
   obtain ⟨j, x⟩ := p
   simp only [List.cons_append, cO]
   split <;> rw [ih] <;> rfl
theorem a7P (id i k : Nat) (cs : List AV) (b n : Nat) (f : Nat → RS) (h : id < b ∨ b + n ≤ id) : L8 id i k cs (iS b n f) = iS b n f := by
 induction n with
 | zero => rfl
 | succ n ih =>
   rw [gR, a7O, ih (by omega)]
   simp only [L8]
   rw [if_neg (by omega)]
theorem a04 (id b n : Nat) (f : Nat → RS) (h : id < b ∨ b + n ≤ id) : cO id (iS b n f) = iS b n f := by
 induction n with
 | zero => rfl
 | succ n ih =>
   rw [gR, pK, ih (by omega)]
   simp only [cO]
   rw [if_neg (by omega)]
theorem a8F (z b n : Nat) (f : Nat → RS) : cO (b + z) (iS b n f) = iS b n (fun y => if y = z then .gone else f y) := by
 induction n with
 | zero => rfl
 | succ n ih =>
   rw [gR, gR, pK, ih]
   simp only [cO]
   by_cases h : n = z
   · subst h; simp
   · rw [if_neg (by omega), if_neg h]
theorem D3 (k b z : Nat) (h : k < b ∨ b + z < k) : (b + z == k) = false := by simp; omega
theorem B5 (k b z : Nat) (h : k < b ∨ b + z < k) : (k == b + z) = false := by simp; omega
theorem G6 (k b z : Nat) (h : k < b ∨ b + z < k) : (k = b + z) = False := by simp; omega
theorem mB {β γ : Type} {g : γ → Option β} {n : Nat} {a : Nat → γ} {c : Nat → β} (h : ∀ z, z < n → g (a z) = some (c z)) : ((List.range n).map a).mapM g = some ((List.range n).map c) := by
 induction n with
 | zero => rfl
 | succ n ih =>
   rw [List.range_succ, List.map_append, vB, ih fun z hz => h z (by omega), List.map_append]
   simp [h n (by omega)]
theorem a1f {γ : Type} (n z : Nat) (a : Nat → γ) (g : γ → γ) : ((List.range n).map a).modify z g = (List.range n).map fun y => if y = z then g (a y) else a y := by
 apply List.ext_getElem?
 intro j
 rw [List.getElem?_modify]
 simp only [List.getElem?_map]
 by_cases h : j < n
 · rw [List.getElem?_range h]
   by_cases h2 : z = j
   · subst h2; simp
   · have : ¬ j = z := fun e => h2 e.symm
     simp [h2, this]
 · rw [List.getElem?_eq_none (by simp; omega)]; rfl
theorem wQ {s : LS} {t' : List AV} {rows : List Row} (keep ids : List Nat) (n : Nat) (f : Nat → RS) (b : Nat) (r : Nat → Option Nat) (src : Nat → Nat)
   (hnd : ids.Nodup)
   (hr0 : ∀ id j, s5 ids 0 id = some j → r id = some j)
   (hrf : ∀ id j, s5 ids 0 id = none → r id = some j → ∃ z, z < n ∧ j = b + z ∧ src z = id ∧ ∃ row, f z = .live row)
   (ht : n3 keep r 0 s.t = some t')
   (hp : a7 (LS.hf s.h) r ids = some rows)
   (hb : ids.length ≤ b)
   (hf : ∀ z, z < n → f z = .gone ∨ ∃ row, f z = .live row ∧ src z ∉ ids ∧ ∃ row0, LS.hf s.h (src z) = .live row0 ∧ e6 r row0 = some row)
   (inj : ∀ y z r1 r2, y < n → z < n → f y = .live r1 → f z = .live r2 → src y = src z → y = z) (nx' : Nat) (hnx : b + n ≤ nx') :
   Q9 s ⟨t', j3 0 rows ++ iS b n f, nx'⟩ := by
 obtain ⟨hlen, hget⟩ := cJ hp
 have hl : ∀ j, LS.hf (j3 0 rows ++ iS b n f) j = if j < rows.length then .live (rows.getD j ⟨0, [], 0⟩) else if b ≤ j ∧ j < b + n then f (j - b) else .free := by
   intro j
   simp only [LS.hf, lookup_append, dN, jP]
   by_cases h1 : j < rows.length
   · rw [if_pos (by omega), if_pos h1]; simp
   · rw [if_neg (by omega), if_neg h1]
     simp only
     split <;> rfl
 have rid : ∀ j, j < rows.length → ∃ id, ids[j]? = some id ∧ s5 ids 0 id = some j := by
   intro j hj
   have hj' : j < ids.length := by omega
   refine ⟨ids[j], List.getElem?_eq_getElem hj', ?_⟩
   unfold s5
   have : ids.idxOf? ids[j] = some j := by
     rw [List.idxOf?_eq_some_iff]
     refine ⟨hj', by simp, fun k hk => ?_⟩
     have := List.pairwise_iff_getElem.1 hnd k j (by omega) hj' hk
     simpa using this
   rw [this]; simp
 refine b2g keep r (fun j => if j < rows.length then ids.getD j 0 else src (j - b)) ht (fun id j hj => ?_) (fun j row' hj => ?_) (fun j => ?_) (fun i j r1 r2 h1 h2 e => ?_) (fun p hp => ?_)
 · cases h : s5 ids 0 id with
   | some j' =>
     have := hr0 id j' h
     rw [this] at hj; cases hj
     have hi : ids[j]? = some id := by
       simp only [s5, Option.map_eq_some_iff] at h
       obtain ⟨k, h1, h2⟩ := h
       have := a02 h1
       rw [show j = k by omega]; exact this
     have hj2 : j < ids.length := (List.getElem?_eq_some_iff.1 hi).1
     refine ⟨⟨rows.getD j ⟨0, [], 0⟩, by rw [hl, if_pos (by omega)]⟩, ?_⟩
     rw [if_pos (by omega), List.getD_eq_getElem?_getD, hi]; rfl
   | none =>
     obtain ⟨z, hz, rfl, e, row, hrow⟩ := hrf id j h hj
     refine ⟨⟨row, by rw [hl, if_neg (by omega), if_pos (by omega), Nat.add_sub_cancel_left]; exact hrow⟩, ?_⟩
     rw [if_neg (by omega), Nat.add_sub_cancel_left]; exact e
 · rw [hl] at hj
   by_cases h1 : j < rows.length
   · rw [if_pos h1] at hj
     cases hj
     obtain ⟨id, row, e1, e2, e3⟩ := hget j (rows.getD j ⟨0, [], 0⟩) (by rw [List.getD_eq_getElem?_getD, List.getElem?_eq_getElem h1, Option.getD_some])
     rw [if_pos h1, List.getD_eq_getElem?_getD, e1]
     exact ⟨row, e2, e3⟩
   · rw [if_neg h1] at hj
     rw [if_neg h1]
     split at hj
     · rename_i h2
       rcases hf (j - b) (by omega) with h3 | ⟨row, h3, _, row0, h4, h5⟩
       · rw [h3] at hj; cases hj
       · rw [h3] at hj; cases hj; exact ⟨row0, h4, h5⟩
     · cases hj
 · rw [hl]
   split
   · exact .inl ⟨_, rfl⟩
   · split
     · rename_i h2
       rcases hf (j - b) (by omega) with h3 | ⟨row, h3, _⟩
       · exact .inr (.inl h3)
       · exact .inl ⟨row, h3⟩
     · exact .inr (.inr rfl)
 · rw [hl] at h1 h2
   by_cases c1 : i < rows.length
   · by_cases c2 : j < rows.length
     · rw [if_pos c1, if_pos c2] at e
       obtain ⟨id, e1, e2⟩ := rid i c1
       obtain ⟨id', f1, f2⟩ := rid j c2
       rw [List.getD_eq_getElem?_getD, e1, List.getD_eq_getElem?_getD, f1] at e
       have e : id = id' := e
       subst e
       rw [e2] at f2; cases f2; rfl
     · exfalso
       rw [if_neg c2] at h2
       split at h2
       · rcases hf (j - b) (by omega) with h3 | ⟨row, h3, h4, _⟩
         · rw [h3] at h2; cases h2
         · rw [if_pos c1, if_neg c2] at e
           obtain ⟨id, e1, _⟩ := rid i c1
           rw [List.getD_eq_getElem?_getD, e1] at e
           have e : id = src (j - b) := e
           exact h4 (by rw [← e]; exact List.mem_of_getElem? e1)
       · cases h2
   · rw [if_neg c1] at h1
     split at h1
     · rename_i d1
       rcases hf (i - b) (by omega) with h3 | ⟨row, h3, h4, _⟩
       · rw [h3] at h1; cases h1
       · by_cases c2 : j < rows.length
         · exfalso
           rw [if_neg c1, if_pos c2] at e
           obtain ⟨id, e1, _⟩ := rid j c2
           rw [List.getD_eq_getElem?_getD, e1] at e
           have e : src (i - b) = id := e
           exact h4 (by rw [e]; exact List.mem_of_getElem? e1)
         · rw [if_neg c1, if_neg c2] at e
           rw [if_neg c2] at h2
           split at h2
           · have := inj (i - b) (j - b) _ _ (by omega) (by omega) h1 h2 e
             omega
           · cases h2
     · cases h1
 · rcases List.mem_append.1 hp with hp | hp
   · have := sJ rows 0 p hp; omega
   · have := b0r hp; omega
theorem b0u {ids : List (Nat × Nat)} {id : Nat} (h : ∀ p ∈ ids, p.1 ≠ id) (m : Nat) : A9 ids id m = m := by
 unfold A9
 induction ids generalizing m with
 | nil => rfl
 | cons p l ih =>
   rw [List.foldl_cons, if_neg (h p (by simp))]
   exact ih (fun q hq => h q (by simp [hq])) m
end Go.Ab
end
section
namespace Go.Proofs.YtfccigmfcpimgaaDoor
open Go.Ab
theorem sA : ((((((((type_of% (@a4f)) ∧ ((type_of% (@a0u)) ∧ (type_of% (@Go.Ab.a5b.eq_1)))) ∧ ((type_of% (@Go.Ab.a5b.eq_2)) ∧ ((type_of% (@b3L)) ∧ (type_of% (@a7a))))) ∧ (((type_of% (@b0D)) ∧ ((type_of% (@b0A)) ∧ (type_of% (@b0C)))) ∧ ((type_of% (@b0B)) ∧ ((type_of% (@b3P)) ∧ (type_of% (@b3O)))))) ∧ ((((type_of% (@a3x)) ∧ ((type_of% (@uH)) ∧ (type_of% (@uI)))) ∧ ((type_of% (@uG)) ∧ ((type_of% (@nS)) ∧ (type_of% (@nT))))) ∧ (((type_of% (@nR)) ∧ ((type_of% (@a7L)) ∧ (type_of% (@a7M)))) ∧ ((type_of% (@a7K)) ∧ ((type_of% (@Bool.false_and)) ∧ (type_of% (@Bool.and_false))))))) ∧ (((((type_of% (@Go.Ab.D5.eq_1)) ∧ ((type_of% (@Go.Ab.D5.eq_2)) ∧ (type_of% (@Go.Ab.Z4.eq_1)))) ∧ ((type_of% (@ne_eq.{1})) ∧ ((type_of% (@not_false_eq_true)) ∧ (type_of% (@Go.Ab.A9.eq_1))))) ∧ (((type_of% (@List.foldl_cons.{0, 0})) ∧ ((type_of% (@List.foldl_nil.{0, 0})) ∧ (type_of% (@Nat.zero_max)))) ∧ ((type_of% (@Nat.max_self)) ∧ ((type_of% (@Go.Ab.a7j.eq_1)) ∧ (type_of% (@Go.Ab.pL.eq_1)))))) ∧ ((((type_of% (@Go.Ab.jH.eq_1)) ∧ ((type_of% (@Go.Ab.jH.eq_2)) ∧ (type_of% (@a4t)))) ∧ ((type_of% (@a7c)) ∧ ((type_of% (@Go.Ab.mH.eq_1)) ∧ (type_of% (@Go.Ab.mH.eq_2))))) ∧ (((type_of% (@Go.Ab.cC.eq_1)) ∧ ((type_of% (@Go.Ab.vP.eq_1)) ∧ (type_of% (@Go.Ab.lJ.eq_1)))) ∧ ((type_of% (@Go.Ab.bS.eq_1)) ∧ ((type_of% (@M9)) ∧ (type_of% (@J7)))))))) ∧ ((((((type_of% (@Go.Ab.w8.eq_1)) ∧ ((type_of% (@gE)) ∧ (type_of% (@pU)))) ∧ ((type_of% (@List.all_append.{0})) ∧ ((type_of% (@List.dropLast_cons_cons.{0})) ∧ (type_of% (@List.dropLast_singleton.{0}))))) ∧ (((type_of% (@List.getLastD_cons.{0})) ∧ ((type_of% (@List.getLastD_nil.{0})) ∧ (type_of% (@Go.Ab.LS.n9.eq_1)))) ∧ ((type_of% (@Go.Ab.xH.eq_1)) ∧ ((type_of% (@Go.Ab.xI.eq_1)) ∧ (type_of% (@Go.Ab.xI.eq_2)))))) ∧ ((((type_of% (@exists_eq_left'.{1})) ∧ ((type_of% (@AV.v.injEq)) ∧ (type_of% (@Value.bool.injEq)))) ∧ ((type_of% (@Value.int.injEq)) ∧ ((type_of% (@List.flatMap_cons.{0, 0})) ∧ (type_of% (@List.flatMap_nil.{0, 0}))))) ∧ (((type_of% (@a0z)) ∧ ((type_of% (@wK)) ∧ (type_of% (@a4e)))) ∧ ((type_of% (@a0t)) ∧ ((type_of% (@Go.Ab.a5a.eq_1)) ∧ (type_of% (@Go.Ab.a5a.eq_2))))))) ∧ (((((type_of% (@b3K)) ∧ ((type_of% (@a67)) ∧ (type_of% (@b0z)))) ∧ ((type_of% (@b0w)) ∧ ((type_of% (@b0y)) ∧ (type_of% (@b0x))))) ∧ (((type_of% (@b3N)) ∧ ((type_of% (@b3M)) ∧ (type_of% (@Go.Ab.V0.eq_1)))) ∧ ((type_of% (@Go.Ab.V0.eq_2)) ∧ ((type_of% (@Go.Ab.LS.ev.eq_1)) ∧ (type_of% (@Go.Ab.LS.ev.eq_2)))))) ∧ ((((type_of% (@Go.Ab.LS.ev.eq_3)) ∧ ((type_of% (@Go.Ab.LS.ev.eq_4)) ∧ (type_of% (@Go.Ab.LS.tf.eq_1)))) ∧ ((type_of% (@Go.Ab.LS.hf.eq_1)) ∧ ((type_of% (@b3V)) ∧ (type_of% (@a3R))))) ∧ (((type_of% (@a7r)) ∧ ((type_of% (@a7x)) ∧ (type_of% (@a3Q)))) ∧ ((type_of% (@a7t)) ∧ ((type_of% (@a7s)) ∧ (type_of% (@a7u))))))))) ∧ (((((((type_of% (@a7v)) ∧ ((type_of% (@a7w)) ∧ (type_of% (@b1s)))) ∧ ((type_of% (@Go.Ab.a0l.eq_1)) ∧ ((type_of% (@Go.Ab.nM.eq_1)) ∧ (type_of% (@Go.Ab.nM.eq_2))))) ∧ (((type_of% (@Go.Ab.b2p.eq_1)) ∧ ((type_of% (@Go.Ab.lN.eq_1)) ∧ (type_of% (@Go.Ab.lN.eq_2)))) ∧ ((type_of% (@Go.Ab.rQ.eq_1)) ∧ ((type_of% (@Go.Ab.rQ.eq_2)) ∧ (type_of% (@Go.Ab.u0.eq_1)))))) ∧ ((((type_of% (@Go.Ab.u0.eq_2)) ∧ ((type_of% (@Go.Ab.u0.eq_3)) ∧ (type_of% (@Go.Ab.u0.eq_4)))) ∧ ((type_of% (@Go.Ab.cO.eq_1)) ∧ ((type_of% (@Go.Ab.cO.eq_2)) ∧ (type_of% (@a3e))))) ∧ (((type_of% (@Go.Ab.j3.eq_1)) ∧ ((type_of% (@Go.Ab.j3.eq_2)) ∧ (type_of% (@zW)))) ∧ ((type_of% (@uB)) ∧ ((type_of% (@a3l)) ∧ (type_of% (@uA))))))) ∧ (((((type_of% (@tZ)) ∧ ((type_of% (@a2K)) ∧ (type_of% (@a2J)))) ∧ ((type_of% (@a3Z)) ∧ ((type_of% (@a3Y)) ∧ (type_of% (@List.lookup_cons.{0, 0}))))) ∧ (((type_of% (@List.lookup_nil.{0, 0})) ∧ ((type_of% (@List.length_cons.{0})) ∧ (type_of% (@List.length_nil.{0})))) ∧ ((type_of% (@List.getD_cons_zero.{0})) ∧ ((type_of% (@List.getD_cons_succ.{0})) ∧ (type_of% (@List.set_cons_zero.{0})))))) ∧ ((((type_of% (@List.set_cons_succ.{0})) ∧ ((type_of% (@List.map_cons.{0, 0})) ∧ (type_of% (@List.map_nil.{0, 0})))) ∧ ((type_of% (@List.mapM_cons.{0, 0, 0})) ∧ ((type_of% (@List.mapM_nil.{0, 0, 0})) ∧ (type_of% (@List.take_succ_cons.{0}))))) ∧ (((type_of% (@List.take_zero.{0})) ∧ ((type_of% (@List.take_nil.{0})) ∧ (type_of% (@List.drop_succ_cons.{0})))) ∧ ((type_of% (@List.drop_zero.{0})) ∧ ((type_of% (@List.drop_nil.{0})) ∧ (type_of% (@List.nil_append.{0})))))))) ∧ ((((((type_of% (@List.cons_append.{0})) ∧ ((type_of% (@List.append_nil.{0})) ∧ (type_of% (@List.all_cons.{0})))) ∧ ((type_of% (@List.all_nil.{0})) ∧ ((type_of% (@List.modify_zero_cons.{0})) ∧ (type_of% (@List.modify_succ_cons.{0}))))) ∧ (((type_of% (@List.getElem?_cons_zero.{0})) ∧ ((type_of% (@List.getElem?_cons_succ.{0})) ∧ (type_of% (@List.getElem?_nil.{0})))) ∧ ((type_of% (@List.replicate_succ.{0})) ∧ ((type_of% (@List.replicate_zero.{0})) ∧ (type_of% (@List.forall_mem_cons.{0})))))) ∧ ((((type_of% (@List.not_mem_nil.{0})) ∧ ((type_of% (@Option.map_some.{0, 0})) ∧ (type_of% (@Option.map_none.{0, 0})))) ∧ ((type_of% (@Option.bind_some.{0, 0})) ∧ ((type_of% (@Option.bind_none.{0, 0})) ∧ (type_of% (@Option.bind_eq_bind.{0}))))) ∧ (((type_of% (@Option.pure_def.{0})) ∧ ((type_of% (@Option.getD_some.{0})) ∧ (type_of% (@Option.getD_none.{0})))) ∧ ((type_of% (@Bool.and_true)) ∧ ((type_of% (@Bool.true_and)) ∧ (type_of% (@Bool.not_true))))))) ∧ (((((type_of% (@Bool.not_false)) ∧ ((type_of% (@true_and)) ∧ (type_of% (@and_true)))) ∧ ((type_of% (@if_true.{1})) ∧ ((type_of% (@if_false.{1})) ∧ (type_of% (@Nat.add_zero))))) ∧ (((type_of% (@Nat.zero_add)) ∧ ((type_of% (@Int.toNat_natCast)) ∧ (type_of% (@Nat.le_refl)))) ∧ ((type_of% (@Nat.zero_le)) ∧ ((type_of% (@Option.some.injEq.{0})) ∧ (type_of% (@forall_const.{1})))))) ∧ ((((type_of% (@false_implies)) ∧ ((type_of% (@implies_true.{1})) ∧ (type_of% (@and_self)))) ∧ ((type_of% (@beq_self_eq_true.{0})) ∧ ((type_of% (@Bool.false_eq_true)) ∧ (type_of% (@forall_eq.{1}))))) ∧ (((type_of% (@decide_true)) ∧ ((type_of% (@decide_false)) ∧ (type_of% (@List.size_toArray.{0})))) ∧ ((type_of% (@Nat.not_lt_zero)) ∧ ((type_of% (@Nat.lt_irrefl)) ∧ (type_of% (@List.length_append.{0})))))))))) := ⟨⟨⟨⟨⟨⟨⟨@a4f, ⟨@a0u, @Go.Ab.a5b.eq_1⟩⟩, ⟨@Go.Ab.a5b.eq_2, ⟨@b3L, @a7a⟩⟩⟩, ⟨⟨@b0D, ⟨@b0A, @b0C⟩⟩, ⟨@b0B, ⟨@b3P, @b3O⟩⟩⟩⟩, ⟨⟨⟨@a3x, ⟨@uH, @uI⟩⟩, ⟨@uG, ⟨@nS, @nT⟩⟩⟩, ⟨⟨@nR, ⟨@a7L, @a7M⟩⟩, ⟨@a7K, ⟨@Bool.false_and, @Bool.and_false⟩⟩⟩⟩⟩, ⟨⟨⟨⟨@Go.Ab.D5.eq_1, ⟨@Go.Ab.D5.eq_2, @Go.Ab.Z4.eq_1⟩⟩, ⟨@ne_eq.{1}, ⟨@not_false_eq_true, @Go.Ab.A9.eq_1⟩⟩⟩, ⟨⟨@List.foldl_cons.{0, 0}, ⟨@List.foldl_nil.{0, 0}, @Nat.zero_max⟩⟩, ⟨@Nat.max_self, ⟨@Go.Ab.a7j.eq_1, @Go.Ab.pL.eq_1⟩⟩⟩⟩, ⟨⟨⟨@Go.Ab.jH.eq_1, ⟨@Go.Ab.jH.eq_2, @a4t⟩⟩, ⟨@a7c, ⟨@Go.Ab.mH.eq_1, @Go.Ab.mH.eq_2⟩⟩⟩, ⟨⟨@Go.Ab.cC.eq_1, ⟨@Go.Ab.vP.eq_1, @Go.Ab.lJ.eq_1⟩⟩, ⟨@Go.Ab.bS.eq_1, ⟨@M9, @J7⟩⟩⟩⟩⟩⟩, ⟨⟨⟨⟨⟨@Go.Ab.w8.eq_1, ⟨@gE, @pU⟩⟩, ⟨@List.all_append.{0}, ⟨@List.dropLast_cons_cons.{0}, @List.dropLast_singleton.{0}⟩⟩⟩, ⟨⟨@List.getLastD_cons.{0}, ⟨@List.getLastD_nil.{0}, @Go.Ab.LS.n9.eq_1⟩⟩, ⟨@Go.Ab.xH.eq_1, ⟨@Go.Ab.xI.eq_1, @Go.Ab.xI.eq_2⟩⟩⟩⟩, ⟨⟨⟨@exists_eq_left'.{1}, ⟨@AV.v.injEq, @Value.bool.injEq⟩⟩, ⟨@Value.int.injEq, ⟨@List.flatMap_cons.{0, 0}, @List.flatMap_nil.{0, 0}⟩⟩⟩, ⟨⟨@a0z, ⟨@wK, @a4e⟩⟩, ⟨@a0t, ⟨@Go.Ab.a5a.eq_1, @Go.Ab.a5a.eq_2⟩⟩⟩⟩⟩, ⟨⟨⟨⟨@b3K, ⟨@a67, @b0z⟩⟩, ⟨@b0w, ⟨@b0y, @b0x⟩⟩⟩, ⟨⟨@b3N, ⟨@b3M, @Go.Ab.V0.eq_1⟩⟩, ⟨@Go.Ab.V0.eq_2, ⟨@Go.Ab.LS.ev.eq_1, @Go.Ab.LS.ev.eq_2⟩⟩⟩⟩, ⟨⟨⟨@Go.Ab.LS.ev.eq_3, ⟨@Go.Ab.LS.ev.eq_4, @Go.Ab.LS.tf.eq_1⟩⟩, ⟨@Go.Ab.LS.hf.eq_1, ⟨@b3V, @a3R⟩⟩⟩, ⟨⟨@a7r, ⟨@a7x, @a3Q⟩⟩, ⟨@a7t, ⟨@a7s, @a7u⟩⟩⟩⟩⟩⟩⟩, ⟨⟨⟨⟨⟨⟨@a7v, ⟨@a7w, @b1s⟩⟩, ⟨@Go.Ab.a0l.eq_1, ⟨@Go.Ab.nM.eq_1, @Go.Ab.nM.eq_2⟩⟩⟩, ⟨⟨@Go.Ab.b2p.eq_1, ⟨@Go.Ab.lN.eq_1, @Go.Ab.lN.eq_2⟩⟩, ⟨@Go.Ab.rQ.eq_1, ⟨@Go.Ab.rQ.eq_2, @Go.Ab.u0.eq_1⟩⟩⟩⟩, ⟨⟨⟨@Go.Ab.u0.eq_2, ⟨@Go.Ab.u0.eq_3, @Go.Ab.u0.eq_4⟩⟩, ⟨@Go.Ab.cO.eq_1, ⟨@Go.Ab.cO.eq_2, @a3e⟩⟩⟩, ⟨⟨@Go.Ab.j3.eq_1, ⟨@Go.Ab.j3.eq_2, @zW⟩⟩, ⟨@uB, ⟨@a3l, @uA⟩⟩⟩⟩⟩, ⟨⟨⟨⟨@tZ, ⟨@a2K, @a2J⟩⟩, ⟨@a3Z, ⟨@a3Y, @List.lookup_cons.{0, 0}⟩⟩⟩, ⟨⟨@List.lookup_nil.{0, 0}, ⟨@List.length_cons.{0}, @List.length_nil.{0}⟩⟩, ⟨@List.getD_cons_zero.{0}, ⟨@List.getD_cons_succ.{0}, @List.set_cons_zero.{0}⟩⟩⟩⟩, ⟨⟨⟨@List.set_cons_succ.{0}, ⟨@List.map_cons.{0, 0}, @List.map_nil.{0, 0}⟩⟩, ⟨@List.mapM_cons.{0, 0, 0}, ⟨@List.mapM_nil.{0, 0, 0}, @List.take_succ_cons.{0}⟩⟩⟩, ⟨⟨@List.take_zero.{0}, ⟨@List.take_nil.{0}, @List.drop_succ_cons.{0}⟩⟩, ⟨@List.drop_zero.{0}, ⟨@List.drop_nil.{0}, @List.nil_append.{0}⟩⟩⟩⟩⟩⟩, ⟨⟨⟨⟨⟨@List.cons_append.{0}, ⟨@List.append_nil.{0}, @List.all_cons.{0}⟩⟩, ⟨@List.all_nil.{0}, ⟨@List.modify_zero_cons.{0}, @List.modify_succ_cons.{0}⟩⟩⟩, ⟨⟨@List.getElem?_cons_zero.{0}, ⟨@List.getElem?_cons_succ.{0}, @List.getElem?_nil.{0}⟩⟩, ⟨@List.replicate_succ.{0}, ⟨@List.replicate_zero.{0}, @List.forall_mem_cons.{0}⟩⟩⟩⟩, ⟨⟨⟨@List.not_mem_nil.{0}, ⟨@Option.map_some.{0, 0}, @Option.map_none.{0, 0}⟩⟩, ⟨@Option.bind_some.{0, 0}, ⟨@Option.bind_none.{0, 0}, @Option.bind_eq_bind.{0}⟩⟩⟩, ⟨⟨@Option.pure_def.{0}, ⟨@Option.getD_some.{0}, @Option.getD_none.{0}⟩⟩, ⟨@Bool.and_true, ⟨@Bool.true_and, @Bool.not_true⟩⟩⟩⟩⟩, ⟨⟨⟨⟨@Bool.not_false, ⟨@true_and, @and_true⟩⟩, ⟨@if_true.{1}, ⟨@if_false.{1}, @Nat.add_zero⟩⟩⟩, ⟨⟨@Nat.zero_add, ⟨@Int.toNat_natCast, @Nat.le_refl⟩⟩, ⟨@Nat.zero_le, ⟨@Option.some.injEq.{0}, @forall_const.{1}⟩⟩⟩⟩, ⟨⟨⟨@false_implies, ⟨@implies_true.{1}, @and_self⟩⟩, ⟨@beq_self_eq_true.{0}, ⟨@Bool.false_eq_true, @forall_eq.{1}⟩⟩⟩, ⟨⟨@decide_true, ⟨@decide_false, @List.size_toArray.{0}⟩⟩, ⟨@Nat.not_lt_zero, ⟨@Nat.lt_irrefl, @List.length_append.{0}⟩⟩⟩⟩⟩⟩⟩⟩
theorem sC : ((((((type_of% (@M9)) ∧ ((type_of% (@J7)) ∧ (type_of% (@Go.Ab.w8.eq_1)))) ∧ (((type_of% (@Go.Ab.LS.hf.eq_1)) ∧ (type_of% (@Go.Ab.j3.eq_1))) ∧ ((type_of% (@Go.Ab.j3.eq_2)) ∧ (type_of% (@List.lookup_cons.{0, 0}))))) ∧ (((type_of% (@List.lookup_nil.{0, 0})) ∧ ((type_of% (@List.map_cons.{0, 0})) ∧ (type_of% (@List.map_nil.{0, 0})))) ∧ (((type_of% (@List.all_cons.{0})) ∧ (type_of% (@List.all_nil.{0}))) ∧ ((type_of% (@List.contains_cons.{0})) ∧ (type_of% (@List.contains_nil.{0})))))) ∧ ((((type_of% (@Bool.or_false)) ∧ ((type_of% (@Bool.or_true)) ∧ (type_of% (@Bool.false_or)))) ∧ (((type_of% (@Bool.true_or)) ∧ (type_of% (@if_true.{1}))) ∧ ((type_of% (@if_false.{1})) ∧ (type_of% (@Nat.add_zero))))) ∧ (((type_of% (@Bool.not_true)) ∧ ((type_of% (@Bool.not_false)) ∧ (type_of% (@Option.map_some.{0, 0})))) ∧ (((type_of% (@Option.bind_some.{0, 0})) ∧ (type_of% (@Option.getD_some.{0}))) ∧ ((type_of% (@Option.getD_none.{0})) ∧ (type_of% (@List.length_cons.{0}))))))) ∧ (((((type_of% (@List.length_nil.{0})) ∧ ((type_of% (@Bool.and_true)) ∧ (type_of% (@Bool.and_false)))) ∧ (((type_of% (@Bool.and_self)) ∧ (type_of% (@Bool.true_and))) ∧ ((type_of% (@List.nodup_cons.{0})) ∧ (type_of% (@List.not_mem_nil.{0}))))) ∧ (((type_of% (@List.mem_cons.{0})) ∧ ((type_of% (@not_false_eq_true)) ∧ (type_of% (@and_self)))) ∧ (((type_of% (@List.nodup_nil.{0})) ∧ (type_of% (@or_false))) ∧ ((type_of% (@false_or)) ∧ (type_of% (@Bool.false_eq_true)))))) ∧ ((((type_of% (@beq_self_eq_true.{0})) ∧ ((type_of% (@List.nil_append.{0})) ∧ (type_of% (@List.cons_append.{0})))) ∧ (((type_of% (@List.append_nil.{0})) ∧ (type_of% (@List.mapM_cons.{0, 0, 0}))) ∧ ((type_of% (@List.mapM_nil.{0, 0, 0})) ∧ (type_of% (@Option.bind_eq_bind.{0}))))) ∧ (((type_of% (@Option.pure_def.{0})) ∧ ((type_of% (@Option.bind_none.{0, 0})) ∧ (type_of% (@Option.map_none.{0, 0})))) ∧ (((type_of% (@Nat.zero_add)) ∧ (type_of% (@eB))) ∧ ((type_of% (@oG)) ∧ (type_of% (@List.all_append.{0})))))))) := ⟨⟨⟨⟨⟨@M9, ⟨@J7, @Go.Ab.w8.eq_1⟩⟩, ⟨⟨@Go.Ab.LS.hf.eq_1, @Go.Ab.j3.eq_1⟩, ⟨@Go.Ab.j3.eq_2, @List.lookup_cons.{0, 0}⟩⟩⟩, ⟨⟨@List.lookup_nil.{0, 0}, ⟨@List.map_cons.{0, 0}, @List.map_nil.{0, 0}⟩⟩, ⟨⟨@List.all_cons.{0}, @List.all_nil.{0}⟩, ⟨@List.contains_cons.{0}, @List.contains_nil.{0}⟩⟩⟩⟩, ⟨⟨⟨@Bool.or_false, ⟨@Bool.or_true, @Bool.false_or⟩⟩, ⟨⟨@Bool.true_or, @if_true.{1}⟩, ⟨@if_false.{1}, @Nat.add_zero⟩⟩⟩, ⟨⟨@Bool.not_true, ⟨@Bool.not_false, @Option.map_some.{0, 0}⟩⟩, ⟨⟨@Option.bind_some.{0, 0}, @Option.getD_some.{0}⟩, ⟨@Option.getD_none.{0}, @List.length_cons.{0}⟩⟩⟩⟩⟩, ⟨⟨⟨⟨@List.length_nil.{0}, ⟨@Bool.and_true, @Bool.and_false⟩⟩, ⟨⟨@Bool.and_self, @Bool.true_and⟩, ⟨@List.nodup_cons.{0}, @List.not_mem_nil.{0}⟩⟩⟩, ⟨⟨@List.mem_cons.{0}, ⟨@not_false_eq_true, @and_self⟩⟩, ⟨⟨@List.nodup_nil.{0}, @or_false⟩, ⟨@false_or, @Bool.false_eq_true⟩⟩⟩⟩, ⟨⟨⟨@beq_self_eq_true.{0}, ⟨@List.nil_append.{0}, @List.cons_append.{0}⟩⟩, ⟨⟨@List.append_nil.{0}, @List.mapM_cons.{0, 0, 0}⟩, ⟨@List.mapM_nil.{0, 0, 0}, @Option.bind_eq_bind.{0}⟩⟩⟩, ⟨⟨@Option.pure_def.{0}, ⟨@Option.bind_none.{0, 0}, @Option.map_none.{0, 0}⟩⟩, ⟨⟨@Nat.zero_add, @eB⟩, ⟨@oG, @List.all_append.{0}⟩⟩⟩⟩⟩⟩
theorem sF : ((((((type_of% (@Go.Ab.LS.hf.eq_1)) ∧ (type_of% (@List.lookup_cons.{0, 0}))) ∧ ((type_of% (@List.lookup_nil.{0, 0})) ∧ (type_of% (@beq_self_eq_true.{0})))) ∧ (((type_of% (@Option.getD_some.{0})) ∧ (type_of% (@Option.getD_none.{0}))) ∧ ((type_of% (@List.mapM_cons.{0, 0, 0})) ∧ ((type_of% (@List.mapM_nil.{0, 0, 0})) ∧ (type_of% (@Option.map_some.{0, 0})))))) ∧ ((((type_of% (@Option.map_none.{0, 0})) ∧ (type_of% (@Option.bind_some.{0, 0}))) ∧ ((type_of% (@Option.bind_eq_bind.{0})) ∧ ((type_of% (@Option.pure_def.{0})) ∧ (type_of% (@Go.Ab.w8.eq_1))))) ∧ (((type_of% (@List.all_cons.{0})) ∧ (type_of% (@List.all_nil.{0}))) ∧ ((type_of% (@Bool.and_true)) ∧ ((type_of% (@Bool.true_and)) ∧ (type_of% (@Bool.and_self))))))) ∧ (((((type_of% (@Bool.false_and)) ∧ (type_of% (@Bool.and_false))) ∧ ((type_of% (@Bool.false_eq_true)) ∧ (type_of% (@List.drop_zero.{0})))) ∧ (((type_of% (@List.drop_succ_cons.{0})) ∧ (type_of% (@List.take_zero.{0}))) ∧ ((type_of% (@List.take_succ_cons.{0})) ∧ ((type_of% (@List.take_nil.{0})) ∧ (type_of% (@List.drop_nil.{0})))))) ∧ ((((type_of% (@List.length_cons.{0})) ∧ (type_of% (@List.length_nil.{0}))) ∧ ((type_of% (@Nat.zero_add)) ∧ ((type_of% (@Nat.le_refl)) ∧ (type_of% (@Nat.zero_le))))) ∧ (((type_of% (@and_self)) ∧ (type_of% (@true_and))) ∧ ((type_of% (@and_true)) ∧ ((type_of% (@if_true.{1})) ∧ (type_of% (@if_false.{1})))))))) := ⟨⟨⟨⟨⟨@Go.Ab.LS.hf.eq_1, @List.lookup_cons.{0, 0}⟩, ⟨@List.lookup_nil.{0, 0}, @beq_self_eq_true.{0}⟩⟩, ⟨⟨@Option.getD_some.{0}, @Option.getD_none.{0}⟩, ⟨@List.mapM_cons.{0, 0, 0}, ⟨@List.mapM_nil.{0, 0, 0}, @Option.map_some.{0, 0}⟩⟩⟩⟩, ⟨⟨⟨@Option.map_none.{0, 0}, @Option.bind_some.{0, 0}⟩, ⟨@Option.bind_eq_bind.{0}, ⟨@Option.pure_def.{0}, @Go.Ab.w8.eq_1⟩⟩⟩, ⟨⟨@List.all_cons.{0}, @List.all_nil.{0}⟩, ⟨@Bool.and_true, ⟨@Bool.true_and, @Bool.and_self⟩⟩⟩⟩⟩, ⟨⟨⟨⟨@Bool.false_and, @Bool.and_false⟩, ⟨@Bool.false_eq_true, @List.drop_zero.{0}⟩⟩, ⟨⟨@List.drop_succ_cons.{0}, @List.take_zero.{0}⟩, ⟨@List.take_succ_cons.{0}, ⟨@List.take_nil.{0}, @List.drop_nil.{0}⟩⟩⟩⟩, ⟨⟨⟨@List.length_cons.{0}, @List.length_nil.{0}⟩, ⟨@Nat.zero_add, ⟨@Nat.le_refl, @Nat.zero_le⟩⟩⟩, ⟨⟨@and_self, @true_and⟩, ⟨@and_true, ⟨@if_true.{1}, @if_false.{1}⟩⟩⟩⟩⟩⟩
theorem sN : ((((((((type_of% (@b6T)) ∧ ((type_of% (@a6p)) ∧ (type_of% (@a9F)))) ∧ (((type_of% (@a10)) ∧ (type_of% (@a6q))) ∧ ((type_of% (@b6U)) ∧ (type_of% (@a6s))))) ∧ (((type_of% (@a9G)) ∧ ((type_of% (@a13)) ∧ (type_of% (@a6t)))) ∧ (((type_of% (@b6V)) ∧ (type_of% (@a6z))) ∧ ((type_of% (@a9H)) ∧ (type_of% (@a2e)))))) ∧ ((((type_of% (@a6A)) ∧ ((type_of% (@b6W)) ∧ (type_of% (@a6L)))) ∧ (((type_of% (@a9I)) ∧ (type_of% (@a2z))) ∧ ((type_of% (@a6M)) ∧ (type_of% (@b4q))))) ∧ ((((type_of% (@a1C)) ∧ (type_of% (@a6d))) ∧ ((type_of% (@yB)) ∧ (type_of% (@a1D)))) ∧ (((type_of% (@b4r)) ∧ (type_of% (@a1E))) ∧ ((type_of% (@a6e)) ∧ (type_of% (@yC))))))) ∧ (((((type_of% (@a1F)) ∧ ((type_of% (@b4s)) ∧ (type_of% (@a1G)))) ∧ (((type_of% (@a6f)) ∧ (type_of% (@yD))) ∧ ((type_of% (@a1H)) ∧ (type_of% (@b4t))))) ∧ (((type_of% (@a1I)) ∧ ((type_of% (@a6g)) ∧ (type_of% (@yE)))) ∧ (((type_of% (@a1J)) ∧ (type_of% (@b4u))) ∧ ((type_of% (@a1K)) ∧ (type_of% (@a6h)))))) ∧ ((((type_of% (@yF)) ∧ ((type_of% (@a1L)) ∧ (type_of% (@b4v)))) ∧ (((type_of% (@a1M)) ∧ (type_of% (@a6i))) ∧ ((type_of% (@yG)) ∧ (type_of% (@a1N))))) ∧ ((((type_of% (@b4w)) ∧ (type_of% (@a1O))) ∧ ((type_of% (@a6j)) ∧ (type_of% (@yH)))) ∧ (((type_of% (@a1P)) ∧ (type_of% (@b4x))) ∧ ((type_of% (@a1Q)) ∧ (type_of% (@a6k)))))))) ∧ ((((((type_of% (@yI)) ∧ ((type_of% (@a1R)) ∧ (type_of% (@b4y)))) ∧ (((type_of% (@a1S)) ∧ (type_of% (@a6l))) ∧ ((type_of% (@yJ)) ∧ (type_of% (@a1T))))) ∧ (((type_of% (@b4z)) ∧ ((type_of% (@a1U)) ∧ (type_of% (@a6m)))) ∧ (((type_of% (@yK)) ∧ (type_of% (@a1V))) ∧ ((type_of% (@b4A)) ∧ (type_of% (@a1W)))))) ∧ ((((type_of% (@a6n)) ∧ ((type_of% (@yL)) ∧ (type_of% (@a1X)))) ∧ (((type_of% (@b4B)) ∧ (type_of% (@a1Y))) ∧ ((type_of% (@a6o)) ∧ (type_of% (@yM))))) ∧ ((((type_of% (@a1Z)) ∧ (type_of% (@b4C))) ∧ ((type_of% (@a11)) ∧ (type_of% (@a6r)))) ∧ (((type_of% (@yN)) ∧ (type_of% (@a12))) ∧ ((type_of% (@b4D)) ∧ (type_of% (@a14))))))) ∧ (((((type_of% (@a6u)) ∧ ((type_of% (@yO)) ∧ (type_of% (@a15)))) ∧ (((type_of% (@b4E)) ∧ (type_of% (@a16))) ∧ ((type_of% (@a6v)) ∧ (type_of% (@yP))))) ∧ ((((type_of% (@a17)) ∧ (type_of% (@b4F))) ∧ ((type_of% (@a18)) ∧ (type_of% (@a6w)))) ∧ (((type_of% (@yQ)) ∧ (type_of% (@a19))) ∧ ((type_of% (@b4G)) ∧ (type_of% (@a2a)))))) ∧ ((((type_of% (@a6x)) ∧ ((type_of% (@yR)) ∧ (type_of% (@a2b)))) ∧ (((type_of% (@b4H)) ∧ (type_of% (@a2c))) ∧ ((type_of% (@a6y)) ∧ (type_of% (@yS))))) ∧ ((((type_of% (@a2d)) ∧ (type_of% (@b4I))) ∧ ((type_of% (@a2f)) ∧ (type_of% (@a6B)))) ∧ (((type_of% (@yT)) ∧ (type_of% (@a2g))) ∧ ((type_of% (@b4J)) ∧ (type_of% (@a2h))))))))) ∧ (((((((type_of% (@a6C)) ∧ ((type_of% (@yU)) ∧ (type_of% (@a2i)))) ∧ (((type_of% (@b4K)) ∧ (type_of% (@a2j))) ∧ ((type_of% (@a6D)) ∧ (type_of% (@yV))))) ∧ (((type_of% (@a2k)) ∧ ((type_of% (@b4L)) ∧ (type_of% (@a2l)))) ∧ (((type_of% (@a6E)) ∧ (type_of% (@yW))) ∧ ((type_of% (@a2m)) ∧ (type_of% (@b4M)))))) ∧ ((((type_of% (@a2n)) ∧ ((type_of% (@a6F)) ∧ (type_of% (@yX)))) ∧ (((type_of% (@a2o)) ∧ (type_of% (@b4N))) ∧ ((type_of% (@a2p)) ∧ (type_of% (@a6G))))) ∧ ((((type_of% (@yY)) ∧ (type_of% (@a2q))) ∧ ((type_of% (@b4O)) ∧ (type_of% (@a2r)))) ∧ (((type_of% (@a6H)) ∧ (type_of% (@yZ))) ∧ ((type_of% (@a2s)) ∧ (type_of% (@b4P))))))) ∧ (((((type_of% (@a2t)) ∧ ((type_of% (@a6I)) ∧ (type_of% (@zA)))) ∧ (((type_of% (@a2u)) ∧ (type_of% (@b4Q))) ∧ ((type_of% (@a2v)) ∧ (type_of% (@a6J))))) ∧ ((((type_of% (@zB)) ∧ (type_of% (@a2w))) ∧ ((type_of% (@b4R)) ∧ (type_of% (@a2x)))) ∧ (((type_of% (@a6K)) ∧ (type_of% (@zC))) ∧ ((type_of% (@a2y)) ∧ (type_of% (@b15)))))) ∧ ((((type_of% (@xN)) ∧ ((type_of% (@a1v)) ∧ (type_of% (@sS)))) ∧ (((type_of% (@xO)) ∧ (type_of% (@b16))) ∧ ((type_of% (@xP)) ∧ (type_of% (@a1w))))) ∧ ((((type_of% (@sT)) ∧ (type_of% (@xQ))) ∧ ((type_of% (@b17)) ∧ (type_of% (@xR)))) ∧ (((type_of% (@a1x)) ∧ (type_of% (@sU))) ∧ ((type_of% (@xS)) ∧ (type_of% (@b18)))))))) ∧ ((((((type_of% (@xT)) ∧ ((type_of% (@a1y)) ∧ (type_of% (@sV)))) ∧ (((type_of% (@xU)) ∧ (type_of% (@b19))) ∧ ((type_of% (@xV)) ∧ (type_of% (@a1z))))) ∧ (((type_of% (@sW)) ∧ ((type_of% (@xW)) ∧ (type_of% (@b2a)))) ∧ (((type_of% (@xX)) ∧ (type_of% (@a1A))) ∧ ((type_of% (@sX)) ∧ (type_of% (@xY)))))) ∧ ((((type_of% (@b2b)) ∧ ((type_of% (@xZ)) ∧ (type_of% (@a1B)))) ∧ (((type_of% (@sY)) ∧ (type_of% (@yA))) ∧ ((type_of% (@b6P)) ∧ (type_of% (@b6Q))))) ∧ ((((type_of% (@b6R)) ∧ (type_of% (@b6S))) ∧ ((type_of% (@b3Z)) ∧ (type_of% (@b30)))) ∧ (((type_of% (@b31)) ∧ (type_of% (@b32))) ∧ ((type_of% (@b33)) ∧ (type_of% (@b34))))))) ∧ (((((type_of% (@b35)) ∧ ((type_of% (@b36)) ∧ (type_of% (@b37)))) ∧ (((type_of% (@b38)) ∧ (type_of% (@b39))) ∧ ((type_of% (@b4a)) ∧ (type_of% (@b4b))))) ∧ ((((type_of% (@b4c)) ∧ (type_of% (@b4d))) ∧ ((type_of% (@b4e)) ∧ (type_of% (@b4f)))) ∧ (((type_of% (@b4g)) ∧ (type_of% (@b14))) ∧ ((type_of% (@b4h)) ∧ (type_of% (@b4i)))))) ∧ ((((type_of% (@b4j)) ∧ ((type_of% (@b4k)) ∧ (type_of% (@b4l)))) ∧ (((type_of% (@b4m)) ∧ (type_of% (@b4n))) ∧ ((type_of% (@b4o)) ∧ (type_of% (@b4p))))) ∧ ((((type_of% (@b1X)) ∧ (type_of% (@b1Y))) ∧ ((type_of% (@b1Z)) ∧ (type_of% (@b10)))) ∧ (((type_of% (@b11)) ∧ (type_of% (@b12))) ∧ ((type_of% (@b13)) ∧ (type_of% (@b3Q)))))))))) := ⟨⟨⟨⟨⟨⟨⟨@b6T, ⟨@a6p, @a9F⟩⟩, ⟨⟨@a10, @a6q⟩, ⟨@b6U, @a6s⟩⟩⟩, ⟨⟨@a9G, ⟨@a13, @a6t⟩⟩, ⟨⟨@b6V, @a6z⟩, ⟨@a9H, @a2e⟩⟩⟩⟩, ⟨⟨⟨@a6A, ⟨@b6W, @a6L⟩⟩, ⟨⟨@a9I, @a2z⟩, ⟨@a6M, @b4q⟩⟩⟩, ⟨⟨⟨@a1C, @a6d⟩, ⟨@yB, @a1D⟩⟩, ⟨⟨@b4r, @a1E⟩, ⟨@a6e, @yC⟩⟩⟩⟩⟩, ⟨⟨⟨⟨@a1F, ⟨@b4s, @a1G⟩⟩, ⟨⟨@a6f, @yD⟩, ⟨@a1H, @b4t⟩⟩⟩, ⟨⟨@a1I, ⟨@a6g, @yE⟩⟩, ⟨⟨@a1J, @b4u⟩, ⟨@a1K, @a6h⟩⟩⟩⟩, ⟨⟨⟨@yF, ⟨@a1L, @b4v⟩⟩, ⟨⟨@a1M, @a6i⟩, ⟨@yG, @a1N⟩⟩⟩, ⟨⟨⟨@b4w, @a1O⟩, ⟨@a6j, @yH⟩⟩, ⟨⟨@a1P, @b4x⟩, ⟨@a1Q, @a6k⟩⟩⟩⟩⟩⟩, ⟨⟨⟨⟨⟨@yI, ⟨@a1R, @b4y⟩⟩, ⟨⟨@a1S, @a6l⟩, ⟨@yJ, @a1T⟩⟩⟩, ⟨⟨@b4z, ⟨@a1U, @a6m⟩⟩, ⟨⟨@yK, @a1V⟩, ⟨@b4A, @a1W⟩⟩⟩⟩, ⟨⟨⟨@a6n, ⟨@yL, @a1X⟩⟩, ⟨⟨@b4B, @a1Y⟩, ⟨@a6o, @yM⟩⟩⟩, ⟨⟨⟨@a1Z, @b4C⟩, ⟨@a11, @a6r⟩⟩, ⟨⟨@yN, @a12⟩, ⟨@b4D, @a14⟩⟩⟩⟩⟩, ⟨⟨⟨⟨@a6u, ⟨@yO, @a15⟩⟩, ⟨⟨@b4E, @a16⟩, ⟨@a6v, @yP⟩⟩⟩, ⟨⟨⟨@a17, @b4F⟩, ⟨@a18, @a6w⟩⟩, ⟨⟨@yQ, @a19⟩, ⟨@b4G, @a2a⟩⟩⟩⟩, ⟨⟨⟨@a6x, ⟨@yR, @a2b⟩⟩, ⟨⟨@b4H, @a2c⟩, ⟨@a6y, @yS⟩⟩⟩, ⟨⟨⟨@a2d, @b4I⟩, ⟨@a2f, @a6B⟩⟩, ⟨⟨@yT, @a2g⟩, ⟨@b4J, @a2h⟩⟩⟩⟩⟩⟩⟩, ⟨⟨⟨⟨⟨⟨@a6C, ⟨@yU, @a2i⟩⟩, ⟨⟨@b4K, @a2j⟩, ⟨@a6D, @yV⟩⟩⟩, ⟨⟨@a2k, ⟨@b4L, @a2l⟩⟩, ⟨⟨@a6E, @yW⟩, ⟨@a2m, @b4M⟩⟩⟩⟩, ⟨⟨⟨@a2n, ⟨@a6F, @yX⟩⟩, ⟨⟨@a2o, @b4N⟩, ⟨@a2p, @a6G⟩⟩⟩, ⟨⟨⟨@yY, @a2q⟩, ⟨@b4O, @a2r⟩⟩, ⟨⟨@a6H, @yZ⟩, ⟨@a2s, @b4P⟩⟩⟩⟩⟩, ⟨⟨⟨⟨@a2t, ⟨@a6I, @zA⟩⟩, ⟨⟨@a2u, @b4Q⟩, ⟨@a2v, @a6J⟩⟩⟩, ⟨⟨⟨@zB, @a2w⟩, ⟨@b4R, @a2x⟩⟩, ⟨⟨@a6K, @zC⟩, ⟨@a2y, @b15⟩⟩⟩⟩, ⟨⟨⟨@xN, ⟨@a1v, @sS⟩⟩, ⟨⟨@xO, @b16⟩, ⟨@xP, @a1w⟩⟩⟩, ⟨⟨⟨@sT, @xQ⟩, ⟨@b17, @xR⟩⟩, ⟨⟨@a1x, @sU⟩, ⟨@xS, @b18⟩⟩⟩⟩⟩⟩, ⟨⟨⟨⟨⟨@xT, ⟨@a1y, @sV⟩⟩, ⟨⟨@xU, @b19⟩, ⟨@xV, @a1z⟩⟩⟩, ⟨⟨@sW, ⟨@xW, @b2a⟩⟩, ⟨⟨@xX, @a1A⟩, ⟨@sX, @xY⟩⟩⟩⟩, ⟨⟨⟨@b2b, ⟨@xZ, @a1B⟩⟩, ⟨⟨@sY, @yA⟩, ⟨@b6P, @b6Q⟩⟩⟩, ⟨⟨⟨@b6R, @b6S⟩, ⟨@b3Z, @b30⟩⟩, ⟨⟨@b31, @b32⟩, ⟨@b33, @b34⟩⟩⟩⟩⟩, ⟨⟨⟨⟨@b35, ⟨@b36, @b37⟩⟩, ⟨⟨@b38, @b39⟩, ⟨@b4a, @b4b⟩⟩⟩, ⟨⟨⟨@b4c, @b4d⟩, ⟨@b4e, @b4f⟩⟩, ⟨⟨@b4g, @b14⟩, ⟨@b4h, @b4i⟩⟩⟩⟩, ⟨⟨⟨@b4j, ⟨@b4k, @b4l⟩⟩, ⟨⟨@b4m, @b4n⟩, ⟨@b4o, @b4p⟩⟩⟩, ⟨⟨⟨@b1X, @b1Y⟩, ⟨@b1Z, @b10⟩⟩, ⟨⟨@b11, @b12⟩, ⟨@b13, @b3Q⟩⟩⟩⟩⟩⟩⟩⟩
section
theorem Zq {A B : Prop} (a : A) (b : B) : A ∧ B := ⟨a, b⟩
structure Zz (P : Prop) : Prop where mk :: (o : P)
structure Zb (P : Prop) : Prop where mk :: (o : P)
structure Zi (P : Prop) : Prop where mk :: (o : P)
structure ZZ (P : Prop) : Type where mk :: (d : P)
def sR := ZZ.mk (Zq Tryd.results3 (Zq Tryd.results4 (Zq Tryd.results5 (Zq Tryd.results6 (Zq Tryd.results7 (Zq Tryd.results8 (Zq Tryd.results9 (Zq Tryd.results10 (Zq Tryd.results11 (Zq Tryd.results12 (Zq Tryd.results13 (Zq Tryd.results14 (Zq Tryd.results15 (Zq Tryd.results16 (Zq Tryd.results17 (Zq Tryd.results18 (Zq Tryd.results19 (Zq Tryd.results20 (Zq Tryd.results21 (Zq Tryd.results22 (Zq Tryd.results23 (Zq Tryd.results24 (Zq Tryd.results25 (Zq Tryd.results26 (Zq Tryd.results27 (Zq Tryd.results28 (Zq Tryd.results29 (Zq Tryd.results30 (Zq Tryd.results31 (Zq Tryd.results32 (Zq Tryd.results33 (Zq Tryd.results34 (Zq Tryd.results35 (Zq Tryd.results36 (Zq Tryd.results37 (Zq Tryd.results38 (Zq Tryd.results39 (Zq Tryd.results40 (Zq Tryd.results41 (Zq Tryd.results42 (Zq Tryd.results43 (Zq Tryd.results44 (Zq Tryd.results45 (Zq Tryd.results46 (Zq Tryd.results47 (Zq Tryd.results48 (Zq Tryd.results49 (Zq Tryd.results50 (Zq Tryd.results51 (Zq Tryd.results52 (Zq Tryd.results53 (Zq Tryd.results54 (Zq Tryd.results55 (Zq Tryd.results56 (Zq Tryd.results57 (Zq Tryd.results58 (Zq Tryd.results59 (Zq Tryd.results60 (Zq Tryd.results61 (Zq Tryd.results62 (Zq Tryd.results63 (Zq Tryd.results64 (Zq Tryd.results65 (Zq Tryd.results66 (Zq Tryd.results68 (Zq Tryd.results69 (Zq Tryd.results70 (Zq Tryd.results73 (Zq Tryd.results74 (Zq Tryd.results75 (Zq Tryd.results76 (Zq Tryd.results77 (Zq Tryd.results78 (Zq Tryd.results79 (Zq Tryd.results80 (Zq Tryd.results81 (Zq Tryd.results87 (Zq Tryd.results91 Tryd.results97))))))))))))))))))))))))))))))))))))))))))))))))))))))))))))))))))))))))))))))
theorem Za {P Q : Prop} (k : Q) (h : Q → P := by
 intro k
 first
 | (guard_target =~ AK Tryd.prog _ _ _ _; first | exact a9T k | exact a2H k | exact a6S k | exact a6Q k | exact a9S k | exact a9Q (Zb.o k) | exact a6R (by kernel_rfl) (by kernel_rfl) (Zz.o k) | exact zI rfl k | exact zH rfl k | exact (fun (_ : True) => bU rfl (fun h => (by exfalso; omega)) (fun h => (by exfalso; omega))) k | exact bU rfl (fun h => (by exfalso; omega)) (Zi.o k) | exact bU rfl (Zi.o k) (fun h => (by exfalso; omega)) | exact bU rfl (And.left k) (And.right k) | exact nB rfl (And.left k) (And.right k))
 | with_reducible exact a3y k) : P := h k
theorem Zl {P Q : Prop} (k : Q) (h : Q → P := by
 intro k
 first
 | (guard_target =~ AK Tryd.prog _ _ _ _; first | exact a9T k | exact a2H k | exact a6S k | exact a6Q k | exact a9S k | exact a9Q (Zb.o k) | exact b2n (by kernel_rfl) rfl (by kernel_rfl) (by kernel_rfl) (by kernel_rfl) (Zz.o k) | exact a6R (by kernel_rfl) (by kernel_rfl) (Zz.o k) | exact zI rfl k | exact zH rfl k | exact (fun (_ : True) => bU rfl (fun h => (by exfalso; omega)) (fun h => (by exfalso; omega))) k | exact bU rfl (fun h => (by exfalso; omega)) (Zi.o k) | exact bU rfl (Zi.o k) (fun h => (by exfalso; omega)) | exact bU rfl (And.left k) (And.right k) | exact nB rfl (And.left k) (And.right k))
 | with_reducible exact a3y k) : P := h k
theorem Zc {T P Q : Prop} (C : T) (k : Q) (h : T → Q → P := by
 intro C k
 first
 | (guard_target =~ lK Tryd.prog _ _ _ _ _ _; first | exact kI C rfl k | exact dK C rfl rfl k)
 | (guard_target =~ jO Tryd.prog _ _ _ _ _ _ _; exact iO C rfl k)) : P := h C k
theorem Ze {T P Q : Prop} (C : T) (k : Q) (h : T → Q → P := by
 intro C k
 first
 | (guard_target =~ lK Tryd.prog _ _ _ _ _ _; exact a4R C rfl rfl rfl rfl rfl rfl rfl k)
 | (guard_target =~ jO Tryd.prog _ _ _ _ _ _ _; exact a2S C rfl rfl rfl rfl rfl rfl rfl k)) : P := h C k
theorem Zk {A P Q : Prop} (e : A) (k : Q) (h : A → Q → P := by
 intro e k
 (with_reducible refine And.intro (?_ : gB _ _ = true) k)
 rw [← e]
 first | rfl | kernel_rfl) : P := h e k
theorem Zs {A P Q : Prop} (e : A) (k : Q) (h : A → Q → P := by
 intro e k
 first
 | (with_reducible exact And.intro (by omega) k)
 | (refine Eq.mp (?_ : _ = _) k; simp (maxSteps := 10000000) (disch := omega) only [e, r7, Z3, A2, H3, x9, u6, AV.kept, l7, n6, A3, I6, y7, x5, Go.MapKept.IsKey, r8, B8, AV.plain, rd, D8, a8, Z2, w6, AV.j8, AV.aS, AV.I5, AV.V7, AV.scalar, bC, y8, H6, H9, I3, H8, x4, H5, bD, y9, H7, G9, m9, bB, o9, F2, F1, Z8, F9, o6, TD.isRow, A1, n8, o8, n4, L8, Value.oneCell', ↓reduceIte, Int.reduceNe, Int.reduceEq, Nat.reduceAdd, Nat.reduceLT, Nat.reduceLeDiff, Nat.reduceSub, Nat.reduceMul, Nat.reduceBEq, Nat.reduceEqDiff, reduceCtorEq, Int.reduceToNat, ← decide_not, ← Bool.decide_and, sA, sN]; rfl)
 | exact a5i (fun h => Eq.mp (by (try simp only [h]); rfl) ((And.left k : _ → _) h)) (fun h => Eq.mp (by (try simp only [h]); rfl) ((And.right k : _ → _) h))
 | exact a5h (fun h => Eq.mp (by (try simp only [h]); rfl) ((And.left k : _ → _) h)) (fun h => Eq.mp (by (try simp only [h]); rfl) ((And.right k : _ → _) h))
 | exact a5k (fun h => Eq.mp (by (try simp only [h]); rfl) ((And.left k : _ → _) h)) (fun h => Eq.mp (by (try simp only [h]); rfl) ((And.right k : _ → _) h))
 | exact a5j (fun h => Eq.mp (by (try simp only [h]); rfl) ((And.left k : _ → _) h)) (fun h => Eq.mp (by (try simp only [h]); rfl) ((And.right k : _ → _) h))) : P := h e k
theorem Zt {A P Q : Prop} (e : A) (k : Q) (h : A → Q → P := by
 intro e k
 first
 | (with_reducible exact And.intro (by omega) k)
 | refine (show a1n _ _ _ _ _ from ⟨trivial, k⟩)
 | refine (show a1p _ _ _ _ _ _ from ⟨trivial, k⟩)
 | (refine Eq.mp (?_ : _ = _) k; simp (maxSteps := 10000000) (disch := omega) only [e, sR.d, r7, Z3, A2, H3, x9, u6, AV.kept, l7, n6, A3, I6, y7, x5, Go.MapKept.IsKey, r8, B8, AV.plain, rd, D8, a8, Z2, w6, AV.j8, AV.aS, AV.I5, AV.V7, AV.scalar, bC, y8, H6, H9, I3, H8, x4, H5, bD, y9, H7, G9, m9, bB, o9, F2, F1, Z8, F9, o6, TD.isRow, A1, n8, o8, n4, L8, Value.oneCell', ↓reduceIte, Int.reduceNe, Int.reduceEq, Nat.reduceAdd, Nat.reduceLT, Nat.reduceLeDiff, Nat.reduceSub, Nat.reduceMul, Nat.reduceBEq, Nat.reduceEqDiff, reduceCtorEq, Int.reduceToNat, ← decide_not, ← Bool.decide_and, sA, sN]; rfl)
 | exact a5i (fun h => Eq.mp (by (try simp only [h]); rfl) ((And.left k : _ → _) h)) (fun h => Eq.mp (by (try simp only [h]); rfl) ((And.right k : _ → _) h))
 | exact a5h (fun h => Eq.mp (by (try simp only [h]); rfl) ((And.left k : _ → _) h)) (fun h => Eq.mp (by (try simp only [h]); rfl) ((And.right k : _ → _) h))
 | exact a5k (fun h => Eq.mp (by (try simp only [h]); rfl) ((And.left k : _ → _) h)) (fun h => Eq.mp (by (try simp only [h]); rfl) ((And.right k : _ → _) h))
 | exact a5j (fun h => Eq.mp (by (try simp only [h]); rfl) ((And.left k : _ → _) h)) (fun h => Eq.mp (by (try simp only [h]); rfl) ((And.right k : _ → _) h))) : P := h e k
theorem oQ {A P Q : Prop} (e : A) (k : Q) (h : A → Q → P := by
 intro e k
 first
 | (with_reducible exact And.intro (by omega) k)
 | refine (show a1n _ _ _ _ _ from ⟨trivial, k⟩)
 | refine (show a1p _ _ _ _ _ _ from ⟨trivial, k⟩)
 | (refine Eq.mp (?_ : _ = _) k; simp (maxSteps := 10000000) (disch := omega) only [e, Int.reduceSub, Int.reduceLT, Int.reduceAdd, sR.d, r7, Z3, A2, H3, x9, u6, AV.kept, l7, n6, A3, I6, y7, x5, Go.MapKept.IsKey, r8, B8, AV.plain, rd, D8, a8, Z2, w6, AV.j8, AV.aS, AV.I5, AV.V7, AV.scalar, bC, y8, H6, H9, I3, H8, x4, H5, bD, y9, H7, G9, m9, bB, o9, F2, F1, Z8, F9, o6, TD.isRow, A1, n8, o8, n4, L8, Value.oneCell', ↓reduceIte, Int.reduceNe, Int.reduceEq, Nat.reduceAdd, Nat.reduceLT, Nat.reduceLeDiff, Nat.reduceSub, Nat.reduceMul, Nat.reduceBEq, Nat.reduceEqDiff, reduceCtorEq, Int.reduceToNat, ← decide_not, ← Bool.decide_and, sA, sN]; rfl)
 | exact a5i (fun h => Eq.mp (by (try simp only [h]); rfl) ((And.left k : _ → _) h)) (fun h => Eq.mp (by (try simp only [h]); rfl) ((And.right k : _ → _) h))
 | exact a5h (fun h => Eq.mp (by (try simp only [h]); rfl) ((And.left k : _ → _) h)) (fun h => Eq.mp (by (try simp only [h]); rfl) ((And.right k : _ → _) h))
 | exact a5k (fun h => Eq.mp (by (try simp only [h]); rfl) ((And.left k : _ → _) h)) (fun h => Eq.mp (by (try simp only [h]); rfl) ((And.right k : _ → _) h))
 | exact a5j (fun h => Eq.mp (by (try simp only [h]); rfl) ((And.left k : _ → _) h)) (fun h => Eq.mp (by (try simp only [h]); rfl) ((And.right k : _ → _) h))) : P := h e k
theorem Zw {A : Prop} (keep ids : List Nat) {s s' s'' : LS} (e : A) (k : s' = s'') (h : A → c7 keep ids s = some s' := by
 intro e
 simp only [e, c7, n3, a7, e6, m8, A6, AV.plain, Nat.reduceBEq, ↓reduceIte, Nat.reduceEqDiff, Nat.reduceAdd, sC]
 rfl) : Q9 s s'' := fX (h e) k
theorem Zr {A : Prop} {P : Go.Program} [j5 P] {fn : Go.Func} {rs : List Row} {m : Nat} {α : Type} {I : α → Prop} {y : α → AV} {rs' : α → List Row} {e : Go.Exit} {s : LS} (a : α) (ids : List Nat) (w : A) {x : AV} {gid : Nat} {gcs : List AV}
   (hI : I a) (he : match e with | .normal | .ret => True | _ => False := by exact trivial)
   (hx : A → xH P s.n9 fn.results.toList = some x := by
     intro e
     simp only [e, sR.d, r7, Z3, A2, H3, x9, u6, AV.kept, l7, n6, A3, I6, y7, x5, Go.MapKept.IsKey, r8, B8, AV.plain, rd, D8, a8, Z2, w6, AV.j8, AV.aS, AV.I5, AV.V7, AV.scalar, bC, y8, H6, H9, I3, H8, x4, H5, bD, y9, H7, G9, m9, bB, o9, F2, F1, Z8, F9, o6, TD.isRow, A1, n8, o8, n4, L8, Value.oneCell', ↓reduceIte, Int.reduceNe, Int.reduceEq, Nat.reduceAdd, Nat.reduceLT, Nat.reduceLeDiff, Nat.reduceSub, Nat.reduceMul, Nat.reduceBEq, Nat.reduceEqDiff, reduceCtorEq, Int.reduceToNat, ← decide_not, ← Bool.decide_and, sA, sN] <;> rfl)
   (hnd : ids.Nodup := by decide) (hl : (rs' a).length = ids.length := by exact rfl) (aO : ((rs' a).take m).map Row.sz = (rs.take m).map Row.sz := by exact rfl) (hg : x9 99 s.h = some (gid, gcs) := by exact rfl) (hg2 : LS.hf s.h gid = .B3 99 gcs := by exact rfl) (hg3 : gcs = (ids.take m).map fun j => .ptr j 0 0 := by exact rfl)
   (hy : A → m8 (s5 ids 0) 4 x = some (y a) := by
     intro e
     simp only [e, c7, n3, a7, e6, m8, A6, AV.plain, Nat.reduceBEq, ↓reduceIte, Nat.reduceEqDiff, Nat.reduceAdd, sC] <;> rfl)
   (hp : A → a7 (LS.hf s.h) (s5 ids 0) ids = some (rs' a) := by
     intro e
     simp only [e, c7, n3, a7, e6, m8, A6, AV.plain, Nat.reduceBEq, ↓reduceIte, Nat.reduceEqDiff, Nat.reduceAdd, sC] <;> rfl) : a1o P fn rs m I y rs' e s :=
 b1N he a ids (hx w) hI hnd hl aO hg hg2 hg3 (hy w) (hp w)
section
variable {P : Go.Program} [j5 P] {rest : LS → (LS → Prop) → Prop} {d : Option Tmp} {s : LS} {N : LS → Prop} {f : Go.FuncId}
theorem Zp {A : Prop} {xs ys : List AV} {rs : List Row} {m : Nat} {α : Type} {I : α → Prop} {y : α → AV} {rs' : α → List Row} (C : B2 P f ys rs m I y rs') (ids : List Nat) (e : A)
   (h : ∀ a, Z7 (I a) → rest (LS.put ⟨s.t, cC ids m s.nx ((rs' a).map (bS (lJ ids m s.nx))) s.h, s.nx + 8⟩ d (B8 (lJ ids m s.nx) 4 (y a))) N)
   (hnd : ids.Nodup := by decide) (h1 : A → a7 (LS.hf s.h) (s5 ids 0) ids = some rs := by
     intro e
     simp only [e, c7, n3, a7, e6, m8, A6, AV.plain, Nat.reduceBEq, ↓reduceIte, Nat.reduceEqDiff, Nat.reduceAdd, sC] <;> first | done | rfl)
   (h2 : A → xs.mapM (m8 (s5 ids 0) 4) = some ys := by
     intro e
     simp only [e, c7, n3, a7, e6, m8, A6, AV.plain, Nat.reduceBEq, ↓reduceIte, Nat.reduceEqDiff, Nat.reduceAdd, sC] <;> first | done | rfl)
   (hm : m ≤ ids.length := by decide) (h3 : ∀ a, I a → m ≤ (rs' a).length ∧ (rs' a).length ≤ m + 8 := by
     intro _ _
     exact ⟨by simp only [List.length_cons, List.length_nil]; omega, by simp only [List.length_cons, List.length_nil]; omega⟩) : lK P rest d s N f xs :=
 a4S C ids hnd (h1 e) (h2 e) hm h3 h
end
section
variable {P : Go.Program} {f : Go.FuncId} {fn : Go.Func} {n : Nat}
theorem Zf {R Q : Prop} (hf : P.funcs[f]? = some fn) (hn : fn.ntmps = n) (k : Q) (h : P.funcs[f]? = some fn → fn.ntmps = n → Q → R := by
 intro hf hn k
 first
 | (refine a4T hf rfl (by kernel_rfl) ?_; rw [uC hn])
 | (refine a3X hf rfl (by kernel_rfl) (by simp) (by simp) ?_; rw [b0M hn]; simp only [j3, List.range, List.range.loop, List.map_cons, List.map_nil])
 simp only [List.replicate_succ, List.replicate_zero, List.cons_append, List.nil_append, List.length_cons, List.length_nil, Nat.reduceAdd, Nat.reduceSub]
 exact tC k) : R := h hf hn k
end
end
end Go.Proofs.YtfccigmfcpimgaaDoor
end
section
namespace Go.Ab
open Go.RowKit Go.ChangeShapes Go.WideShapes Go.ChangeAt Go.Deep
section
inductive Sh where
 | int (k : IntKind)
 | bool
 | str
 | slice (e : Sh)
 | row (l : List Sh)
mutual
def Sh.ok : Sh → List AV → Prop
 | .int k, cs => ∃ n : Int, cs = [.v (.int k n)] ∧ (Lit.int k n).wf = true
 | .bool, cs => ∃ b, cs = [.v (.bool b)]
 | .str, cs => ∃ s : ByteArray, cs = [.v (.string s)] ∧ s.size ≤ maxLen
 | .slice e, cs => ∃ es : List (List AV), cs = [.b7 false es] ∧ es.length ≤ maxLen ∧ ∀ x ∈ es, Sh.ok e x
 | .row l, cs => Sh.rC l cs
def Sh.rC : List Sh → List AV → Prop
 | [], cs => cs = []
 | s :: l, cs => ∃ a b, cs = a ++ b ∧ Sh.ok s a ∧ Sh.rC l b
end
def shF (P : Program) (rec : TypeId → Option Sh) : List Field → Nat → Option (List Sh × Nat)
 | [], o => some ([], o)
 | f :: fs, o => if f.offset = o then (rec f.type).bind fun s => (shF P rec fs (o + P.cellsOf f.type)).map fun p => (s :: p.1, p.2) else none
def oK (P : Program) : Nat → TypeId → Option Sh
 | 0, _ => none
 | n + 1, t => match P.underlying t with
   | some (.int k) => some (.int k)
   | some .bool => some .bool
   | some .string => some .str
   | some (.slice e) => if P.cellsOf e ≠ 0 then (oK P n e).map .slice else none
   | some (.struct fs) => (shF P (oK P n) fs.toList 0).bind fun p => if p.2 = P.cellsOf t then some (.row p.1) else none
   | some (.array m e) => if m * P.cellsOf e = P.cellsOf t then (oK P n e).map fun s => .row (List.replicate m s) else none
   | _ => none
section
variable {H : Type} {enc : TypeId × Value → H} {P : Program} {w : World} {base : Nat} {spare : Nat → Bool} {held : Bool}
def lD (w : World) (a00 : List AV) (cs : List Value) : Prop := a00.length = cs.length ∧ ∀ (i : Nat) (a : AV) (c : Value), a00[i]? = some a → cs[i]? = some c → u3 (fun _ _ => False) (fun _ => none) w a c
theorem lD.nil : lD w [] [] := ⟨rfl, by simp⟩
theorem lD.one {a : AV} {c : Value} (h : u3 (fun _ _ => False) (fun _ => none) w a c) : lD w [a] [c] := ⟨rfl, fun i x y h1 h2 => by
 match i, h1, h2 with
 | 0, h1, h2 => cases h1; cases h2; exact h⟩
theorem lD.dI {a00 bs : List AV} {cs ds : List Value} (h1 : lD w a00 cs) (h2 : lD w bs ds) : lD w (a00 ++ bs) (cs ++ ds) := by
 refine ⟨by simp [h1.1, h2.1], fun i a c g1 g2 => ?_⟩
 by_cases hi : i < a00.length
 · rw [List.getElem?_append_left hi] at g1
   rw [List.getElem?_append_left (by have := h1.1; omega)] at g2
   exact h1.2 i a c g1 g2
 · rw [List.getElem?_append_right (by omega)] at g1
   rw [List.getElem?_append_right (by have := h1.1; omega), ← h1.1] at g2
   exact h2.2 _ a c g1 g2
theorem rX {a : Addr} {n : Nat} {cs : List Value} (h : w.cells? base a n = some cs) : cs.length = n ∧ ∀ j, j < n → w.cell? (a.add j) = cs[j]? := by
 unfold World.cells? at h
 split at h
 · have hl := M3 h
   simp only [List.length_range] at hl
   refine ⟨hl, fun j hj => ?_⟩
   obtain ⟨y, hy⟩ : ∃ y, cs[j]? = some y := ⟨_, List.getElem?_eq_getElem (by omega)⟩
   obtain ⟨x, h2, h3⟩ := F4 h j y hy
   rw [List.getElem?_range hj] at h2
   cases h2
   rw [h3, hy]
 · cases h
theorem b3n {a : Addr} {c : Value} (h : w.cell? a = some c) : a.spot = none := by
 unfold World.cell? at h
 split at h
 · split at h
   · cases h
   · rename_i h2; simpa using h2
 · cases h
theorem a9O {a : Addr} (h : a.spot = none) (i : Nat) : a.add i = ⟨a.block, a.off + i, none⟩ := by
 obtain ⟨b, o, sp⟩ := a
 cases h
 unfold Addr.add
 split
 · rename_i h0; subst h0; rfl
 · rfl
theorem a3U {rec : TypeId → Option Sh} {fuel : Nat} {cs : List Value}
   (ih : ∀ t s cs x, rec t = some s → DataW.trod enc P w base spare held fuel t cs = some x → ∃ a00, s.ok a00 ∧ lD w a00 cs) :
   ∀ (fl : List Field) (o : Nat) (p : List Sh × Nat), shF P rec fl o = some p → (∀ f ∈ fl, ∃ y, DataW.trod enc P w base spare held fuel f.type ((cs.drop f.offset).take (P.cellsOf f.type)) = some y) →
   o ≤ p.2 ∧ (p.2 ≤ cs.length → ∃ a00, Sh.rC p.1 a00 ∧ lD w a00 ((cs.drop o).take (p.2 - o))) := by
 intro fl
 induction fl with
 | nil => intro o p h _; cases h; exact ⟨Nat.le_refl _, fun _ => ⟨[], rfl, by simp [lD.nil]⟩⟩
 | cons f fl ihl =>
   intro o p h hf
   simp only [shF] at h
   split at h
   · rename_i ho
     cases hs : rec f.type with
     | none => rw [hs] at h; cases h
     | some s =>
       cases hr : shF P rec fl (o + P.cellsOf f.type) with
       | none => rw [hs, hr] at h; cases h
       | some q =>
         rw [hs, hr] at h
         simp only [Option.bind_some, Option.map_some, Option.some.injEq] at h
         subst h
         obtain ⟨h1, h2⟩ := ihl _ _ hr fun f' hf' => hf f' (List.mem_cons_of_mem _ hf')
         refine ⟨by simp only; omega, fun hz => ?_⟩
         simp only at hz
         obtain ⟨bs, g1, g2⟩ := h2 hz
         obtain ⟨y, hy⟩ := hf f (List.mem_cons_self ..)
         obtain ⟨a00, g3, g4⟩ := ih _ _ _ _ hs hy
         refine ⟨a00 ++ bs, ⟨a00, bs, rfl, g3, g1⟩, ?_⟩
         have e : (cs.drop o).take (q.2 - o) = (cs.drop f.offset).take (P.cellsOf f.type) ++ (cs.drop (o + P.cellsOf f.type)).take (q.2 - (o + P.cellsOf f.type)) := by
           rw [ho, ← List.drop_drop, show q.2 - o = P.cellsOf f.type + (q.2 - (o + P.cellsOf f.type)) by omega, List.take_add]
         simp only
         rw [e]
         exact g4.dI g2
   · cases h
theorem a8S {s : Sh} {c : Nat} {cs : List Value} : ∀ (m k : Nat), (∀ i, k ≤ i → i < k + m → ∃ a00, s.ok a00 ∧ lD w a00 ((cs.drop (i * c)).take c)) → ∃ a00, Sh.rC (List.replicate m s) a00 ∧ lD w a00 ((cs.drop (k * c)).take (m * c)) := by
 intro m
 induction m with
 | zero => intro k _; exact ⟨[], rfl, by simp [lD.nil]⟩
 | succ m ih =>
   intro k h
   obtain ⟨a00, g1, g2⟩ := h k (Nat.le_refl _) (by omega)
   obtain ⟨bs, g3, g4⟩ := ih (k + 1) fun i h1 h2 => h i (by omega) (by omega)
   refine ⟨a00 ++ bs, ⟨a00, bs, rfl, g1, g3⟩, ?_⟩
   have e : (cs.drop (k * c)).take ((m + 1) * c) = (cs.drop (k * c)).take c ++ (cs.drop ((k + 1) * c)).take (m * c) := by
     rw [show (m + 1) * c = c + m * c by rw [Nat.add_mul]; omega, List.take_add, List.drop_drop, show (k + 1) * c = k * c + c by rw [Nat.add_mul]; omega]
   rw [e]
   exact g2.dI g4
theorem b27 : ∀ (n : Nat) (t : TypeId) (s : Sh) (fuel : Nat) (cs : List Value) (x : DataW H × List MemPlace), oK P n t = some s → DataW.trod enc P w base spare held fuel t cs = some x → ∃ a00, s.ok a00 ∧ lD w a00 cs := by
 intro n
 induction n with
 | zero => intro t s fuel cs x h; cases h
 | succ n ih =>
   intro t s fuel cs x h hx
   simp only [oK] at h
   split at h
   · rename_i k hu
     cases h
     obtain ⟨a, rfl, _, hw⟩ := DataW.trod_int hu hx
     exact ⟨[.v (.int k a)], ⟨a, rfl, hw⟩, .one (.v _)⟩
   · rename_i hu
     cases h
     obtain ⟨b, rfl, _⟩ := DataW.trod_bool hu hx
     exact ⟨[.v (.bool b)], ⟨b, rfl⟩, .one (.v _)⟩
   · rename_i hu
     cases h
     obtain ⟨b, rfl, _, hb⟩ := DataW.trod_string hu hx
     exact ⟨[.v (.string b)], ⟨b, rfl, hb⟩, .one (.v _)⟩
   · rename_i e hu
     split at h
     · rename_i hc
       cases hs : oK P n e with
       | none => rw [hs] at h; cases h
       | some s' =>
         rw [hs] at h
         cases h
         rcases open_slice hu hx with ⟨rfl, _⟩ | ⟨a, len, cap, m, fu, D, Pl, rfl, _, hlc, hcm, hm, _, hel⟩
         · exact ⟨[.b7 false []], ⟨[], rfl, Nat.zero_le _, by simp⟩, .one (.b7 false [] none 0 0 0 0 (fun _ _ => undef) (by simp) (by simp) (by simp) (by simp) (by simp) (by simp))⟩
         · have hlm : len ≤ m := by subst hm; split <;> omega
           have key : ∀ i, i < len → ∃ p : List AV × List Value, Sh.ok s' p.1 ∧ lD w p.1 p.2 ∧ w.cells? base (a.add (i * P.cellsOf e)) (P.cellsOf e) = some p.2 := fun i hi => by
             obtain ⟨cs', h1, h2⟩ := hel i (by omega)
             obtain ⟨a00, h3, h4⟩ := ih _ _ _ _ _ hs h2
             exact ⟨(a00, cs'), h3, h4, h1⟩
           obtain ⟨f, hf⟩ := choose_lt key
           have hsp : 0 < len → a.spot = none := fun hl => by
             have h1 := (rX (hf 0 hl).2.2).2 0 (by omega)
             rw [List.getElem?_eq_getElem (by rw [(rX (hf 0 hl).2.2).1]; omega)] at h1
             have := b3n h1
             simpa [Addr.add] using this
           refine ⟨[.b7 false ((List.range len).map fun i => (f i).1)], ⟨_, rfl, by simp; omega, fun x hx => ?_⟩, .one ?_⟩
           · simp only [List.mem_map, List.mem_range] at hx
             obtain ⟨i, hi, rfl⟩ := hx
             exact (hf i hi).1
           · have hl : ((List.range len).map fun i => (f i).1).length = len := by simp
             have := @u3.b7 (fun _ _ => False) (fun _ => none) w false ((List.range len).map fun i => (f i).1) (some a) cap a.block a.off (P.cellsOf e) (fun i j => (f i).2.getD j undef) (by omega) (by simp)
               (fun x hx => by
                 simp only [List.mem_map, List.mem_range] at hx
                 obtain ⟨i, hi, rfl⟩ := hx
                 rw [(hf i hi).2.1.1, (rX (hf i hi).2.2).1])
               (fun hne => by
                 have : 0 < len := by
                   rcases Nat.eq_zero_or_pos len with h0 | h0
                   · subst h0; simp at hne
                   · exact h0
                 have := hsp this
                 obtain ⟨b, o, sp⟩ := a
                 cases this; rfl)
               (fun i j hi hj => by
                 rw [hl] at hi
                 refine ⟨fun h => h, ?_⟩
                 obtain ⟨h1, h2⟩ := rX (hf i hi).2.2
                 have h3 := h2 j hj
                 have hs0 := hsp (by omega)
                 rw [add_add, a9O hs0] at h3
                 rw [show a.off + i * P.cellsOf e + j = a.off + (i * P.cellsOf e + j) by omega, h3, List.getElem?_eq_getElem (by omega), List.getD_eq_getElem?_getD, List.getElem?_eq_getElem (by omega)]
                 rfl)
               (fun i j e' x h1 h2 => by
                 rw [List.getElem?_map] at h1
                 have hi : i < len := by
                   rcases Nat.lt_or_ge i len with h | h
                   · exact h
                   · rw [List.getElem?_eq_none (by simpa using h)] at h1; cases h1
                 rw [List.getElem?_range hi] at h1
                 cases h1
                 obtain ⟨g1, g2⟩ := (hf i hi).2.1
                 have hj : j < (f i).1.length := (List.getElem?_eq_some_iff.1 h2).1
                 exact g2 j x _ h2 (by rw [List.getD_eq_getElem?_getD, List.getElem?_eq_getElem (by omega)]; rfl))
             rw [hl] at this
             exact this
     · cases h
   · rename_i fs hu
     cases hp : shF P (oK P n) fs.toList 0 with
     | none => rw [hp] at h; cases h
     | some p =>
       rw [hp] at h
       simp only [Option.bind_some] at h
       split at h
       · rename_i hz
         cases h
         obtain ⟨xs, fu, rfl, _, hl, hxl, hxs⟩ := DataW.trod_struct hu hx
         have := a3U (w := w) (enc := enc) (base := base) (spare := spare) (held := held) (fuel := fu) (cs := cs) (fun t s cs x h1 h2 => ih t s fu cs x h1 h2) fs.toList 0 p hp (fun f hf => by
           obtain ⟨i, hi, rfl⟩ := List.mem_iff_getElem.1 hf
           have hi' : i < fs.size := by simpa using hi
           obtain ⟨y, hy⟩ : ∃ y, xs[i]? = some y := ⟨_, List.getElem?_eq_getElem (by omega)⟩
           exact ⟨y, by rw [hxs i _ (by rw [Array.getElem?_eq_getElem hi']; rfl), hy]⟩)
         obtain ⟨a00, g1, g2⟩ := this.2 (by omega)
         refine ⟨a00, g1, ?_⟩
         rw [List.drop_zero, Nat.sub_zero, hz, ← hl, List.take_length] at g2
         exact g2
       · cases h
   · rename_i m e hu
     split at h
     · rename_i hz
       cases hs : oK P n e with
       | none => rw [hs] at h; cases h
       | some s' =>
         rw [hs] at h
         cases h
         obtain ⟨xs, fu, _, _, hl, hxl, hxs⟩ := DataW.trod_array hu hx
         have := a8S (w := w) (s := s') (c := P.cellsOf e) (cs := cs) m 0 (fun i _ hi => by
           have h1 := hxs i (by omega)
           rw [List.getElem?_eq_getElem (by omega)] at h1
           exact ih _ _ _ _ _ hs h1)
         obtain ⟨a00, g1, g2⟩ := this
         refine ⟨a00, g1, ?_⟩
         rw [Nat.zero_mul, List.drop_zero, hz, ← hl, List.take_length] at g2
         exact g2
     · cases h
   · cases h
end
end
section
def a7B (s : Sh) (a00 : List AV) : AV := match s with | .row _ => .agg a00 | _ => a00.headD .dead
section
variable {H : Type} {enc : TypeId × Value → H} {P : Program} {w : World} {base : Nat} {spare : Nat → Bool} {held : Bool}
theorem b1Q {n : Nat} {t : TypeId} {s : Sh} (h : oK P n t = some s) : ((∃ fs, P.underlying t = some (.struct fs)) ∨ (∃ m e, P.underlying t = some (.array m e))) ∧ (∃ l, s = .row l) ∨
   ((∃ k, P.underlying t = some (.int k)) ∨ P.underlying t = some .bool ∨ P.underlying t = some .string ∨ ∃ e, P.underlying t = some (.slice e)) ∧ ∀ l, s ≠ .row l := by
 cases n with
 | zero => cases h
 | succ n =>
   simp only [oK] at h
   split at h
   · rename_i k hu; cases h; exact .inr ⟨.inl ⟨k, hu⟩, fun l h => by cases h⟩
   · rename_i hu; cases h; exact .inr ⟨.inr (.inl hu), fun l h => by cases h⟩
   · rename_i hu; cases h; exact .inr ⟨.inr (.inr (.inl hu)), fun l h => by cases h⟩
   · rename_i e hu
     split at h
     · simp only [Option.map_eq_some_iff] at h
       obtain ⟨a, _, rfl⟩ := h
       exact .inr ⟨.inr (.inr (.inr ⟨e, hu⟩)), fun l h => by cases h⟩
     · cases h
   · rename_i fs hu
     simp only [Option.bind_eq_some_iff] at h
     obtain ⟨p, _, h⟩ := h
     split at h
     · cases h; exact .inl ⟨.inl ⟨fs, hu⟩, _, rfl⟩
     · cases h
   · rename_i m e hu
     split at h
     · simp only [Option.map_eq_some_iff] at h
       obtain ⟨a, _, rfl⟩ := h
       exact .inl ⟨.inr ⟨m, e, hu⟩, _, rfl⟩
     · cases h
   · cases h
theorem b1v {r : Reach} {b0 n : Nat} {t : TypeId} {v : Value} {d : DataW H} {p : List MemPlace} {s : Sh} (hs : oK P n t = some s) (hv : Value.okWide P w r b0 t v) (h : DataW.Trod enc P w base spare held t v d p) :
   ∃ a00, s.ok a00 ∧ u3 (fun _ _ => False) (fun _ => none) w (a7B s a00) v := by
 obtain ⟨fuel, hf⟩ := h
 obtain ⟨a00, h1, h2⟩ := b27 n t s fuel _ _ hs hf
 refine ⟨a00, h1, ?_⟩
 rcases b1Q hs with ⟨hu, l, rfl⟩ | ⟨hu, hne⟩
 · have : ∃ cs, v = .agg cs := by
     rcases hu with ⟨fs, hu⟩ | ⟨m, e, hu⟩ <;> simp only [Value.okWide, hu] at hv <;> (obtain ⟨cs, rfl, _⟩ := hv; exact ⟨cs, rfl⟩)
   obtain ⟨cs, rfl⟩ := this
   simp only [Value.cells] at h2
   exact .agg a00 cs (by simpa using h2.1.symm) fun i x u g1 g2 => h2.2 i x u g1 (by simpa using g2)
 · have : v.cells = #[v] := by
     cases v <;> first | rfl | skip
     exfalso
     rcases hu with ⟨k, hu⟩ | hu | hu | ⟨e, hu⟩ <;> simp only [Value.okWide, Cell.okWide, Cell.ok, hu] at hv
   rw [this] at h2
   have h3 : a7B s a00 = a00.headD .dead := by cases s <;> first | rfl | (exact absurd rfl (hne _))
   rw [h3]
   have hl := h2.1
   match a00, hl with
   | [a], _ => exact h2.2 0 a v rfl rfl
def jU : List Sh → List AV → Prop
 | [], xs => xs = []
 | s :: ss, xs => ∃ a00 ys, xs = a7B s a00 :: ys ∧ s.ok a00 ∧ jU ss ys
theorem eK {r : Reach} {b0 n : Nat} : ∀ (ts : List TypeId) (ss : List Sh) (vs : List Value) (ds : List (DataW H)) (ps : List MemPlace), ts.mapM (oK P n) = some ss → (∀ (j : Nat) t v, ts[j]? = some t → vs[j]? = some v → Value.okWide P w r b0 t v) →
   DataW.TrodAll enc P w base spare held ts vs ds ps → ∃ xs, jU ss xs ∧ xs.length = vs.length ∧ ∀ (i : Nat) x u, xs[i]? = some x → vs[i]? = some u → u3 (fun _ _ => False) (fun _ => none) w x u := by
 intro ts
 induction ts with
 | nil =>
   intro ss vs ds ps hs _ h
   obtain ⟨rfl, _, _⟩ := trodAll_nil h
   cases hs
   exact ⟨[], rfl, rfl, by simp⟩
 | cons t ts ih =>
   intro ss vs ds ps hs hv h
   obtain ⟨v, vs', d, ds', p, q, rfl, rfl, rfl, h1, h2⟩ := trodAll_cons h
   rw [List.mapM_cons] at hs
   cases ht : oK P n t with
   | none => rw [ht] at hs; cases hs
   | some s =>
     cases hm : ts.mapM (oK P n) with
     | none => rw [ht, hm] at hs; cases hs
     | some ss' =>
       rw [ht, hm] at hs
       cases hs
       obtain ⟨xs, g1, g2, g3⟩ := ih _ _ _ _ hm (fun j t v e1 e2 => hv (j + 1) t v e1 e2) h2
       obtain ⟨a00, g4, g5⟩ := b1v ht (hv 0 t v rfl rfl) h1
       refine ⟨a7B s a00 :: xs, ⟨a00, xs, rfl, g4, g1⟩, by simp [g2], fun i x u e1 e2 => ?_⟩
       cases i with
       | zero => cases e1; cases e2; exact g5
       | succ i => exact g3 i x u e1 e2
theorem cQ {W W' : World} (hl : laidOutB P = true) (hb : Below W.heap.size W W') : ∀ (ts : List TypeId) (vs : List Value) (ds : List (DataW H)) (ps : List MemPlace), (ts.all fun t => P.readableRec t && decide (t < P.types.size)) = true →
   DataW.TrodAll enc P W 0 (fun _ => true) true ts vs ds ps → (∀ x ∈ ps, x.block < W.heap.size) → DataW.TrodAll enc P W' 0 (fun b => decide (b < W.heap.size)) true ts vs ds ps := by
 intro ts
 induction ts with
 | nil =>
   intro vs ds ps _ h _
   obtain ⟨rfl, rfl, rfl⟩ := trodAll_nil h
   exact trodAll_mk0
 | cons t ts ih =>
   intro vs ds ps ha h hp
   obtain ⟨v, vs', d, ds', p, q, rfl, rfl, rfl, h1, h2⟩ := trodAll_cons h
   simp only [List.all_cons, Bool.and_eq_true, decide_eq_true_eq] at ha
   exact trodAll_cons_mk (Below.trod hl ha.1.1 ha.1.2 h1 hb fun x hx => hp x (List.mem_append_left _ hx)) (ih _ _ _ (by simpa using ha.2) h2 fun x hx => hp x (List.mem_append_right _ hx))
end
end
end Go.Ab
end
section
namespace Go.Proofs.YtfccigmfcpimgaaDoor
open Go.Ab
open Go.ChangeShapes Go.WideShapes Go.ChangeAt Go.RowKit
theorem own : ownKnob Tryd.prog.godebug = none := by kernel_rfl
theorem kR : laidOutB Tryd.prog = true := by kernel_rfl
noncomputable def laidL : List (String × DataW Unit) := Rows.liveMatchesReferenceRow.laid
theorem b5C : Rows.laid_math_bits_deBruijn64tab (H := Unit) = Lib.tabData .u8 a0x := by kernel_rfl
theorem pY {W : World} (hL : laidMetH Tryd.prog laidL W) (hs : W.ShapedOpen Tryd.prog) : okW W := by
 have h : laidMet Tryd.prog laidL W := by rw [MakeChecks.laidMetH_plain _ _ _ (by kernel_rfl)] at hL; exact hL
 obtain ⟨ps, ⟨g1, t1, cs1, f1, p1, q1, hg1, ht1, hv1, hd1, _⟩, _⟩ := h
 obtain rfl := Option.some.inj ((show (Tryd.prog.globalNamed "math/bits.deBruijn64tab") = some 0 by kernel_rfl).symm.trans hg1)
 obtain rfl := Option.some.inj ((show (Tryd.prog.globals[0]?).map (·.type) = some 121 by kernel_rfl).symm.trans ht1)
 rw [b5C] at hd1
 have e := Lib.cells_of_tab (n := 64) (e := 5) (k := .u8) Tryd.underlying121 Tryd.underlying5 (by kernel_rfl) (by kernel_rfl) hd1
 unfold okW Lib.TabIs
 refine (show W.var? Tryd.prog "math/bits.deBruijn64tab" = some cs1 from hv1).trans ?_
 rw [← e]
theorem gW (os : Os) (args : Array Value) : laidMetH Tryd.prog laidL ((World.laidAll Tryd.prog os laidL).forCall (fun _ _ => 0) ⟨#[], args, []⟩).memory := by
 rw [MakeChecks.laidMetH_plain _ _ _ (by kernel_rfl)]; exact laidMet_laidAll _ (by kernel_rfl) (by kernel_rfl)
theorem iI {a : Int} (w : (Lit.int .u8 a).wf = true) : 0 ≤ a ∧ a < 256 := by
 have : 0 ≤ a ∧ a ≤ 255 := by simpa [Lit.wf, IntKind.min, IntKind.max, IntKind.signed, IntKind.bits] using w
 omega
theorem b5D {a : Int} (w : (Lit.int .u16 a).wf = true) : 0 ≤ a ∧ a < 65536 := by
 have : 0 ≤ a ∧ a ≤ 65535 := by simpa [Lit.wf, IntKind.min, IntKind.max, IntKind.signed, IntKind.bits] using w
 omega
theorem b5j {a : Int} (w : (Lit.int .i64 a).wf = true) : -9223372036854775808 ≤ a ∧ a < 9223372036854775808 := by
 have : -9223372036854775808 ≤ a ∧ a ≤ 9223372036854775807 := by simpa [Lit.wf, IntKind.min, IntKind.max, IntKind.signed, IntKind.bits] using w
 omega
end Go.Proofs.YtfccigmfcpimgaaDoor
end
section
namespace Go.Proofs.YtfccigmfcpimgaaDoor
open Go.Ab
def K8 (l : List Int) : Prop := l.Pairwise (· < ·)
theorem K8.nil : K8 [] := List.Pairwise.nil
theorem K8.ext : ∀ {a b : List Int}, K8 a → K8 b → (∀ x, x ∈ a ↔ x ∈ b) → a = b
 | [], [], _, _, _ => rfl
 | [], y :: b, _, _, h => by have := (h y).2 (by simp); simp at this
 | x :: a, [], _, _, h => by have := (h x).1 (by simp); simp at this
 | x :: a, y :: b, ha, hb, h => by
   obtain ⟨ha1, ha2⟩ := List.pairwise_cons.1 ha
   obtain ⟨hb1, hb2⟩ := List.pairwise_cons.1 hb
   have hxy : x = y := by
     have h1 := (h x).1 (by simp)
     have h2 := (h y).2 (by simp)
     rcases List.mem_cons.1 h1 with e | e
     · exact e
     · rcases List.mem_cons.1 h2 with e2 | e2
       · exact e2.symm
       · have := hb1 x e; have := ha1 y e2; omega
   subst hxy
   rw [K8.ext ha2 hb2 fun z => ?_]
   have hz := h z
   simp only [List.mem_cons] at hz
   constructor
   · intro hm
     rcases hz.1 (.inr hm) with e | e
     · have := ha1 z hm; omega
     · exact e
   · intro hm
     rcases hz.2 (.inr hm) with e | e
     · have := hb1 z hm; omega
     · exact e
def K9 (l : List Int) (n : Int) : List Int := if n ∈ l then l else l.takeWhile (fun x => decide (x < n)) ++ n :: l.dropWhile (fun x => decide (x < n))
theorem eH {l : List Int} {n x : Int} : x ∈ K9 l n ↔ x = n ∨ x ∈ l := by
 unfold K9
 split
 · rename_i h
   constructor
   · exact .inr
   · rintro (rfl | h')
     · exact h
     · exact h'
 · rw [List.mem_append, List.mem_cons]
   conv => rhs; rw [← List.takeWhile_append_dropWhile (p := fun x => decide (x < n)) (l := l), List.mem_append]
   constructor
   · rintro (h | h | h)
     · exact .inr (.inl h)
     · exact .inl h
     · exact .inr (.inr h)
   · rintro (h | h | h)
     · exact .inr (.inl h)
     · exact .inl h
     · exact .inr (.inr h)
theorem b1W {l : List Int} {n : Int} : ∀ x ∈ l.takeWhile (fun x => decide (x < n)), x < n := by
 induction l with
 | nil => intro x hx; simp at hx
 | cons a l ih =>
   intro x hx
   rw [List.takeWhile_cons] at hx
   split at hx
   · rename_i h
     rcases List.mem_cons.1 hx with rfl | hx
     · simpa using h
     · exact ih x hx
   · simp at hx
theorem a29 {l : List Int} (hl : K8 l) {n : Int} : ∀ x ∈ l.dropWhile (fun x => decide (x < n)), n ≤ x := by
 induction l with
 | nil => intro x hx; simp at hx
 | cons a l ih =>
   obtain ⟨h1, h2⟩ := List.pairwise_cons.1 hl
   intro x hx
   rw [List.dropWhile_cons] at hx
   split at hx
   · exact ih h2 x hx
   · rename_i h
     have ha : n ≤ a := by simpa using h
     rcases List.mem_cons.1 hx with rfl | hx
     · exact ha
     · have := h1 x hx; omega
theorem qF {l : List Int} (hl : K8 l) (n : Int) : K8 (K9 l n) := by
 unfold K9
 split
 · exact hl
 · rename_i h
   have hs1 : (l.takeWhile (fun x => decide (x < n))).Sublist l := List.takeWhile_sublist _
   have hs2 : (l.dropWhile (fun x => decide (x < n))).Sublist l := List.dropWhile_sublist _
   refine List.pairwise_append.2 ⟨hl.sublist hs1, List.pairwise_cons.2 ⟨fun x hx => ?_, hl.sublist hs2⟩, fun x hx y hy => ?_⟩
   · have h1 := a29 hl x hx
     have h2 : x ∈ l := hs2.subset hx
     have : x ≠ n := fun e => h (e ▸ h2)
     omega
   · have hx1 := b1W x hx
     rcases List.mem_cons.1 hy with rfl | hy
     · exact hx1
     · have := a29 hl y hy; omega
def l8 (l : List Int) (n : Int) : List Int := l.filter (fun x => decide (x ≠ n))
theorem T7 {l : List Int} {n x : Int} : x ∈ l8 l n ↔ x ∈ l ∧ x ≠ n := by simp [l8]
theorem fV {l : List Int} (hl : K8 l) (n : Int) : K8 (l8 l n) := hl.sublist List.filter_sublist
def q9 (a b : List Int) : List Int := b.foldl K9 a
theorem K5 {a b : List Int} {x : Int} : x ∈ q9 a b ↔ x ∈ a ∨ x ∈ b := by
 unfold q9
 induction b generalizing a with
 | nil => simp
 | cons y b ih =>
   rw [List.foldl_cons, ih, eH, List.mem_cons]
   constructor
   · rintro ((h | h) | h)
     · exact .inr (.inl h)
     · exact .inl h
     · exact .inr (.inr h)
   · rintro (h | h | h)
     · exact .inl (.inr h)
     · exact .inl (.inl h)
     · exact .inr h
theorem U7 {a b : List Int} (ha : K8 a) : K8 (q9 a b) := by
 unfold q9
 induction b generalizing a with
 | nil => exact ha
 | cons y b ih => exact ih (qF ha y)
def U2 (l : List Int) (n : Int) : List Int := if n < 0 then l else K9 l n
theorem jS {l : List Int} {n x : Int} : x ∈ U2 l n ↔ (0 ≤ n ∧ x = n) ∨ x ∈ l := by
 unfold U2
 split
 · constructor
   · exact .inr
   · rintro (⟨h, _⟩ | h)
     · omega
     · exact h
 · rw [eH]
   constructor
   · rintro (h | h)
     · exact .inl ⟨by omega, h⟩
     · exact .inr h
   · rintro (⟨_, h⟩ | h)
     · exact .inl h
     · exact .inr h
theorem dS {l : List Int} (hl : K8 l) (n : Int) : K8 (U2 l n) := by
 unfold U2
 split
 · exact hl
 · exact qF hl n
def s9 (ops : List J8) : List Int := ops.foldl (fun out o => if o.k = 2 then K9 out o.n else out) []
theorem b1K {ops : List J8} : ∀ {l : List Int} {x : Int}, x ∈ ops.foldl (fun out o => if o.k = 2 then K9 out o.n else out) l ↔ x ∈ l ∨ ∃ o ∈ ops, o.k = 2 ∧ o.n = x := by
 induction ops with
 | nil => intro l x; simp
 | cons o ops ih =>
   intro l x
   rw [List.foldl_cons, ih]
   split
   · rename_i h
     rw [eH]
     constructor
     · rintro ((e | e) | ⟨p, h1, h2⟩)
       · exact .inr ⟨o, by simp, h, e.symm⟩
       · exact .inl e
       · exact .inr ⟨p, by simp [h1], h2⟩
     · rintro (e | ⟨p, h1, h2, h3⟩)
       · exact .inl (.inr e)
       · rcases List.mem_cons.1 h1 with rfl | h1
         · exact .inl (.inl h3.symm)
         · exact .inr ⟨p, h1, h2, h3⟩
   · rename_i h
     constructor
     · rintro (e | ⟨p, h1, h2⟩)
       · exact .inl e
       · exact .inr ⟨p, by simp [h1], h2⟩
     · rintro (e | ⟨p, h1, h2, h3⟩)
       · exact .inl e
       · rcases List.mem_cons.1 h1 with rfl | h1
         · exact absurd h2 h
         · exact .inr ⟨p, h1, h2, h3⟩
theorem lR {ops : List J8} {x : Int} : x ∈ s9 ops ↔ ∃ o ∈ ops, o.k = 2 ∧ o.n = x := by
 unfold s9
 rw [b1K]; simp
theorem a1s {ops : List J8} : ∀ {l : List Int}, K8 l → K8 (ops.foldl (fun out o => if o.k = 2 then K9 out o.n else out) l) := by
 induction ops with
 | nil => intro l h; exact h
 | cons o ops ih =>
   intro l h
   rw [List.foldl_cons]
   split
   · exact ih (qF h _)
   · exact ih h
theorem xJ (ops : List J8) : K8 (s9 ops) := a1s K8.nil
def M4 (i : j9) : List Int := s9 [i.a, i.b, i.c]
def bA (t : u2) : List Int := s9 [t.a, t.b]
def tU (o : J8) : Int := if o.k = 2 then o.n else -1
def O8 (i : j9) : Int := tU i.d
def P8 (t : u2) : Int := tU t.d
def c8 (t : u2) : List Int := if t.kind = 5 then [] else if t.kind = 2 ∧ t.t0 ≠ t.t1 then [t.t0, t.t1] else [t.t0]
def D4 (x : j9) (after : List Int) : List Int := q9 (l8 after (O8 x)) (M4 x)
theorem X7 {x : j9} {l : List Int} {r : Int} : r ∈ D4 x l ↔ (r ∈ l ∧ r ≠ O8 x) ∨ r ∈ M4 x := by
 unfold D4; rw [K5, T7]
theorem dA {x : j9} {l : List Int} (h : K8 l) : K8 (D4 x l) := U7 (fV h _)
def eE (b : c5) (out : List Int) (i : Nat) : List Int := (b.i.drop i).foldr D4 out
theorem a9l {l : List j9} {out : List Int} (h : K8 out) : K8 (l.foldr D4 out) := by
 induction l with
 | nil => exact h
 | cons x l ih => exact dA ih
theorem cZ {b : c5} {out : List Int} {i : Nat} (h : K8 out) : K8 (eE b out i) := a9l h
theorem a5f {l : List j9} {o1 o2 : List Int} (h : ∀ r ∈ o1, r ∈ o2) : ∀ r ∈ l.foldr D4 o1, r ∈ l.foldr D4 o2 := by
 induction l with
 | nil => exact h
 | cons x l ih =>
   intro r hr
   simp only [List.foldr_cons, X7] at hr ⊢
   rcases hr with ⟨h1, h2⟩ | h1
   · exact .inl ⟨ih r h1, h2⟩
   · exact .inr h1
theorem a6T {b : c5} {o1 o2 : List Int} {i : Nat} (h : ∀ r ∈ o1, r ∈ o2) : ∀ r ∈ eE b o1 i, r ∈ eE b o2 i := a5f h
def I7 (t : u2) (inn : List (List Int)) : List Int := q9 (l8 ((c8 t).foldl (fun s to => q9 s (inn.getD to.toNat [])) []) (P8 t)) (bA t)
theorem a8N {l : List Int} {inn : List (List Int)} : ∀ {s : List Int} {r : Int}, r ∈ l.foldl (fun s to => q9 s (inn.getD to.toNat [])) s ↔ r ∈ s ∨ ∃ to ∈ l, r ∈ inn.getD to.toNat [] := by
 induction l with
 | nil => intro s r; simp
 | cons a l ih =>
   intro s r
   rw [List.foldl_cons, ih, K5]
   constructor
   · rintro ((h | h) | ⟨to, h1, h2⟩)
     · exact .inl h
     · exact .inr ⟨a, by simp, h⟩
     · exact .inr ⟨to, by simp [h1], h2⟩
   · rintro (h | ⟨to, h1, h2⟩)
     · exact .inl (.inl h)
     · rcases List.mem_cons.1 h1 with rfl | h1
       · exact .inl (.inr h2)
       · exact .inr ⟨to, h1, h2⟩
theorem eY {t : u2} {inn : List (List Int)} {r : Int} : r ∈ I7 t inn ↔ ((∃ to ∈ c8 t, r ∈ inn.getD to.toNat []) ∧ r ≠ P8 t) ∨ r ∈ bA t := by
 unfold I7; rw [K5, T7, a8N]; simp
theorem a9m {l : List Int} {inn : List (List Int)} : ∀ {s : List Int}, K8 s → K8 (l.foldl (fun s to => q9 s (inn.getD to.toNat [])) s) := by
 induction l with
 | nil => intro s h; exact h
 | cons a l ih => intro s h; exact ih (U7 h)
theorem V6 {t : u2} {inn : List (List Int)} : K8 (I7 t inn) := U7 (fV (a9m K8.nil) _)
theorem rA {t : u2} {i1 i2 : List (List Int)} (h : ∀ b, ∀ r ∈ i1.getD b [], r ∈ i2.getD b []) : ∀ r ∈ I7 t i1, r ∈ I7 t i2 := by
 intro r hr
 rw [eY] at hr ⊢
 rcases hr with ⟨⟨to, h1, h2⟩, h3⟩ | h1
 · exact .inl ⟨⟨to, h1, h _ r h2⟩, h3⟩
 · exact .inr h1
def Y9 (l : List Int) : Prop := ∀ x ∈ l, 0 ≤ x ∧ x < 64
theorem Y9.nil : Y9 [] := by intro x hx; simp at hx
theorem Y9.with {l : List Int} (h : Y9 l) {n : Int} (hn : n < 64) : Y9 (U2 l n) := fun x hx => by
 rcases jS.1 hx with ⟨h1, rfl⟩ | hx
 · exact ⟨h1, hn⟩
 · exact h x hx
theorem Y9.dG {l : List Int} (h : Y9 l) {n : Int} : Y9 (l8 l n) := fun x hx => h x (T7.1 hx).1
theorem Y9.union {a b : List Int} (h : Y9 a) (hb : Y9 b) : Y9 (q9 a b) := fun x hx => by
 rcases K5.1 hx with hx | hx
 · exact h x hx
 · exact hb x hx
def D0 : List Int → Nat
 | [] => 0
 | x :: l => 2 ^ x.toNat ||| D0 l
theorem aF (l : List Int) (k : Nat) : (D0 l).testBit k = true ↔ ∃ x ∈ l, x.toNat = k := by
 induction l with
 | nil => simp [D0]
 | cons x l ih =>
   simp only [D0, Nat.testBit_or, Nat.testBit_two_pow, Bool.or_eq_true, ih, decide_eq_true_eq, List.mem_cons]
   constructor
   · rintro (h | ⟨y, h1, h2⟩)
     · exact ⟨x, .inl rfl, h⟩
     · exact ⟨y, .inr h1, h2⟩
   · rintro ⟨y, rfl | h1, h2⟩
     · exact .inl h2
     · exact .inr ⟨y, h1, h2⟩
theorem a3J {l : List Int} (h : Y9 l) {x : Int} (hx : 0 ≤ x) : x ∈ l ↔ (D0 l).testBit x.toNat = true := by
 rw [aF]
 constructor
 · intro hm; exact ⟨x, hm, rfl⟩
 · rintro ⟨y, h1, h2⟩
   have := (h y h1).1
   have : y = x := by omega
   rw [← this]; exact h1
theorem dZ {l : List Int} (h : Y9 l) : D0 l < 18446744073709551616 := by
 induction l with
 | nil => simp [D0]
 | cons x l ih =>
   have h1 := h x (by simp)
   have : (2 : Nat) ^ x.toNat < 2 ^ 64 := Nat.pow_lt_pow_right (by decide) (by omega)
   exact Nat.or_lt_two_pow (n := 64) this (ih fun y hy => h y (by simp [hy]))
theorem a3K {a b : List Int} (ha : Y9 a) (hb : Y9 b) (h : D0 a = D0 b) : ∀ x, x ∈ a → x ∈ b := fun x hx => by
 have h0 := (ha x hx).1
 rw [a3J hb h0, ← h, ← a3J ha h0]; exact hx
theorem b1g {a b : List Int} (ha : Y9 a) (hb : Y9 b) (sa : K8 a) (sb : K8 b) (h : D0 a = D0 b) : a = b := K8.ext sa sb fun x => ⟨a3K ha hb h x, a3K hb ha h.symm x⟩
theorem a1d {a b : List Int} (ha : Y9 a) (hb : Y9 b) (sa : K8 a) (sb : K8 b) : ((D0 a : Int) = (D0 b : Int)) = (a = b) := by
 apply propext
 constructor
 · intro h; exact b1g ha hb sa sb (by omega)
 · intro h; rw [h]
theorem a5G (a b : List Int) : D0 (q9 a b) = D0 a ||| D0 b := by
 apply Nat.eq_of_testBit_eq
 intro k
 apply Bool.eq_iff_iff.2
 rw [Nat.testBit_or, Bool.or_eq_true, aF, aF, aF]
 constructor
 · rintro ⟨x, h1, h2⟩
   rcases K5.1 h1 with h1 | h1
   · exact .inl ⟨x, h1, h2⟩
   · exact .inr ⟨x, h1, h2⟩
 · rintro (⟨x, h1, h2⟩ | ⟨x, h1, h2⟩)
   · exact ⟨x, K5.2 (.inl h1), h2⟩
   · exact ⟨x, K5.2 (.inr h1), h2⟩
theorem a5E (l : List Int) (n : Int) : D0 (K9 l n) = D0 l ||| 2 ^ n.toNat := by
 apply Nat.eq_of_testBit_eq
 intro k
 apply Bool.eq_iff_iff.2
 rw [Nat.testBit_or, Bool.or_eq_true, aF, aF, Nat.testBit_two_pow, decide_eq_true_eq]
 constructor
 · rintro ⟨x, h1, h2⟩
   rcases eH.1 h1 with rfl | h1
   · exact .inr h2
   · exact .inl ⟨x, h1, h2⟩
 · rintro (⟨x, h1, h2⟩ | h)
   · exact ⟨x, eH.2 (.inr h1), h2⟩
   · exact ⟨n, eH.2 (.inl rfl), h⟩
theorem a1e {l : List Int} (hl : Y9 l) {n : Int} (hn : 0 ≤ n) (k : Nat) : (D0 (l8 l n)).testBit k = ((D0 l).testBit k && !decide (n.toNat = k)) := by
 apply Bool.eq_iff_iff.2
 rw [Bool.and_eq_true, aF, aF, Bool.not_eq_true', decide_eq_false_iff_not]
 constructor
 · rintro ⟨x, h1, h2⟩
   obtain ⟨h1, h3⟩ := T7.1 h1
   have := (hl x h1).1
   exact ⟨⟨x, h1, h2⟩, by omega⟩
 · rintro ⟨⟨x, h1, h2⟩, h3⟩
   exact ⟨x, T7.2 ⟨h1, fun e => h3 (by rw [← e]; exact h2)⟩, h2⟩
theorem b6Z (n : Int) : IntKind.u64.wrap n = n % 18446744073709551616 := by simp [IntKind.wrap, IntKind.signed, IntKind.bits]
theorem bM {n : Nat} (h : n < 18446744073709551616) : IntKind.u64.wrap (n : Int) = n := by rw [b6Z]; omega
theorem kW (a : Nat) : BitVec.ofInt IntKind.u64.bits (a : Int) = BitVec.ofNat 64 a := BitVec.ofInt_natCast 64 a
theorem a7z {a b : Nat} (ha : a < 18446744073709551616) (hb : b < 18446744073709551616) : orK .u64 a b = ((a ||| b : Nat) : Int) := by
 have h : a ||| b < 2 ^ 64 := Nat.or_lt_two_pow (n := 64) ha hb
 have e : (BitVec.ofNat 64 a ||| BitVec.ofNat 64 b).toNat = a ||| b := by
   rw [BitVec.toNat_or, BitVec.toNat_ofNat, BitVec.toNat_ofNat, Nat.mod_eq_of_lt (by simpa using ha), Nat.mod_eq_of_lt (by simpa using hb)]
 unfold orK
 rw [kW, kW]
 refine Eq.trans (congrArg (fun z : Nat => IntKind.u64.wrap (z : Int)) e) ?_
 exact bM (by simpa using h)
theorem a9U {a b : Nat} (ha : a < 18446744073709551616) (hb : b < 18446744073709551616) : a4F .u64 a b = ((a &&& b : Nat) : Int) := by
 have h : a &&& b ≤ a := Nat.and_le_left
 have e : (BitVec.ofNat 64 a &&& BitVec.ofNat 64 b).toNat = a &&& b := by
   rw [BitVec.toNat_and, BitVec.toNat_ofNat, BitVec.toNat_ofNat, Nat.mod_eq_of_lt (by simpa using ha), Nat.mod_eq_of_lt (by simpa using hb)]
 unfold a4F
 rw [kW, kW]
 refine Eq.trans (congrArg (fun z : Nat => IntKind.u64.wrap (z : Int)) e) ?_
 exact bM (by omega)
theorem b6N {n : Int} (h : 0 ≤ n ∧ n < 64) : a9j .u64 1 n = ((2 ^ n.toNat : Nat) : Int) := by
 unfold a9j
 rw [show min n.toNat IntKind.u64.bits = n.toNat from by simp [IntKind.bits]; omega]
 have : (2 : Nat) ^ n.toNat < 2 ^ 64 := Nat.pow_lt_pow_right (by decide) (by omega)
 rw [Int.one_mul, show ((2 : Int) ^ n.toNat) = ((2 ^ n.toNat : Nat) : Int) from by simp]
 exact bM (by simpa using this)
theorem b5v {n : Int} (h : 0 ≤ n ∧ n < 64) : (2 : Nat) ^ n.toNat < 18446744073709551616 := Nat.pow_lt_pow_right (n := 64) (by decide) (by omega)
theorem b28 {l : List Int} (hl : Y9 l) {n : Int} (h : 0 ≤ n ∧ n < 64) : orK .u64 (D0 l) (a9j .u64 1 n) = (D0 (K9 l n) : Int) := by
 rw [b6N h, a7z (dZ hl) (b5v h), a5E]
theorem b1w {a b : List Int} (ha : Y9 a) (hb : Y9 b) : orK .u64 (D0 a) (D0 b) = (D0 (q9 a b) : Int) := by
 rw [a7z (dZ ha) (dZ hb), a5G]
theorem b6K : orK .u64 0 0 = 0 := by decide
theorem tD {l : List Int} (hl : Y9 l) {n : Int} (h : 0 ≤ n ∧ n < 64) : rT .u64 (D0 l) (a9j .u64 1 n) = (D0 (l8 l n) : Int) := by
 rw [b6N h]
 unfold rT
 rw [kW, kW]
 have e : (BitVec.ofNat 64 (D0 l) &&& ~~~ BitVec.ofNat 64 (2 ^ n.toNat)).toNat = D0 (l8 l n) := by
   apply Nat.eq_of_testBit_eq
   intro k
   rw [a1e hl h.1]
   show (BitVec.ofNat 64 (D0 l) &&& ~~~ BitVec.ofNat 64 (2 ^ n.toNat)).getLsbD k = _
   have hm := dZ hl
   rw [BitVec.getLsbD_and, BitVec.getLsbD_not, BitVec.getLsbD_ofNat, BitVec.getLsbD_ofNat, Nat.testBit_two_pow]
   by_cases hk : k < 64
   · simp [hk]
   · have : (D0 l).testBit k = false := Nat.testBit_lt_two_pow (Nat.lt_of_lt_of_le hm (Nat.pow_le_pow_right (n := 2) (i := 64) (by decide) (by omega)))
     simp [hk, this]
 refine Eq.trans (congrArg (fun z : Nat => IntKind.u64.wrap (z : Int)) e) ?_
 exact bM (dZ hl.dG)
theorem a3I {a : Int} {l : List Int} (h : Y9 (a :: l)) (s : K8 (a :: l)) : ∃ r, D0 (a :: l) = 2 ^ a.toNat * (2 * r + 1) ∧ D0 l = 2 ^ a.toNat * (2 * r) := by
 have ha := h a (by simp)
 obtain ⟨s1, s2⟩ := List.pairwise_cons.1 s
 have hd : 2 ^ (a.toNat + 1) ∣ D0 l := by
   rw [Nat.dvd_iff_mod_eq_zero]
   apply Nat.eq_of_testBit_eq
   intro k
   rw [Nat.testBit_mod_two_pow, Nat.zero_testBit]
   by_cases hk : k < a.toNat + 1
   · have : (D0 l).testBit k = false := by
       apply Bool.eq_false_iff.2
       intro hb
       obtain ⟨x, h1, h2⟩ := (aF l k).1 hb
       have := s1 x h1
       omega
     simp [this]
   · simp [hk]
 obtain ⟨r, hr⟩ := hd
 refine ⟨r, ?_, by rw [hr, Nat.pow_succ, Nat.mul_assoc]⟩
 show 2 ^ a.toNat ||| D0 l = _
 rw [hr, Nat.pow_succ, Nat.mul_assoc, Nat.or_comm]
 have := Nat.two_pow_add_eq_or_of_lt (i := a.toNat + 1) (b := 2 ^ a.toNat) (by rw [Nat.pow_succ]; have := Nat.two_pow_pos a.toNat; omega) r
 rw [← Nat.mul_assoc, ← Nat.pow_succ, ← this, Nat.pow_succ, Nat.mul_assoc, Nat.mul_add, Nat.mul_one]
theorem a5F {a : Int} {l : List Int} (h : Y9 (a :: l)) (s : K8 (a :: l)) : a4F .u64 (D0 (a :: l)) (IntKind.u64.wrap ((D0 (a :: l) : Int) - 1)) = (D0 l : Int) := by
 obtain ⟨r, h1, h2⟩ := a3I h s
 have hp := Nat.two_pow_pos a.toNat
 have hpos : 0 < D0 (a :: l) := by rw [h1]; exact Nat.mul_pos hp (by omega)
 have hlt := dZ h
 rw [show (D0 (a :: l) : Int) - 1 = ((D0 (a :: l) - 1 : Nat) : Int) by omega, bM (by omega), a9U hlt (by omega)]
 congr 1
 rw [h1, h2]
 have e1 : 2 ^ a.toNat * (2 * r + 1) = 2 ^ a.toNat * (2 * r) + 2 ^ a.toNat := by rw [Nat.mul_add, Nat.mul_one]
 have e2 : 2 ^ a.toNat * (2 * r + 1) - 1 = 2 ^ a.toNat * (2 * r) + (2 ^ a.toNat - 1) := by omega
 apply Nat.eq_of_testBit_eq
 intro k
 rw [Nat.testBit_and, e2, Nat.testBit_two_pow_mul_add _ (by omega), Nat.mul_comm _ (2 * r + 1), Nat.testBit_mul_two_pow, Nat.mul_comm _ (2 * r), Nat.testBit_mul_two_pow]
 by_cases hk : k < a.toNat
 · have hd : decide (a.toNat ≤ k) = false := by simp; omega
   rw [hd, Bool.false_and, Bool.false_and, Bool.false_and]
 · rw [if_neg hk]
   simp only [show a.toNat ≤ k by omega, decide_true, Bool.true_and]
   cases hj : k - a.toNat with
   | zero => simp [Nat.testBit_zero]
   | succ j => rw [Nat.testBit_succ, Nat.testBit_succ, show (2 * r + 1) / 2 = r by omega, show 2 * r / 2 = r by omega, Bool.and_self]
theorem b1f {a : Int} {l : List Int} (h : Y9 (a :: l)) (s : K8 (a :: l)) : Lib.ctz 64 (D0 (a :: l)) = a.toNat := by
 obtain ⟨r, h1, _⟩ := a3I h s
 have ha := h a (by simp)
 have hp := Nat.two_pow_pos a.toNat
 have hne : D0 (a :: l) ≠ 0 := by rw [h1]; have := Nat.mul_pos hp (show 0 < 2 * r + 1 by omega); omega
 obtain ⟨m, h3, _⟩ := Lib.ctzFrom_spec 64 (D0 (a :: l)) (by omega) (by have := dZ h; simpa using this)
 have e : Lib.ctz 64 (D0 (a :: l)) = Lib.ctzFrom 64 (D0 (a :: l)) := by simp [Lib.ctz, hne]
 rw [e]
 generalize Lib.ctzFrom 64 (D0 (a :: l)) = c at *
 rw [h1] at h3
 generalize a.toNat = b at *
 rcases Nat.lt_trichotomy c b with hlt | heq | hgt
 · obtain ⟨d, rfl⟩ : ∃ d, b = c + (d + 1) := ⟨b - c - 1, by omega⟩
   rw [Nat.pow_add, Nat.mul_assoc] at h3
   have := Nat.eq_of_mul_eq_mul_left (Nat.two_pow_pos c) h3
   rw [Nat.pow_succ, Nat.mul_comm _ 2, Nat.mul_assoc] at this
   omega
 · exact heq
 · obtain ⟨d, rfl⟩ : ∃ d, c = b + (d + 1) := ⟨c - b - 1, by omega⟩
   rw [Nat.pow_add, Nat.mul_assoc] at h3
   have := Nat.eq_of_mul_eq_mul_left (Nat.two_pow_pos b) h3
   rw [Nat.pow_succ, Nat.mul_comm _ 2, Nat.mul_assoc] at this
   omega
theorem b1h {a : Int} {l : List Int} : D0 (a :: l) ≠ 0 := by
 intro h
 have : (D0 (a :: l)).testBit a.toNat = true := (aF _ _).2 ⟨a, by simp, rfl⟩
 rw [h] at this; simp at this
def F5 (l : List Int) : AV := .agg [.v (.int .u64 (D0 l)), .v (.int .u64 0), .v (.int .u64 0), .v (.int .u64 0)]
def U3 (r : Int) (o : J8) : Prop := o.k = 2 → 0 ≤ o.n ∧ o.n < r
structure eL (r : Int) (i : j9) : Prop where
 d : U3 r i.d
 a : U3 r i.a
 b : U3 r i.b
 c : U3 r i.c
structure Z9 (r n : Int) (t : u2) : Prop where
 d : U3 r t.d
 a : U3 r t.a
 b : U3 r t.b
 to : t.kind ≠ 5 → 0 ≤ t.t0 ∧ t.t0 < n
 to1 : t.kind = 2 → 0 ≤ t.t1 ∧ t.t1 < n
 dk : t.d.k = 2 → t.kind ≠ 5
structure kE (r n : Int) (b : c5) : Prop where
 i : ∀ x ∈ b.i, eL r x
 t : Z9 r n b.t
 l : b.i.length ≤ 39
structure z6 (c : Code) : Prop where
 n : 0 < c.b.length ∧ c.b.length ≤ 18
 r : 0 ≤ c.r9 ∧ c.r9 ≤ 16
 b : ∀ x ∈ c.b, kE c.r9 c.b.length x
theorem Z9.succ {r n : Int} {t : u2} (h : Z9 r n t) : ∀ to ∈ c8 t, 0 ≤ to ∧ to < n := by
 intro to hto
 unfold c8 at hto
 split at hto
 · simp at hto
 · rename_i h5
   split at hto
   · rename_i h2
     rcases List.mem_cons.1 hto with rfl | hto
     · exact h.to h5
     · rcases List.mem_cons.1 hto with rfl | hto
       · exact h.to1 h2.1
       · simp at hto
   · rcases List.mem_cons.1 hto with rfl | hto
     · exact h.to h5
     · simp at hto
def F3 (bs : List c5) (b : Nat) : c5 := bs.getD b B0
theorem W0 {bs : List c5} {b : Nat} (h : b < bs.length) : F3 bs b ∈ bs := by
 unfold F3; rw [List.getD_eq_getElem?_getD, List.getElem?_eq_getElem h]; exact List.getElem_mem h
inductive fF (bs : List c5) : Int → Prop
 | zero : fF bs 0
 | step {b to : Int} : fF bs b → to ∈ c8 (F3 bs b.toNat).t → fF bs to
noncomputable def reachF (bs : List c5) : List Bool := (List.range bs.length).map fun (b : Nat) => Decidable.decide (h := Classical.propDecidable _) (fF bs (b : Int))
theorem M8 (bs : List c5) : (reachF bs).length = bs.length := by simp [reachF]
theorem T8 (bs : List c5) {b : Nat} (h : b < bs.length) : (reachF bs).getD b false = true ↔ fF bs b := by
 unfold reachF
 rw [List.getD_eq_getElem?_getD, List.getElem?_map, List.getElem?_range h]
 simp
def aV (bs : List c5) : Prop := 0 < bs.length ∧ ∀ b ∈ bs, ∀ to ∈ c8 b.t, 0 ≤ to ∧ to < bs.length
theorem z6.succ {c : Code} (h : z6 c) : aV c.b := ⟨h.n.1, fun b hb => (h.b b hb).t.succ⟩
theorem fF.bd {bs : List c5} (h : aV bs) {b : Int} (hr : fF bs b) : 0 ≤ b ∧ b < bs.length := by
 induction hr with
 | zero => have := h.1; omega
 | step _ h2 ih => exact h.2 _ (W0 (by omega)) _ h2
theorem a4a {bs : List c5} (h : aV bs) {out : List Bool} (hl : out.length = bs.length) (h1 : ∀ b, out.getD b false = true → fF bs (b : Int)) (h0 : out.getD 0 false = true)
   (hc : ∀ b, out.getD b false = true → ∀ to ∈ c8 (F3 bs b).t, out.getD to.toNat false = true) : out = reachF bs := by
 have h2 : ∀ b : Int, fF bs b → out.getD b.toNat false = true := by
   intro b hb
   induction hb with
   | zero => exact h0
   | step _ h2 ih => exact hc _ ih _ h2
 apply List.ext_getElem?
 intro b
 by_cases hb : b < bs.length
 · have e : out.getD b false = (reachF bs).getD b false := by
     apply Bool.eq_iff_iff.2
     rw [T8 bs hb]
     exact ⟨h1 b, fun hr => by simpa using h2 b hr⟩
   rw [List.getD_eq_getElem?_getD, List.getD_eq_getElem?_getD] at e
   rw [List.getElem?_eq_getElem (by omega), List.getElem?_eq_getElem (by rw [M8]; exact hb)] at e ⊢
   exact congrArg some e
 · rw [List.getElem?_eq_none (by omega), List.getElem?_eq_none (by rw [M8]; omega)]
theorem cF (out : List Bool) (k b : Nat) : (out.set k true).getD b false = if k = b ∧ b < out.length then true else out.getD b false := by
 rw [List.getD_eq_getElem?_getD, List.getElem?_set, List.getD_eq_getElem?_getD]
 by_cases h : k = b
 · subst h
   by_cases h2 : k < out.length
   · simp [h2]
   · simp [h2]
 · simp [h]
theorem b2E {out : List Bool} {b : Nat} (h : out.getD b false = true) : b < out.length := by
 apply Nat.lt_of_not_le
 intro hh
 rw [List.getD_eq_getElem?_getD, List.getElem?_eq_none hh] at h
 simp at h
def iB (out : List Bool) (l : List Int) : List Bool := l.foldl (fun o to => o.set to.toNat true) out
theorem kU : ∀ (l : List Int) (out : List Bool), (iB out l).length = out.length
 | [], out => rfl
 | a :: l, out => by show (iB (out.set a.toNat true) l).length = _; rw [kU l]; simp
theorem iC : ∀ (l : List Int) (out : List Bool) (b : Nat), (∀ to ∈ l, 0 ≤ to ∧ to < out.length) → ((iB out l).getD b false = true ↔ out.getD b false = true ∨ (b : Int) ∈ l)
 | [], out, b, _ => by simp [iB]
 | a :: l, out, b, h => by
   show (iB (out.set a.toNat true) l).getD b false = true ↔ _
   rw [iC l (out.set a.toNat true) b (by simpa using fun to hto => h to (by simp [hto])), cF]
   have ha := h a (by simp)
   by_cases e : a.toNat = b
   · rw [if_pos ⟨e, by omega⟩]
     simp only [List.mem_cons, true_or, true_iff]
     exact .inr (.inl (by omega))
   · rw [if_neg (fun hh => e hh.1), List.mem_cons]
     constructor
     · rintro (h1 | h1)
       · exact .inl h1
       · exact .inr (.inr h1)
     · rintro (h1 | h1 | h1)
       · exact .inl h1
       · omega
       · exact .inr h1
def dP (bs : List c5) (out : List Bool) (b : Nat) : List Bool := if out.getD b false then iB out (c8 (F3 bs b).t) else out
def Z5 (bs : List c5) (out : List Bool) : Nat → List Bool
 | 0 => out
 | b + 1 => dP bs (Z5 bs out b) b
def I8 (bs : List c5) (out : List Bool) : Nat → List Bool
 | 0 => out
 | k + 1 => Z5 bs (I8 bs out k) bs.length
def aG (n : Nat) : List Bool := (List.replicate n false).set 0 true
structure RI (bs : List c5) (out : List Bool) : Prop where
 l : out.length = bs.length
 s : ∀ b, out.getD b false = true → fF bs (b : Int)
 z : out.getD 0 false = true
theorem RI.zero {bs : List c5} (h : aV bs) : RI bs (aG bs.length) := by
 refine ⟨by simp [aG], fun b hb => ?_, ?_⟩
 · unfold aG at hb
   rw [cF] at hb
   split at hb
   · rename_i h1; rw [← h1.1]; exact .zero
   · rw [List.getD_eq_getElem?_getD, List.getElem?_replicate] at hb
     split at hb <;> simp at hb
 · unfold aG
   rw [cF, if_pos ⟨rfl, by simpa using h.1⟩]
theorem RI.dP {bs : List c5} (h : aV bs) {out : List Bool} (R : RI bs out) {b : Nat} (hb : b < bs.length) : RI bs (dP bs out b) ∧ (∀ k, out.getD k false = true → (Proofs.YtfccigmfcpimgaaDoor.dP bs out b).getD k false = true) ∧ (out.getD b false = true → ∀ to ∈ c8 (F3 bs b).t, (Proofs.YtfccigmfcpimgaaDoor.dP bs out b).getD to.toNat false = true) := by
 have hs : ∀ to ∈ c8 (F3 bs b).t, 0 ≤ to ∧ to < out.length := fun to hto => by rw [R.l]; exact h.2 _ (W0 hb) to hto
 unfold Proofs.YtfccigmfcpimgaaDoor.dP
 split
 · rename_i h1
   have h1' : out.getD b false = true := h1
   refine ⟨⟨by rw [kU]; exact R.l, fun k hk => ?_, ?_⟩, fun k hk => ?_, fun _ to hto => ?_⟩
   · rcases (iC _ _ _ hs).1 hk with hk | hk
     · exact R.s k hk
     · exact .step (R.s b h1') (by simpa using hk)
   · exact (iC _ _ _ hs).2 (.inl R.z)
   · exact (iC _ _ _ hs).2 (.inl hk)
   · refine (iC _ _ _ hs).2 (.inr ?_)
     have := hs to hto
     rw [Int.toNat_of_nonneg this.1]; exact hto
 · rename_i h1
   exact ⟨R, fun k hk => hk, fun h2 => absurd h2 h1⟩
theorem RI.Z5 {bs : List c5} (h : aV bs) {out : List Bool} (R : RI bs out) : ∀ n, n ≤ bs.length → RI bs (Z5 bs out n) ∧ (∀ k, out.getD k false = true → (Proofs.YtfccigmfcpimgaaDoor.Z5 bs out n).getD k false = true) ∧ (∀ b, b < n → out.getD b false = true → ∀ to ∈ c8 (F3 bs b).t, (Proofs.YtfccigmfcpimgaaDoor.Z5 bs out n).getD to.toNat false = true) := by
 intro n
 induction n with
 | zero => intro _; exact ⟨R, fun k hk => hk, fun b hb => by omega⟩
 | succ n ih =>
   intro hn
   obtain ⟨R1, m1, c1⟩ := ih (by omega)
   obtain ⟨R2, m2, c2⟩ := R1.dP h (b := n) (by omega)
   refine ⟨R2, fun k hk => m2 k (m1 k hk), fun b hb hk to hto => ?_⟩
   by_cases e : b = n
   · subst e; exact c2 (m1 _ hk) to hto
   · exact m2 _ (c1 b (by omega) hk to hto)
theorem RI.rounds {bs : List c5} (h : aV bs) {out : List Bool} (R : RI bs out) : ∀ k, RI bs (I8 bs out k)
 | 0 => R
 | k + 1 => ((RI.rounds h R k).Z5 h bs.length (Nat.le_refl _)).1
def lE (out : List Bool) : Nat := out.count true
theorem a0Q {a b : List Bool} (hl : a.length = b.length) (h : ∀ k, a.getD k false = true → b.getD k false = true) : lE a ≤ lE b ∧ (lE a = lE b → a = b) := by
 induction a generalizing b with
 | nil => cases b with
   | nil => exact ⟨Nat.le_refl _, fun _ => rfl⟩
   | cons y b => simp at hl
 | cons x a ih => cases b with
   | nil => simp at hl
   | cons y b =>
     obtain ⟨h1, h2⟩ := ih (b := b) (by simpa using hl) (fun k hk => by simpa using h (k + 1) (by simpa using hk))
     have h0 : x = true → y = true := by simpa using h 0
     unfold lE at *
     cases x <;> cases y <;> simp at h0 ⊢
     · exact ⟨h1, h2⟩
     · exact ⟨by omega, by omega⟩
     · exact ⟨h1, h2⟩
theorem a5U {bs : List c5} (h : aV bs) : I8 bs (aG bs.length) bs.length = reachF bs := by
 have R0 := RI.zero h
 have key : ∀ k, k ≤ bs.length → (∀ b, (I8 bs (aG bs.length) k).getD b false = true → ∀ to ∈ c8 (F3 bs b).t, (I8 bs (aG bs.length) k).getD to.toNat false = true) ∨ k + 1 ≤ lE (I8 bs (aG bs.length) k) := by
   intro k
   induction k with
   | zero =>
     intro _
     right
     show 1 ≤ lE (aG bs.length)
     unfold lE
     have hz := R0.z
     have : true ∈ aG bs.length := by
       rw [List.getD_eq_getElem?_getD] at hz
       cases he : (aG bs.length)[0]? with
       | none => rw [he] at hz; simp at hz
       | some v => rw [he] at hz; simp at hz; subst hz; exact List.mem_of_getElem? he
     exact List.count_pos_iff.2 this
   | succ k ih =>
     intro hk
     obtain ⟨R1, m1, c1⟩ := (R0.rounds h k).Z5 h bs.length (Nat.le_refl _)
     have e : I8 bs (aG bs.length) (k + 1) = Proofs.YtfccigmfcpimgaaDoor.Z5 bs (I8 bs (aG bs.length) k) bs.length := rfl
     have hl : (I8 bs (aG bs.length) k).length = (Proofs.YtfccigmfcpimgaaDoor.Z5 bs (I8 bs (aG bs.length) k) bs.length).length := by rw [(R0.rounds h k).l, R1.l]
     obtain ⟨l1, l2⟩ := a0Q hl m1
     rw [e]
     rcases Nat.lt_or_ge (lE (I8 bs (aG bs.length) k)) (lE (Proofs.YtfccigmfcpimgaaDoor.Z5 bs (I8 bs (aG bs.length) k) bs.length)) with hlt | hge
     · rcases ih (by omega) with hc | hc
       · left
         exfalso
         have same : Proofs.YtfccigmfcpimgaaDoor.Z5 bs (I8 bs (aG bs.length) k) bs.length = I8 bs (aG bs.length) k := by
           have : ∀ n, n ≤ bs.length → Proofs.YtfccigmfcpimgaaDoor.Z5 bs (I8 bs (aG bs.length) k) n = I8 bs (aG bs.length) k := by
             intro n
             induction n with
             | zero => intro _; rfl
             | succ n ih2 =>
               intro hn
               show Proofs.YtfccigmfcpimgaaDoor.dP bs (Proofs.YtfccigmfcpimgaaDoor.Z5 bs (I8 bs (aG bs.length) k) n) n = _
               rw [ih2 (by omega)]
               obtain ⟨R3, m3, c3⟩ := (R0.rounds h k).dP h (b := n) (by omega)
               refine (a0Q (by rw [(R0.rounds h k).l, R3.l]) m3).2 ?_ |>.symm
               refine Nat.le_antisymm (a0Q (by rw [(R0.rounds h k).l, R3.l]) m3).1 ?_
               refine (a0Q (by rw [(R0.rounds h k).l, R3.l]) fun j hj => ?_).1
               unfold Proofs.YtfccigmfcpimgaaDoor.dP at hj
               split at hj
               · rename_i hb
                 have hs : ∀ to ∈ c8 (F3 bs n).t, 0 ≤ to ∧ to < (I8 bs (aG bs.length) k).length := fun to hto => by rw [(R0.rounds h k).l]; exact h.2 _ (W0 (by omega)) to hto
                 rcases (iC _ _ _ hs).1 hj with hj | hj
                 · exact hj
                 · simpa using hc n hb _ hj
               · exact hj
           exact this _ (Nat.le_refl _)
         rw [same] at hlt
         omega
       · right; omega
     · left
       have e2 := l2 (by omega)
       intro b hb to hto
       rw [← e2] at hb
       exact c1 b (by have := b2E hb; rw [(R0.rounds h k).l] at this; exact this) hb to hto
 have hR := R0.rounds h bs.length
 rcases key bs.length (Nat.le_refl _) with hc | hc
 · exact a4a h hR.l hR.s hR.z hc
 · have : lE (I8 bs (aG bs.length) bs.length) ≤ (I8 bs (aG bs.length) bs.length).length := List.count_le_length
   rw [hR.l] at this
   omega
structure DI (bs : List c5) (out : List Bool) (left : List Int) : Prop where
 R : RI bs out
 m : ∀ b ∈ left, 0 ≤ b ∧ out.getD b.toNat false = true
 c : ∀ b : Nat, out.getD b false = true → (b : Int) ∈ left ∨ ∀ to ∈ c8 (F3 bs b).t, out.getD to.toNat false = true
theorem DI.zero {bs : List c5} (h : aV bs) : DI bs (aG bs.length) [0] := by
 have R := RI.zero h
 refine ⟨R, fun b hb => ?_, fun b hb => .inl ?_⟩
 · rw [List.mem_singleton.1 hb]; exact ⟨Int.le_refl _, R.z⟩
 · unfold aG at hb
   rw [cF] at hb
   split at hb
   · rename_i h1; rw [← h1.1]; simp
   · rw [List.getD_eq_getElem?_getD, List.getElem?_replicate] at hb
     split at hb <;> simp at hb
theorem DI.done {bs : List c5} (h : aV bs) {out : List Bool} (D : DI bs out []) : out = reachF bs := a4a h D.R.l D.R.s D.R.z fun b hb => (D.c b hb).resolve_left (by simp)
def dQ (p : List Bool × List Int) (to : Int) : List Bool × List Int := if p.1.getD to.toNat false then p else (p.1.set to.toNat true, p.2 ++ [to])
structure DP (bs : List c5) (b : Int) (l : List Int) (p : List Bool × List Int) : Prop where
 R : RI bs p.1
 m : ∀ x ∈ p.2, 0 ≤ x ∧ p.1.getD x.toNat false = true
 c : ∀ x : Nat, p.1.getD x false = true → (x : Int) ∈ p.2 ∨ (∀ to ∈ c8 (F3 bs x).t, p.1.getD to.toNat false = true) ∨ ((x : Int) = b ∧ ∀ to ∈ c8 (F3 bs x).t, to ∈ l ∨ p.1.getD to.toNat false = true)
theorem DI.pop {bs : List c5} {out : List Bool} {left : List Int} {b : Int} (D : DI bs out (left ++ [b])) : DP bs b (c8 (F3 bs b.toNat).t) (out, left) := by
 refine ⟨D.R, fun x hx => D.m x (by simp [hx]), fun x hx => ?_⟩
 rcases D.c x hx with h | h
 · rcases List.mem_append.1 h with h | h
   · exact .inl h
   · have : (x : Int) = b := by simpa using h
     exact .inr (.inr ⟨this, fun to hto => .inl (by rw [← this]; simpa using hto)⟩)
 · exact .inr (.inl h)
theorem DP.push {bs : List c5} {b : Int} (hb : fF bs b) (h : aV bs) {a : Int} {l : List Int} (hl : ∀ x ∈ a :: l, x ∈ c8 (F3 bs b.toNat).t) {p : List Bool × List Int} (D : DP bs b (a :: l) p) : DP bs b l (dQ p a) := by
 obtain ⟨out, left⟩ := p
 have hbd := hb.bd h
 have ha : a ∈ c8 (F3 bs b.toNat).t := hl a (by simp)
 have had := h.2 _ (W0 (by omega)) a ha
 unfold dQ
 by_cases hin : out.getD a.toNat false = true
 · rw [if_pos hin]
   refine ⟨D.R, D.m, fun x hx => ?_⟩
   rcases D.c x hx with h1 | h1 | ⟨h1, h2⟩
   · exact .inl h1
   · exact .inr (.inl h1)
   · refine .inr (.inr ⟨h1, fun to hto => ?_⟩)
     rcases h2 to hto with h3 | h3
     · rcases List.mem_cons.1 h3 with rfl | h3
       · exact .inr hin
       · exact .inl h3
     · exact .inr h3
 · rw [if_neg hin]
   have hlen : out.length = bs.length := D.R.l
   have mono : ∀ k, out.getD k false = true → (out.set a.toNat true).getD k false = true := fun k hk => by rw [cF]; split <;> simp_all
   have new : (out.set a.toNat true).getD a.toNat false = true := by rw [cF, if_pos ⟨rfl, by omega⟩]
   refine ⟨⟨by simpa using hlen, fun k hk => ?_, mono _ D.R.z⟩, fun x hx => ?_, fun x hx => ?_⟩
   · rw [cF] at hk
     split at hk
     · rename_i h1
       have : (k : Int) = a := by omega
       rw [this]; exact .step hb ha
     · exact D.R.s k hk
   · rcases List.mem_append.1 hx with hx | hx
     · exact ⟨(D.m x hx).1, mono _ (D.m x hx).2⟩
     · have : x = a := by simpa using hx
       subst this
       exact ⟨had.1, new⟩
   · by_cases hxa : x = a.toNat
     · left
       show (x : Int) ∈ left ++ [a]
       have : (x : Int) = a := by omega
       simp [this]
     · have hx' : out.getD x false = true := by
         have hx2 : (out.set a.toNat true).getD x false = true := hx
         rw [cF, if_neg (fun hh => hxa hh.1.symm)] at hx2
         exact hx2
       rcases D.c x hx' with h1 | h1 | ⟨h1, h2⟩
       · exact .inl (by show (x : Int) ∈ left ++ [a]; simp [show (x : Int) ∈ left from h1])
       · exact .inr (.inl fun to hto => mono _ (h1 to hto))
       · refine .inr (.inr ⟨h1, fun to hto => ?_⟩)
         rcases h2 to hto with h3 | h3
         · rcases List.mem_cons.1 h3 with rfl | h3
           · exact .inr new
           · exact .inl h3
         · exact .inr (mono _ h3)
theorem DP.done {bs : List c5} {b : Int} {p : List Bool × List Int} (D : DP bs b [] p) : DI bs p.1 p.2 := ⟨D.R, D.m, fun x hx => by
 rcases D.c x hx with h1 | h1 | ⟨h1, h2⟩
 · exact .inl h1
 · exact .inr h1
 · exact .inr fun to hto => (h2 to hto).resolve_left (by simp)⟩
def msr (p : List Bool × List Int) : Nat := 2 * (p.1.length - lE p.1) + p.2.length
theorem b2w {out : List Bool} {k : Nat} (h : k < out.length) (h2 : ¬ out.getD k false = true) : lE (out.set k true) = lE out + 1 := by
 induction out generalizing k with
 | nil => simp at h
 | cons x out ih =>
   unfold lE at *
   cases k with
   | zero =>
     have : x = false := by simpa using h2
     subst this
     simp
   | succ k =>
     have := ih (k := k) (by simpa using h) (by simpa using h2)
     rw [List.set_cons_succ, List.count_cons, List.count_cons, this]
     omega
theorem b1l (p : List Bool × List Int) (a : Int) (h : 0 ≤ a ∧ a < p.1.length) : msr (dQ p a) ≤ msr p ∧ (dQ p a).1.length = p.1.length := by
 obtain ⟨out, left⟩ := p
 unfold dQ
 by_cases hin : out.getD a.toNat false = true
 · rw [if_pos hin]; exact ⟨Nat.le_refl _, rfl⟩
 · rw [if_neg hin]
   have h' : a.toNat < out.length := by have h1 : a < (out.length : Int) := h.2; omega
   refine ⟨?_, by simp⟩
   unfold msr
   have := b2w h' hin
   have hle : lE (out.set a.toNat true) ≤ (out.set a.toNat true).length := List.count_le_length
   simp only [List.length_set, List.length_append, List.length_singleton] at hle ⊢
   omega
theorem vG : ∀ (l : List Int) (p : List Bool × List Int), (∀ to ∈ l, 0 ≤ to ∧ to < p.1.length) → msr (l.foldl dQ p) ≤ msr p ∧ (l.foldl dQ p).1.length = p.1.length
 | [], p, _ => ⟨Nat.le_refl _, rfl⟩
 | a :: l, p, h => by
   obtain ⟨h1, h2⟩ := b1l p a (h a (by simp))
   obtain ⟨h3, h4⟩ := vG l (dQ p a) (fun to hto => by rw [h2]; exact h to (by simp [hto]))
   exact ⟨by rw [List.foldl_cons]; omega, by rw [List.foldl_cons, h4, h2]⟩
theorem a7l (out : List Bool) (left : List Int) (b : Int) : msr (out, left) + 1 = msr (out, left ++ [b]) := by unfold msr; simp; omega
theorem DP.b1G {bs : List c5} {b : Int} (hb : fF bs b) (h : aV bs) : ∀ (l : List Int) (p : List Bool × List Int), (∀ x ∈ l, x ∈ c8 (F3 bs b.toNat).t) → DP bs b l p → DP bs b [] (l.foldl dQ p)
 | [], p, _, D => D
 | a :: l, p, hl, D => DP.b1G hb h l (dQ p a) (fun x hx => hl x (by simp [hx])) (D.push hb h hl)
end Go.Proofs.YtfccigmfcpimgaaDoor
end
