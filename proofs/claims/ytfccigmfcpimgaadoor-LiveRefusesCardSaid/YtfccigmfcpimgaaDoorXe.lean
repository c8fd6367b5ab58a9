/- Own work (by an AI agent; no person has read it): part of a proof of the seat YtfccigmfcpimgaaDoor. -/
import Derived.Test.YtfccigmfcpimgaaDoorXd
set_option linter.unusedSimpArgs false
set_option linter.unusedVariables false
set_option maxRecDepth 100000
set_option maxHeartbeats 10000000
section
namespace Go.Proofs.YtfccigmfcpimgaaDoor
open Go.Ab
def X9 (z : Nat) (l : List Int) : AV := if l = [] then .b7 true [] else .own (100 + z) 0 l.length
def fJ (l : List Int) : RS := if l = [] then .gone else .live ⟨1, e7 l, 0⟩
def T1 (n : Nat) (F : Nat → List Int) : List (List AV) := (List.range n).map fun z => [X9 z (F z)]
def tW (n : Nat) (F : Nat → List Int) : List (Nat × RS) := iS 100 n fun z => fJ (F z)
theorem tT (n : Nat) (F : Nat → List Int) : (T1 n F).length = n := by simp [T1]
theorem b0c (n : Nat) (F : Nat → List Int) : (∀ e ∈ T1 n F, e.length = 1) = True := by simp [T1]
theorem zN (n : Nat) (F : Nat → List Int) (z : Nat) (h : z < n) : (T1 n F)[z]? = some [X9 z (F z)] := by simp [T1, h]
theorem a4X (n : Nat) (F : Nat → List Int) (z : Nat) (x : AV) : (T1 n F).modify z (fun e => u0 e 0 [x]) = (List.range n).map fun y => [if y = z then x else X9 y (F y)] := by
 unfold T1
 rw [a1f]
 apply List.map_congr_left
 intro y _
 split <;> rfl
theorem aN (n : Nat) (F : Nat → List Int) (h : 0 < n) : ((T1 n F).all fun e => e.all AV.plain) = false := by
 apply Bool.eq_false_iff.2
 intro hh
 have := List.all_eq_true.1 hh [X9 0 (F 0)] (List.mem_of_getElem? (zN n F 0 h))
 simp only [List.all_cons, List.all_nil, Bool.and_true] at this
 unfold X9 at this
 split at this <;> simp [AV.plain] at this
theorem kJ (n : Nat) (F : Nat → List Int) (z id k : Nat) (h : z < n) : (((List.range n).map fun y => [if y = z then AV.own id 0 k else X9 y (F y)]).all fun e => e.all AV.plain) = false := by
 apply Bool.eq_false_iff.2
 intro hh
 have := List.all_eq_true.1 hh [if z = z then AV.own id 0 k else X9 z (F z)] (List.mem_map.2 ⟨z, List.mem_range.2 h, rfl⟩)
 simp [AV.plain] at this
def aU (F : Nat → List Int) (z : Nat) (l : List Int) : Nat → List Int := fun y => if y = z then l else F y
theorem nJ {t t' : List AV} {h : List (Nat × RS)} {nx n z x : Nat} {F : Nat → List Int} {v : Int} {rows : List Row} (keep ids : List Nat) (r : Nat → Option Nat)
   (hr : r = fun id => match s5 ids 0 id with | some j => some j | none => if id = x then some (100 + z) else if 100 ≤ id ∧ id < 100 + n ∧ F (id - 100) ≠ [] ∧ id ≠ 100 + z then some id else none)
   (hnd : ids.Nodup) (hi : ∀ id ∈ ids, id < 100 ∨ 100 + n ≤ id) (hb : ids.length ≤ 100) (hx : 100 + n ≤ x ∧ x ∉ ids) (hz : z < n) (hn : n ≤ 100)
   (ht : n3 keep r 0 t = some t')
   (hp : a7 (LS.hf h) r ids = some rows)
   (hnew : LS.hf h x = .live ⟨1, e7 (F z ++ [v]), 0⟩)
   (hold : ∀ y, y < n → y ≠ z → LS.hf h (100 + y) = fJ (F y)) :
   Q9 ⟨t, h, nx⟩ ⟨t', j3 0 rows ++ tW n (aU F z (F z ++ [v])), 200⟩ := by
 have hni : ∀ id, 100 ≤ id → id < 100 + n → s5 ids 0 id = none := by
   intro id h1 h2
   unfold s5
   rw [List.idxOf?_eq_none_iff.2 (fun hm => by rcases hi id hm with h | h <;> omega)]; rfl
 have hnx : s5 ids 0 x = none := by
   unfold s5
   rw [List.idxOf?_eq_none_iff.2 hx.2]; rfl
 refine wQ keep ids n (fun y => fJ (aU F z (F z ++ [v]) y)) 100 r (fun y => if y = z then x else 100 + y) hnd (fun id j h => by rw [hr]; simp only [h]) (fun id j h hj => ?_) ht hp hb (fun y hy => ?_) (fun a b r1 r2 ha hb' h1 h2 e => ?_) 200 (by omega)
 · rw [hr] at hj
   simp only [h] at hj
   by_cases h1 : id = x
   · rw [if_pos h1] at hj
     cases hj
     refine ⟨z, hz, rfl, by simp [h1], ⟨1, e7 (F z ++ [v]), 0⟩, ?_⟩
     simp [fJ, aU]
   · rw [if_neg h1] at hj
     split at hj
     · rename_i h2
       cases hj
       refine ⟨id - 100, by omega, by omega, ?_, ⟨1, e7 (F (id - 100)), 0⟩, ?_⟩
       · rw [if_neg (by omega)]; omega
       · simp only [aU]
         rw [if_neg (by omega)]
         unfold fJ; rw [if_neg h2.2.2.1]
     · cases hj
 · by_cases e : y = z
   · subst e
     refine .inr ⟨⟨1, e7 (F y ++ [v]), 0⟩, by simp [fJ, aU], by simp [hx.2], ⟨1, e7 (F y ++ [v]), 0⟩, by simp only [if_true]; exact hnew, ?_⟩
     unfold e6; simp only; rw [if_pos (r6 _)]
   · by_cases hF : F y = []
     · left; simp [aU, e, hF, fJ]
     · refine .inr ⟨⟨1, e7 (F y), 0⟩, by simp [fJ, aU, e, hF], ?_, ⟨1, e7 (F y), 0⟩, ?_, ?_⟩
       · rw [if_neg e]; intro hm
         rcases hi _ hm with h | h <;> omega
       · rw [if_neg e, hold y hy e]; simp [fJ, hF]
       · unfold e6; simp only; rw [if_pos (r6 _)]
 · split at e <;> split at e <;> omega
theorem iP {n z x : Nat} {F : Nat → List Int} {v : Int} {r : Nat → Option Nat} (hz : z < n) (hrx : r x = some (100 + z)) (hro : ∀ y, y < n → y ≠ z → F y ≠ [] → r (100 + y) = some (100 + y)) :
   ((List.range n).map fun y => [if y = z then AV.own x 0 ((F z).length + 1) else X9 y (F y)]).mapM (fun (e : List AV) => e.mapM (m8 r 3)) = some (T1 n (aU F z (F z ++ [v]))) := by
 unfold T1
 refine mB fun y hy => ?_
 by_cases e : y = z
 · subst e
   simp [m8, hrx, aU, X9]
 · by_cases hF : F y = []
   · simp [e, m8, aU, X9, hF]
   · simp [e, m8, aU, X9, hF, hro y hy e hF]
theorem eS {t t' : List AV} {h : List (Nat × RS)} {nx n : Nat} {F : Nat → List Int} {rows : List Row} (keep ids : List Nat) (r : Nat → Option Nat)
   (hr : r = fun id => match s5 ids 0 id with | some j => some j | none => if 100 ≤ id ∧ id < 100 + n ∧ F (id - 100) ≠ [] then some id else none)
   (hnd : ids.Nodup) (hi : ∀ id ∈ ids, id < 100 ∨ 100 + n ≤ id) (hb : ids.length ≤ 100) (hn : n ≤ 100)
   (ht : n3 keep r 0 t = some t')
   (hp : a7 (LS.hf h) r ids = some rows)
   (hold : ∀ y, y < n → F y ≠ [] → LS.hf h (100 + y) = fJ (F y)) :
   Q9 ⟨t, h, nx⟩ ⟨t', j3 0 rows ++ tW n F, 200⟩ := by
 refine wQ keep ids n (fun y => fJ (F y)) 100 r (fun y => 100 + y) hnd (fun id j h => by rw [hr]; simp only [h]) (fun id j h hj => ?_) ht hp hb (fun y hy => ?_) (fun a b r1 r2 ha hb' h1 h2 e => ?_) 200 (by omega)
 · rw [hr] at hj
   simp only [h] at hj
   split at hj
   · rename_i h2
     cases hj
     refine ⟨id - 100, by omega, by omega, by omega, ⟨1, e7 (F (id - 100)), 0⟩, ?_⟩
     unfold fJ; rw [if_neg h2.2.2]
   · cases hj
 · by_cases hF : F y = []
   · left; simp [hF, fJ]
   · refine .inr ⟨⟨1, e7 (F y), 0⟩, by simp [fJ, hF], ?_, ⟨1, e7 (F y), 0⟩, ?_, ?_⟩
     · intro hm
       rcases hi _ hm with h | h <;> omega
     · rw [hold y hy hF]; simp [fJ, hF]
     · unfold e6; simp only; rw [if_pos (r6 _)]
 · omega
theorem cU {n : Nat} {F : Nat → List Int} {r : Nat → Option Nat} (hro : ∀ y, y < n → F y ≠ [] → r (100 + y) = some (100 + y)) :
   (T1 n F).mapM (fun (e : List AV) => e.mapM (m8 r 3)) = some (T1 n F) := by
 unfold T1
 refine mB fun y hy => ?_
 by_cases hF : F y = []
 · simp [m8, X9, hF]
 · simp [m8, X9, hF, hro y hy hF]
theorem E1 (n : Nat) (F : Nat → List Int) (id : Nat) (h : id < 100 ∨ 100 + n ≤ id) : (tW n F).lookup id = none := D6 100 n _ id h
theorem x6 (n : Nat) (F : Nat → List Int) (z : Nat) (h : z < n) : (tW n F).lookup (100 + z) = some (fJ (F z)) := nH 100 n _ z h
theorem Z6 {s s1 s2 : LS} (h : Q9 s s1) (e : s1 = s2) : Q9 s s2 := e ▸ h
noncomputable def todoI (c : Code) (i : Nat) : List Int := ((List.range i).filter fun b => (reachF c.b).getD b false).map fun (b : Nat) => (b : Int)
noncomputable def fromI (c : Code) (i : Nat) (z : Nat) : List Int := ((List.range i).filter fun b => (reachF c.b).getD b false && decide ((z : Int) ∈ c8 (F3 c.b b).t)).map fun (b : Nat) => (b : Int)
noncomputable def fromJ (c : Code) (l : List Int) (i j : Nat) (z : Nat) : List Int := fromI c i z ++ if (z : Int) ∈ l.take j then [(i : Int)] else []
theorem a9n {c : Code} {i : Nat} (h : (reachF c.b).getD i false = true) : todoI c (i + 1) = todoI c i ++ [(i : Int)] := by
 unfold todoI; rw [List.range_succ, List.filter_append]; simp only [List.filter_cons, List.filter_nil, h, if_true, List.map_append, List.map_cons, List.map_nil]
theorem b2d {c : Code} {i : Nat} (h : (reachF c.b).getD i false = false) : todoI c (i + 1) = todoI c i := by
 unfold todoI; rw [List.range_succ, List.filter_append]; simp only [List.filter_cons, List.filter_nil, h, Bool.false_eq_true, if_false, List.append_nil]
theorem b0v {c : Code} {i : Nat} (h : (reachF c.b).getD i false = false) : fromI c (i + 1) = fromI c i := by
 funext z; unfold fromI; rw [List.range_succ, List.filter_append]; simp only [List.filter_cons, List.filter_nil, h, Bool.false_and, Bool.false_eq_true, if_false, List.append_nil]
theorem a8q {c : Code} {i : Nat} (h : (reachF c.b).getD i false = true) {j : Nat} (hj : (c8 (F3 c.b i).t).length ≤ j) : fromJ c (c8 (F3 c.b i).t) i j = fromI c (i + 1) := by
 funext z; unfold fromJ fromI
 rw [List.take_of_length_le hj, List.range_succ, List.filter_append, List.map_append]
 congr 1
 by_cases hz : (z : Int) ∈ c8 (F3 c.b i).t
 · simp only [List.filter_cons, List.filter_nil, h, hz, if_true, decide_true, Bool.and_self, List.map_cons, List.map_nil]
 · simp only [List.filter_cons, List.filter_nil, h, hz, if_false, decide_false, Bool.and_false, Bool.false_eq_true, List.map_nil]
theorem a5g (c : Code) (l : List Int) (i : Nat) : fromJ c l i 0 = fromI c i := by funext z; simp [fromJ]
theorem wJ (t : u2) : (c8 t).Nodup := by
 unfold c8
 split
 · simp
 · split
   · rename_i h; simp [h.2]
   · simp
theorem tY {c : Code} {l : List Int} {i j : Nat} (hnd : l.Nodup) (hj : j < l.length) (h0 : 0 ≤ l.getD j 0) : fromJ c l i (j + 1) = aU (fromJ c l i j) (l.getD j 0).toNat (fromJ c l i j (l.getD j 0).toNat ++ [(i : Int)]) := by
 have hg : l.getD j 0 = l[j] := by rw [List.getD_eq_getElem?_getD, List.getElem?_eq_getElem hj]; rfl
 have hnt : l[j] ∉ l.take j := by
   intro hm
   obtain ⟨k, hk, e⟩ := List.mem_iff_getElem.1 hm
   rw [List.getElem_take] at e
   simp at hk
   exact List.pairwise_iff_getElem.1 hnd k j (by omega) hj (by omega) e
 have ht : l.take (j + 1) = l.take j ++ [l[j]] := by rw [List.take_add_one, List.getElem?_eq_getElem hj]; rfl
 rw [hg] at h0 ⊢
 funext z
 unfold aU fromJ
 rw [ht]
 by_cases e : z = l[j].toNat
 · rw [if_pos e]
   have e2 : (z : Int) = l[j] := by omega
   have e3 : ((l[j].toNat : Nat) : Int) = l[j] := by omega
   rw [e2, e3, if_neg hnt, if_pos (List.mem_append.2 (.inr (List.mem_singleton.2 rfl))), e, List.append_nil]
 · rw [if_neg e]
   have e2 : (z : Int) ≠ l[j] := by omega
   simp only [List.mem_append, List.mem_singleton, e2, or_false]
theorem a3d (p : Nat → Bool) (i : Nat) : (((List.range i).filter p).map fun (b : Nat) => (b : Int)).length ≤ i := by
 rw [List.length_map]
 have := List.length_filter_le p (List.range i)
 rw [List.length_range] at this; exact this
theorem a0C (c : Code) (i : Nat) : (todoI c i).length ≤ i := a3d _ i
theorem pD (c : Code) (i z : Nat) : (fromI c i z).length ≤ i := a3d _ i
theorem zT (c : Code) (l : List Int) (i j z : Nat) : (fromJ c l i j z).length ≤ i + 1 := by
 unfold fromJ
 have := pD c i z
 rw [List.length_append]
 split <;> simp <;> omega
theorem b2i (id i k : Nat) (cs : List AV) (n : Nat) (F : Nat → List Int) (h : id < 100 ∨ 100 + n ≤ id) : L8 id i k cs (tW n F) = tW n F := a7P id i k cs 100 n _ h
theorem xD (id n : Nat) (F : Nat → List Int) (h : id < 100 ∨ 100 + n ≤ id) : cO id (tW n F) = tW n F := a04 id 100 n _ h
theorem a5s (z n : Nat) (F : Nat → List Int) : cO (100 + z) (tW n F) = iS 100 n (fun y => if y = z then .gone else fJ (F y)) := a8F z 100 n _
theorem a4Y (n : Nat) : List.replicate n [AV.b7 true []] = T1 n (fun _ => []) := by
 apply List.ext_getElem?
 intro j
 simp only [T1, X9, if_true, List.getElem?_map]
 by_cases h : j < n
 · rw [List.getElem?_range h]; simp [h]
 · rw [List.getElem?_eq_none (by simp; omega), List.getElem?_eq_none (by simp; omega)]; rfl
theorem a9q {t t' : List AV} {h : List (Nat × RS)} {nx : Nat} {rows : List Row} (keep ids : List Nat) (hnd : ids.Nodup) (ht : n3 keep (s5 ids 0) 0 t = some t') (hp : a7 (LS.hf h) (s5 ids 0) ids = some rows) (nx' : Nat) (hx : ids.length ≤ nx') :
   Q9 ⟨t, h, nx⟩ ⟨t', j3 0 rows, nx'⟩ := by
 have := wQ (s := ⟨t, h, nx⟩) (rows := rows) keep ids 0 (fun _ => .gone) ids.length (s5 ids 0) (fun z => z) hnd (fun id j h => h) (fun id j h hj => by rw [h] at hj; cases hj) ht hp (Nat.le_refl _) (fun z hz => by omega) (fun y z r1 r2 hy => by omega) nx' hx
 simpa [iS] using this
theorem jW {h1 h2 : Nat → RS} {r : Nat → Option Nat} : ∀ {ids : List Nat}, (∀ id ∈ ids, h1 id = h2 id) → a7 h1 r ids = a7 h2 r ids
 | [], _ => rfl
 | id :: ids, h => by
   simp only [a7]
   rw [h id (by simp), jW fun j hj => h j (by simp [hj])]
theorem a8s {h : Nat → RS} {n m : Nat} {F : Nat → List Int} (h4 : h 4 = .live ⟨1, T1 n F, 0⟩) (hn : 0 < n) (hold : ∀ z, z < n → F z ≠ [] → h (100 + z) = .live ⟨1, e7 (F z), 0⟩) :
   D8 h (m + 2) (.own 4 0 n) = some (.b7 false (lists ((List.range n).map F))) ∧ ∀ p ∈ a8 h (m + 2) (.own 4 0 n), p.1 = 4 ∨ 100 ≤ p.1 := by
 have hl := tT n F
 have hpl := aN n F hn
 constructor
 · simp only [D8, h4]
   rw [if_pos (by omega), List.drop_zero, List.take_of_length_le (by omega)]
   simp only [w8, hpl, Bool.false_eq_true, if_false]
   have : (T1 n F).mapM (fun (e : List AV) => e.mapM (D8 h (m + 1))) = some ((List.range n).map fun z => [AV.b7 false (e7 (F z))]) := by
     unfold T1
     refine mB fun z hz => ?_
     by_cases hF : F z = []
     · simp [X9, hF, D8, e7]
     · simp only [X9, if_neg hF, List.mapM_cons, List.mapM_nil, D8, hold z hz hF, Nat.zero_add, u7, Nat.le_refl, if_true, List.drop_zero, B1]
       have := c6 (F z)
       simp [w8, this]
   rw [this]
   simp [lists, Function.comp_def]
 · intro p hp
   simp only [a8, h4, List.mem_cons] at hp
   rcases hp with rfl | hp
   · exact .inl rfl
   · right
     rw [List.drop_zero, List.take_of_length_le (by omega)] at hp
     simp only [w8, hpl, Bool.false_eq_true, if_false, List.mem_flatMap] at hp
     obtain ⟨e, he, x, hx, hp⟩ := hp
     simp only [T1, List.mem_map, List.mem_range] at he
     obtain ⟨z, hz, rfl⟩ := he
     rw [List.mem_singleton] at hx
     subst hx
     unfold X9 at hp
     split at hp
     · simp [a8] at hp
     · rename_i hF
       simp only [a8, hold z hz hF, List.mem_cons] at hp
       rcases hp with rfl | hp
       · simp
       · rw [List.drop_zero, B1] at hp
         have := c6 (F z)
         simp [w8, this] at hp
theorem b2C {t t' : List AV} {h : List (Nat × RS)} {nx n : Nat} {F : Nat → List Int} {rows : List Row} (keep ids : List Nat) (hn : 0 < n) (h7 : LS.tf t 7 = .own 4 0 n) (h4 : LS.hf h 4 = .live ⟨1, T1 n F, 0⟩)
   (hold : ∀ z, z < n → F z ≠ [] → LS.hf h (100 + z) = .live ⟨1, e7 (F z), 0⟩) (hnd : ids.Nodup) (hid : ∀ id ∈ ids, id ≠ 4 ∧ id < 100)
   (ht : n3 keep (s5 ids 0) 0 (t.set 7 (.b7 false (lists ((List.range n).map F)))) = some t') (hp : a7 (LS.hf h) (s5 ids 0) ids = some rows) : Q9 ⟨t, h, nx⟩ ⟨t', j3 0 rows, ids.length⟩ := by
 obtain ⟨f1, f2⟩ := a8s (m := 4) h4 hn hold
 have w1 := a4u (s := ⟨t, h, nx⟩) 7 6 (.b7 false (lists ((List.range n).map F))) (by show D8 (LS.hf h) 6 (LS.tf t 7) = _; rw [h7]; exact f1)
 simp only [h7] at w1
 generalize a8 (LS.hf h) 6 (.own 4 0 n) = fi at *
 intro G M0 w0 ρ a w R
 obtain ⟨ρ1, R1⟩ := w1 G M0 w0 ρ a w R
 refine a9q keep ids hnd ht ?_ ids.length (Nat.le_refl _) G M0 w0 ρ1 a w R1
 rw [← hp]
 refine jW fun id hi => ?_
 obtain ⟨d1, d2⟩ := hid id hi
 rw [kO]
 unfold raise
 cases hh : LS.hf h id with
 | live r =>
   simp only
   rw [b0u (fun p hp => by rcases f2 p hp with e | e <;> omega)]
 | _ => rfl
end Go.Proofs.YtfccigmfcpimgaaDoor
end
