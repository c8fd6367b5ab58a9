/- Own work (by an AI agent; no person has read it): part of a proof of the seat YtfccigmfcpimgaaDoor. -/
import Derived.Laws.StructEq
import Derived.ChangeKeysEq
import Derived.Test.YtfccigmfcpimgaaDoorRows
import Derived.Test.YtfccigmfcpimgaaDoorXa
set_option linter.unusedSimpArgs false
set_option linter.unusedVariables false
section
namespace Go.Ab
open Go.RowKit (Below)
section
def AV.kC : AV := .v undef
def a0X (ops : List Oper) (o : Oper) (s : LS) (Kw Ks : LS → Prop) : Prop :=
 match o.guard with
 | none => Kw s
 | some (j, want) => match (ops[j]?).bind (·.dst) with
   | some d => (∃ b, LS.tf s.t d = .v (.bool b) ∧ (b = want → Kw (s.put (some d) (.v (.bool want)))) ∧ (b = (!want) → Ks (s.put (some d) (.v (.bool (!want)))))) ∨ (LS.tf s.t d = AV.kC ∧ Ks s)
   | none => False
def gH {md : Bool} (P : Program) [j5 P] (c : Code) (s : LS) (K : Exit → LS → Prop) : Prop :=
 ∀ (m : Option Nat), (md = false → m = none) → ∀ (G : Gh) (M0 : Nat → Nat → Prop) (w0 : World) (ρ : Nat → Option (Nat × Nat × Nat)) (a : Act) (w : World) (Q : Exit → Act → World → Prop), j5.ok P w0 → F6 G M0 w0 s ρ a w →
   (∀ Ds e s' ρ' a' w', jJ w0 G Ds → K e s' → F6 (aC G Ds) M0 w0 s' ρ' a' w' → Q e a' w') → c.wpIn (bY m) 0 P Q a w
def a3p (fn : Func) (xs : List AV) (k : Nat) (keep : List Nat) (s : LS) : LS :=
 ⟨xs ++ List.replicate (fn.ntmps - xs.length) .dead, s.h ++ [(s.nx, .B3 k (keep.map (LS.tf s.t)))], s.nx + 8⟩
def H3 (P : Program) (fn : Func) (k : Nat) (keep : List Nat) (t : List AV) (d : Option Tmp) (K : LS → Prop) (e : Exit) (s' : LS) : Prop :=
 (match e with | .normal | .ret => True | _ => False) ∧ ∃ x, xH P s'.n9 fn.results.toList = some x ∧
   match x9 k s'.h with
   | some (id, cs) => LS.hf s'.h id = .B3 k cs ∧ l7 k (D5 id s'.h) ∧ K (LS.put ⟨u6 (Z4 t) keep cs, D5 id s'.h, s'.nx⟩ d x)
   | none => False
def x5 (b : Nat) (d : TypeDesc) (f : Value → Option Value) : RS → RS
 | .mp b' d' f' => if b' = b then .mp b d f else .mp b' d' f'
 | x => x
def jH (b : Nat) (d : TypeDesc) (f : Value → Option Value) : List (Nat × RS) → List (Nat × RS)
 | [] => []
 | p :: l => (p.1, x5 b d f p.2) :: jH b d f l
theorem nK (b : Nat) (d : TypeDesc) (f : Value → Option Value) (l : List (Nat × RS)) (id : Nat) : LS.hf (jH b d f l) id = x5 b d f (LS.hf l id) := by
 simp only [LS.hf]
 induction l with
 | nil => rfl
 | cons p l ih =>
   obtain ⟨i, x⟩ := p
   simp only [jH, List.lookup_cons]
   cases h : (id == i) with
   | true => rfl
   | false => exact ih
theorem b3r {b : Nat} {d : TypeDesc} {f : Value → Option Value} {n : Nat} {l : List (Nat × RS)} (h : ∀ p ∈ l, p.1 < n) : ∀ p ∈ jH b d f l, p.1 < n := by
 induction l with
 | nil => intro p hp; cases hp
 | cons q l ih =>
   intro p hp
   simp only [jH, List.mem_cons] at hp
   rcases hp with rfl | hp
   · exact h q (by simp)
   · exact ih (fun p hp => h p (List.mem_cons_of_mem _ hp)) p hp
def mH (id : Nat) (x : RS) : List (Nat × RS) → List (Nat × RS)
 | [] => []
 | p :: l => (if p.1 = id then (p.1, x) else p) :: mH id x l
theorem b2K {id : Nat} {x y : RS} {l : List (Nat × RS)} (h : LS.hf l id = y) (hy : y ≠ .free) : LS.hf (mH id x l) = n7 (LS.hf l) id x := by
 funext i
 have key : (mH id x l).lookup i = if i = id then (l.lookup i).map (fun _ => x) else l.lookup i := by
   clear h
   induction l with
   | nil => simp [mH]
   | cons p l ih =>
     obtain ⟨j, z⟩ := p
     simp only [mH]
     by_cases h1 : j = id
     · subst h1
       rw [if_pos rfl]
       by_cases h2 : i = j
       · subst h2; simp
       · have : (i == j) = false := by simpa using h2
         simp only [List.lookup_cons, this]
         rw [ih, if_neg h2]
     · rw [if_neg h1]
       by_cases h2 : i = j
       · subst h2; simp [h1]
       · have : (i == j) = false := by simpa using h2
         simp only [List.lookup_cons, this]
         exact ih
 simp only [LS.hf, key, n7]
 by_cases hi : i = id
 · subst hi
   rw [if_pos rfl, if_pos rfl]
   cases hl : l.lookup i with
   | none => simp only [LS.hf, hl] at h; exact absurd h.symm hy
   | some v => rfl
 · rw [if_neg hi, if_neg hi]
theorem b3k {id : Nat} {x : RS} {n : Nat} {l : List (Nat × RS)} (h : ∀ p ∈ l, p.1 < n) : ∀ p ∈ mH id x l, p.1 < n := by
 induction l with
 | nil => intro p hp; cases hp
 | cons q l ih =>
   intro p hp
   simp only [mH, List.mem_cons] at hp
   rcases hp with rfl | hp
   · have := h q (by simp)
     split <;> exact this
   · exact ih (fun p hp => h p (List.mem_cons_of_mem _ hp)) p hp
def xL (P : Program) [j5 P] (f : FuncId) (xs : List AV) (s : LS) (K : AV → LS → Prop) : Prop :=
 gQ P f ∧ ∀ (G : Gh) (M0 : Nat → Nat → Prop) (w0 : World) (ρ : Nat → Option (Nat × Nat × Nat)) (a : Act) (w : World) (args : Array Value), j5.ok P w0 → F6 G M0 w0 s ρ a w → RC (u1 M0 ρ s.n9.h) ρ w xs args →
   Calls P f args w fun e w' => ∃ v x s' ρ', e = .returned v ∧ K x s' ∧ F6 G M0 w0 s' ρ' a w' ∧ u3 (u1 M0 ρ' s'.n9.h) ρ' w' x v
theorem xL.mono {P : Program} [j5 P] {f : FuncId} {xs : List AV} {s : LS} {K K' : AV → LS → Prop} (h : xL P f xs s K) (hK : ∀ x s, K x s → K' x s) : xL P f xs s K' :=
 ⟨h.1, fun G M0 w0 ρ a w args h1 h2 h3 => (h.2 G M0 w0 ρ a w args h1 h2 h3).mono fun _ _ ⟨v, x, s', ρ', h1, h2, h3⟩ => ⟨v, x, s', ρ', h1, hK _ _ h2, h3⟩⟩
def inl (P : Program) [j5 P] (o : Oper) (s : LS) (K : LS → Prop) : Prop :=
 match o.op with
 | .call c => match c.callee with
   | .value fv => (∃ f M7 fn body k keep, s.n9.ev fv = .fn f M7 ∧ P.funcs[f]? = some fn ∧ fn.body = some body ∧ (fn.name == "runtime.NumGoroutine") = false ∧ l7 k s.h ∧
       gH (md := false) P body (a3p fn (c.args.toList.map s.n9.ev ++ M7) k keep s) (H3 P fn k keep s.t o.dst K)) ∨
       ∃ f M7, s.n9.ev fv = .fn f M7 ∧ xL P f (c.args.toList.map s.n9.ev ++ M7) s (fun x s' => K (s'.put o.dst x))
   | .builtin .clear => ∃ x t E id off n r, c.args = #[x] ∧ c.argTypes = #[t] ∧ td P t = some (.slice E) ∧ E.zero.all Value.oneCell' = true ∧ s.n9.ev x = .own id off n ∧ LS.hf s.h id = .live r ∧ r.sz = E.size ∧ off + n ≤ r.es.length ∧ r.fro ≤ off ∧
       K { s.put o.dst (.Q8 []) with h := mH id (.live { r with es := W6 r.es off n r.sz }) s.h }
   | _ => False
 | .makeMap t none => ∃ d z, tm P t = some (d, z) ∧ ∀ b, K ⟨(s.put o.dst (.v (.map (some b)))).t, s.h ++ [(s.nx, .mp b d fun _ => none)], s.nx + 8⟩
 | .lookup t m k c => ∃ d z b kv f id, tm P t = some (d, z) ∧ s.n9.ev m = .v (.map (some b)) ∧ s.n9.ev k = .v kv ∧ Go.MapKept.IsKey d kv ∧ LS.hf s.h id = .mp b d f ∧
     K (s.put o.dst (if c then .Q8 [.v ((f kv).getD z), .v (.bool (f kv).isSome)] else .v ((f kv).getD z)))
 | .mapUpdate t m k v => ∃ d z b kv xv f id, tm P t = some (d, z) ∧ s.n9.ev m = .v (.map (some b)) ∧ s.n9.ev k = .v kv ∧ s.n9.ev v = .v xv ∧ Go.MapKept.IsKey d kv ∧ LS.hf s.h id = .mp b d f ∧
     K { s.put o.dst .dead with h := jH b d (aU f kv xv) s.h }
 | _ => False
def cK (P : Program) [j5 P] (ops : List Oper) : List Oper → LS → (LS → Prop) → Prop
 | [], s, K => K s
 | o :: rest, s, K => a0X ops o s
     (fun s => P9 s.n9 o.dst ∧ ((∃ fx, ex P o s.n9 s.nx fx ∧ cK P ops rest (s.dI o.dst fx) K) ∨ inl P o s (fun s' => cK P ops rest s' K)))
     (fun s => P9 s.n9 o.dst ∧ cK P ops rest (s.put o.dst AV.kC) K)
section
variable {G : Gh} {M0 : Nat → Nat → Prop} {w0 : World} {s : LS} {ρ : Nat → Option (Nat × Nat × Nat)} {a : Act} {w : World} {P : Program} {Q : Exit → Act → World → Prop} {M : Nat → Nat → Prop}
theorem F6.put (R : F6 G M0 w0 s ρ a w) {d : Option Tmp} {x : AV} {v : Value} (hd : P9 s.n9 d) (hv : u3 (u1 M0 ρ s.n9.h) ρ w x v) : F6 G M0 w0 (s.put d x) ρ (a.put d v) w := by
 refine ⟨?_, ?_⟩
 · rw [LS.fA hd]; exact R.1.pure hd hv
 · cases d <;> exact R.2
theorem b1H {l : List AV} {d : Nat} {x : AV} (h : LS.tf l d = x) : (if d < l.length then l.set d x else l) = l := by
 split
 · rename_i hd
   apply List.ext_getElem?
   intro i
   rw [List.getElem?_set]
   split
   · rename_i h2
     subst h2
     simp only [LS.tf, List.getD_eq_getElem?_getD] at h
     rw [List.getElem?_eq_getElem hd] at h ⊢
     simpa using h.symm
   · rfl
 · rfl
theorem oC {d : Nat} {x : AV} (h : LS.tf s.t d = x) : s.put (some d) x = s := by
 have := b1H h
 simp only [LS.put]
 by_cases hd : d < s.t.length
 · rw [if_pos hd] at this; rw [this]
 · rw [List.set_eq_of_length_le (by omega)]
theorem a3k (R : F6 G M0 w0 s ρ a w) {ops : List Oper} {o : Oper} {Kw Ks : LS → Prop} (h : a0X ops o s Kw Ks) : (Region.wanted o (yielded ops.toArray a.tmps) = true ∧ Kw s) ∨ (Region.wanted o (yielded ops.toArray a.tmps) = false ∧ Ks s) := by
 unfold a0X at h
 unfold Region.wanted
 cases hg : o.guard with
 | none => rw [hg] at h; exact .inl ⟨rfl, h⟩
 | some p =>
   obtain ⟨j, want⟩ := p
   rw [hg] at h
   simp only at h ⊢
   split at h
   · rename_i d hd
     rcases h with h | ⟨hb, h1⟩
     case inr =>
       refine .inr ⟨?_, h1⟩
       have hy : yielded ops.toArray a.tmps j = none := by
         have := R.1.tm d
         simp only [LS.n9] at this
         rw [hb] at this
         have := this.X5
         unfold yielded
         simp only [List.getElem?_toArray, hd, Option.bind_some]
         by_cases hlt : d < a.tmps.size
         · simp [hlt] at this ⊢
           rw [this]; rfl
         · simp [hlt]
       rw [hy]; rfl
     obtain ⟨b, hb, h1, h2⟩ := h
     have hy : yielded ops.toArray a.tmps j = some b := by
       have := R.1.tm d
       simp only [LS.n9] at this
       rw [hb] at this
       have := this.X5
       unfold yielded
       simp only [List.getElem?_toArray, hd, Option.bind_some]
       have hn := R.1.n
       by_cases hlt : d < a.tmps.size
       · simp [hlt] at this ⊢
         rw [this]
       · simp [hlt, undef] at this
     rw [hy]
     by_cases hbw : b = want
     · refine .inl ⟨by simp [hbw], ?_⟩
       have := h1 hbw
       rwa [oC (by rw [hb, hbw])] at this
     · have hbn : b = !want := by cases b <;> cases want <;> simp_all
       refine .inr ⟨by simp [hbw], ?_⟩
       have := h2 hbn
       rwa [oC (by rw [hb, hbn])] at this
   · exact h.elim
theorem a0Z {l : List (Nat × RS)} {nx : Nat} {x : RS} (h : ∀ p ∈ l, p.1 < nx) (id : Nat) : LS.hf (l ++ [(nx, x)]) id = if id = nx then x else LS.hf l id := by
 simp only [LS.hf, lookup_append]
 by_cases hid : id = nx
 · subst hid
   rw [pT h (Nat.le_refl _)]
   simp
 · rw [if_neg hid]
   cases hl : l.lookup id with
   | some y => rfl
   | none =>
     have : (id == nx) = false := by simpa using hid
     simp only [List.lookup_cons, this, List.lookup_nil]
theorem a3m (id : Nat) (l : List (Nat × RS)) (id' : Nat) (hl : LS.hf l id ≠ .free) : LS.hf (D5 id l) id' = if id' = id then .gone else LS.hf l id' := by
 have key : (D5 id l).lookup id' = if id' = id then (l.lookup id').map (fun _ => RS.gone) else l.lookup id' := by
   clear hl
   induction l with
   | nil => simp [D5]
   | cons p l ih =>
     obtain ⟨i, x⟩ := p
     simp only [D5]
     by_cases h1 : i = id
     · subst h1
       rw [if_pos rfl]
       by_cases h2 : id' = i
       · subst h2; simp
       · simp only [if_neg h2] at ih ⊢
         have : (id' == i) = false := by simpa using h2
         simp only [List.lookup_cons, this]
         exact ih
     · rw [if_neg h1]
       by_cases h2 : id' = i
       · subst h2; simp [h1]
       · have : (id' == i) = false := by simpa using h2
         simp only [List.lookup_cons, this]
         exact ih
 simp only [LS.hf, key]
 by_cases h : id' = id
 · subst h
   simp only [LS.hf] at hl
   cases hh : l.lookup id' with
   | none => rw [hh] at hl; exact absurd rfl hl
   | some y => simp
 · simp [h]
theorem kM {k : Nat} : ∀ {l : List (Nat × RS)}, l7 k l → ∀ {id k' : Nat} {cs : List AV}, LS.hf l id = .B3 k' cs → k' ≠ k := by
 intro l
 induction l with
 | nil => intro _ id k' cs h; simp [LS.hf] at h
 | cons p l ih =>
   obtain ⟨i, x⟩ := p
   intro hf id k' cs h
   have hl : l7 k l := by
     cases x <;> simp only [l7] at hf <;> first | exact hf | exact hf.2
   simp only [LS.hf, List.lookup_cons] at h
   split at h
   · simp only [Option.getD_some] at h
     subst h
     simp only [l7] at hf
     exact hf.1
   · exact ih hl h
theorem dH {h h' : Nat → RS} (hh : ∀ id r, h' id = .live r ↔ h id = .live r) : u1 M0 ρ h' = u1 M0 ρ h := by
 funext b o
 refine propext (or_congr Iff.rfl ⟨?_, ?_⟩)
 · rintro ⟨id, r, β, z, h1, h2, h3⟩; exact ⟨id, r, β, z, (hh id r).1 h1, h2, h3⟩
 · rintro ⟨id, r, β, z, h1, h2, h3⟩; exact ⟨id, r, β, z, (hh id r).2 h1, h2, h3⟩
theorem a2O {M : Nat → Nat → Prop} {ts : Array Value} : ∀ (keep : List Nat) (t cs : List AV), (∀ i, u3 M ρ w (LS.tf t i) (ts.getD i undef)) → (∀ (i : Nat) x, cs[i]? = some x → i < keep.length → u3 M ρ w x (ts.getD (keep.getD i 0) undef)) →
   (u6 t keep cs).length = t.length ∧ ∀ i, u3 M ρ w (LS.tf (u6 t keep cs) i) (ts.getD i undef) := by
 intro keep
 induction keep with
 | nil => intro t cs h1 _; exact ⟨by simp [u6], by simpa [u6] using h1⟩
 | cons j js ih =>
   intro t cs h1 h2
   cases cs with
   | nil => exact ⟨by simp [u6], by simpa [u6] using h1⟩
   | cons x xs =>
     simp only [u6]
     obtain ⟨g1, g2⟩ := ih (t.set j x) xs (fun i => by
       simp only [LS.tf, List.getD_eq_getElem?_getD, List.getElem?_set]
       by_cases hij : j = i
       · subst hij
         rw [if_pos rfl]
         split
         · exact h2 0 x rfl (by simp)
         · exact .dead _
       · rw [if_neg hij]
         have := h1 i
         simp only [LS.tf, List.getD_eq_getElem?_getD] at this
         exact this) (fun i y hy hi => by
       have := h2 (i + 1) y (by simpa using hy) (by simpa using hi)
       simpa using this)
     exact ⟨by rw [g1]; simp, g2⟩
theorem a3w (R : F6 G M0 w0 s ρ a w) (i : Nat) : u3 (u1 M0 ρ s.n9.h) (fun _ => none) w (LS.tf (Z4 s.t) i) (a.tmps.getD i undef) := by
 have h := R.1.tm i
 simp only [LS.n9] at h
 simp only [LS.tf, Z4, List.getD_eq_getElem?_getD, List.getElem?_map] at h ⊢
 cases hx : s.t[i]? with
 | none => exact .dead _
 | some x =>
   rw [hx] at h
   simp only [Option.map_some, Option.getD_some] at h ⊢
   split
   · rename_i hk; exact a8E 4 hk h
   · exact .dead _
theorem a2U {b : Nat} {es es' : Array MapEntry} {c c' : Nat} (hb : w.heap[b]? = some (.map es c)) (a : Addr) : ({ w with heap := w.heap.setIfInBounds b (.map es' c') } : World).cell? a = w.cell? a := by
 obtain ⟨h1, h2⟩ := Go.MapKept.heap_set (o' := .map es' c') hb
 unfold World.cell?
 by_cases e : a.block = b
 · simp only [e, h1, hb]
 · simp only [h2 _ e]
theorem a1r {b : Nat} {es es' : Array MapEntry} {c c' : Nat} (hb : w.heap[b]? = some (.map es c)) (r : Nat) : ({ w with heap := w.heap.setIfInBounds b (.map es' c') } : World).shape? r = w.shape? r := by
 obtain ⟨h1, h2⟩ := Go.MapKept.heap_set (o' := .map es' c') hb
 unfold World.shape?
 by_cases e : r = b
 · simp only [e, h1, hb]
 · simp only [h2 _ e]
theorem a0O {b n : Nat} {es es' : Array MapEntry} {c c' : Nat} {w0 : World} (h : Below n w0 w) (hb : w.heap[b]? = some (.map es c)) (hn : n ≤ b) : Below n w0 { w with heap := w.heap.setIfInBounds b (.map es' c') } := by
 obtain ⟨h1, h2⟩ := Go.MapKept.heap_set (o' := .map es' c') hb
 obtain ⟨g1, g2, g3, g4, g5⟩ := h
 refine ⟨g1, g2, g3, by simpa using g4, fun i hi => ?_⟩
 rw [show ({ w with heap := w.heap.setIfInBounds b (.map es' c') } : World).heap[i]? = w.heap[i]? from h2 i (by omega)]
 exact g5 i hi
theorem a1b (R : F6 G M0 w0 s ρ a w) {t : TypeId} {d : TypeDesc} {z kv xv : Value} {b id : Nat} {f : Value → Option Value} {dst : Option Tmp} (hd : P9 s.n9 dst) (ht : tm P t = some (d, z)) (hk : Go.MapKept.IsKey d kv) (hh : LS.hf s.h id = .mp b d f) :
   ∃ w', (Instr.mapUpdate t (.map (some b)) kv xv).run P w = .ok () w' ∧ F6 G M0 w0 { s.put dst .dead with h := jH b d (aU f kv xv) s.h } ρ (a.put dst undef) w' := by
 obtain ⟨hb0, hM⟩ := R.1.mR id b d f hh
 obtain ⟨es, c, h1, h2⟩ := b3s (x := xv) ht hM hk
 obtain ⟨es0, c0, hb, _⟩ := hM
 refine ⟨_, h1, ?_, ?_⟩
 · have hp : ({ s.put dst .dead with h := jH b d (aU f kv xv) s.h } : LS).n9 = { s.n9.put dst .dead with h := LS.hf (jH b d (aU f kv xv) s.h) } := by
     rw [← LS.fA hd]; cases dst <;> rfl
   rw [hp]
   have hl : ∀ id' r, LS.hf (jH b d (aU f kv xv) s.h) id' = .live r ↔ s.n9.h id' = .live r := by
     intro id' r
     rw [nK]
     show x5 b d _ (LS.hf s.h id') = .live r ↔ LS.hf s.h id' = .live r
     cases LS.hf s.h id' <;> simp only [x5] <;> (try split) <;> simp
   have hMo : u1 M0 ρ (LS.hf (jH b d (aU f kv xv) s.h)) = u1 M0 ρ s.n9.h := dH hl
   have hc : ∀ b' o v, ¬ u1 M0 ρ s.n9.h b' o → w.cell? ⟨b', o, none⟩ = some v → ¬ u1 M0 ρ (LS.hf (jH b d (aU f kv xv) s.h)) b' o ∧ ({ w with heap := w.heap.setIfInBounds b (.map es c) } : World).cell? ⟨b', o, none⟩ = some v := by
     intro b' o v g1 g2
     rw [hMo, a2U hb]; exact ⟨g1, g2⟩
   have hs : ∀ r p, w.shape? r = some p → ({ w with heap := w.heap.setIfInBounds b (.map es c) } : World).shape? r = some p := fun r p h => by rw [a1r hb]; exact h
   have hoth : ∀ b' x, w.heap[b']? = some x → b' ≠ b → ({ w with heap := w.heap.setIfInBounds b (.map es c) } : World).heap[b']? = some x := fun b' x h hne => by
     rw [← h]; exact (Go.MapKept.heap_set (o' := .map es c) hb).2 b' hne
   refine R.1.b1T hd (fun _ _ h => h) hc hs ?_ ?_ ?_ (a0O R.1.V4 hb hb0) ?_ ?_ (fun b' o hk h => hoth b' o h (fun e => by subst e; rw [R.1.pM id _ _ _ hh] at hk; cases hk)) (fun id' r p h hp => R.1.eG id' r p ((hl id' r).1 h) hp) (by
     intro id' b' d' f' h
     rw [nK] at h
     cases hx : LS.hf s.h id' <;> rw [hx] at h <;> simp only [x5] at h <;> try (cases h; done)
     rename_i b1 d1 f1
     have := R.1.pM id' b1 d1 f1 hx
     split at h
     · rename_i he; cases h; rw [← he]; exact this
     · cases h; exact this) (.dead _)
   · intro id' r h
     obtain ⟨b', β, arr, e, p1, p2, p3, p4, p5, p6⟩ := R.1.live id' r ((hl id' r).1 h)
     have hne : b' ≠ b := by intro e; subst e; rw [hb] at p3; cases p3
     exact ⟨b', β, arr, e, p1, p2, hoth _ _ p3 hne, p4, p5, fun i j e x u g1 g2 g3 => (p6 i j e x u g1 g2 g3).mono (fun _ _ h => h) hc hs⟩
   · intro id' h
     rw [nK] at h
     refine R.1.free id' ?_
     show LS.hf s.h id' = .free
     cases hx : LS.hf s.h id' <;> rw [hx] at h <;> simp only [x5] at h <;> (try split at h) <;> first | rfl | cases h
   · intro i1 i2 r1 r2 b' β β' z z' g1 g2 g3 g4
     exact R.1.inj _ _ _ _ _ _ _ _ _ ((hl _ _).1 g1) ((hl _ _).1 g2) g3 g4
   · intro id' k cs h
     rw [nK] at h
     show LS.hf s.h id' = .B3 k cs
     cases hx : LS.hf s.h id' <;> rw [hx] at h <;> simp only [x5] at h <;> (try split at h) <;> first | cases h | exact h
     rfl
   · intro id' b' d' f' h
     rw [nK] at h
     cases hx : LS.hf s.h id' <;> rw [hx] at h <;> simp only [x5] at h <;> try (cases h; done)
     rename_i b1 d1 f1
     obtain ⟨q1, q2⟩ := R.1.mR id' b1 d1 f1 hx
     split at h
     · rename_i he
       cases h
       exact ⟨hb0, h2⟩
     · rename_i he
       cases h
       refine ⟨q1, ?_⟩
       obtain ⟨es1, c1, m1, m2⟩ := q2
       exact ⟨es1, c1, hoth _ _ m1 he, m2⟩
 · intro p hp
   have : ∀ p ∈ s.h, p.1 < s.nx := R.2
   have hp : p ∈ jH b d (aU f kv xv) s.h := hp
   have h3 := b3r this p hp
   cases dst <;> exact h3
theorem xF (R : F6 G M0 w0 s ρ a w) {d : TypeDesc} {dst : Option Tmp} (hd : P9 s.n9 dst) :
   F6 G M0 w0 ⟨(s.put dst (.v (.map (some w.heap.size)))).t, s.h ++ [(s.nx, .mp w.heap.size d fun _ => none)], s.nx + 8⟩ ρ (a.put dst (.map (some w.heap.size))) (w.alloc (.map #[] 0)) := by
 have hh : ∀ id, LS.hf (s.h ++ [(s.nx, .mp w.heap.size d fun _ => none)]) id = if id = s.nx then .mp w.heap.size d (fun _ => none) else LS.hf s.h id := fun id => a0Z R.2 id
 have hfree : s.n9.h s.nx = .free := LS.free R.2 (Nat.le_refl _)
 refine ⟨?_, ?_⟩
 · have hp : (⟨(s.put dst (.v (.map (some w.heap.size)))).t, s.h ++ [(s.nx, .mp w.heap.size d fun _ => none)], s.nx + 8⟩ : LS).n9 = { s.n9.put dst (.v (.map (some w.heap.size))) with h := LS.hf (s.h ++ [(s.nx, .mp w.heap.size d fun _ => none)]) } := by
     rw [← LS.fA hd]; cases dst <;> rfl
   rw [hp]
   have hl : ∀ id' r, LS.hf (s.h ++ [(s.nx, .mp w.heap.size d fun _ => none)]) id' = .live r ↔ s.n9.h id' = .live r := by
     intro id' r
     rw [hh]
     by_cases hid : id' = s.nx
     · subst hid; rw [if_pos rfl, hfree]; simp
     · rw [if_neg hid]; exact Iff.rfl
   have hMo : u1 M0 ρ (LS.hf (s.h ++ [(s.nx, .mp w.heap.size d fun _ => none)])) = u1 M0 ρ s.n9.h := dH hl
   have hc : ∀ b' o v, ¬ u1 M0 ρ s.n9.h b' o → w.cell? ⟨b', o, none⟩ = some v → ¬ u1 M0 ρ (LS.hf (s.h ++ [(s.nx, .mp w.heap.size d fun _ => none)])) b' o ∧ (w.alloc (.map #[] 0)).cell? ⟨b', o, none⟩ = some v := by
     intro b' o v g1 g2
     rw [hMo]
     exact ⟨g1, by rw [World.cell?_alloc_lt w _ _ (World.block_lt_of_cell? w _ g2)]; exact g2⟩
   refine R.1.b1T hd (fun _ _ h => h) hc (fun _ _ => jM) ?_ ?_ ?_ (R.1.V4.alloc R.1.V4.size _) ?_ ?_ (fun _ _ _ h => cR h) (fun id' r p h hp => R.1.eG id' r p ((hl id' r).1 h) hp) (by
     intro id' b' d' f' h
     rw [hh] at h
     by_cases hid : id' = s.nx
     · rw [if_pos hid] at h
       cases h
       exact R.1.a7d (Nat.le_refl _)
     · rw [if_neg hid] at h
       exact R.1.pM id' b' d' f' h) (.v _)
   · intro id' r h
     obtain ⟨b', β, arr, e, p1, p2, p3, p4, p5, p6⟩ := R.1.live id' r ((hl id' r).1 h)
     exact ⟨b', β, arr, e, p1, p2, cR p3, p4, p5, fun i j e x u g1 g2 g3 => (p6 i j e x u g1 g2 g3).mono (fun _ _ h => h) hc (fun _ _ => jM)⟩
   · intro id' h
     rw [hh] at h
     by_cases hid : id' = s.nx
     · rw [if_pos hid] at h; cases h
     · rw [if_neg hid] at h; exact R.1.free id' h
   · intro i1 i2 r1 r2 b' β β' z z' g1 g2 g3 g4
     exact R.1.inj _ _ _ _ _ _ _ _ _ ((hl _ _).1 g1) ((hl _ _).1 g2) g3 g4
   · intro id' k cs h
     rw [hh] at h
     by_cases hid : id' = s.nx
     · rw [if_pos hid] at h; cases h
     · rw [if_neg hid] at h; exact h
   · intro id' b' d' f' h
     rw [hh] at h
     by_cases hid : id' = s.nx
     · rw [if_pos hid] at h
       cases h
       exact ⟨R.1.V4.size, b1e w d⟩
     · rw [if_neg hid] at h
       obtain ⟨q1, q2⟩ := R.1.mR id' b' d' f' h
       exact ⟨q1, q2.keep (fun _ _ _ h => cR h)⟩
 · intro p hp
   simp only [List.mem_append, List.mem_singleton] at hp
   rcases hp with hp | rfl
   · have := R.2 p hp; simp only; omega
   · simp only; omega
theorem zY [j5 P] (hgl : j5.ok P w0) (R : F6 G M0 w0 s ρ a w) {o : Oper} {K : LS → Prop} {Kw : Act → World → Prop} (hd : P9 s.n9 o.dst) (h : inl P o s K)
   (hK : ∀ s' ρ' a' w', K s' → F6 G M0 w0 s' ρ' a' w' → Kw a' w') : o.wp P a w Kw Q := by
 unfold inl at h
 split at h
 · rename_i c ho
   split at h
   · rename_i fv hfv
     rcases h with h | ⟨f, M7, hf, ⟨fn, hfn, hbody, hname⟩, hC⟩
     case inr =>
       have h1 := R.1.ev fv
       rw [hf] at h1
       generalize hu : a.eval fv = u at h1
       cases h1 with
       | fn _ _ vs hn hr =>
         obtain ⟨g1, g2⟩ := RC.of_map R.1 c.args
         have hargs : RC (u1 M0 ρ s.n9.h) ρ w (c.args.toList.map s.n9.ev ++ M7) (c.args.map a.eval ++ vs) := by
           refine ⟨by simp [hn], fun i x u e1 e2 => ?_⟩
           by_cases hi : i < c.args.size
           · rw [List.getElem?_append_left (by simpa using hi)] at e1
             rw [Array.getElem?_append_left (by simpa using hi)] at e2
             exact g2 i x u e1 e2
           · rw [List.getElem?_append_right (by simp; omega)] at e1
             rw [Array.getElem?_append_right (by simp; omega)] at e2
             exact hr _ x u (by simpa using e1) (by simpa using e2)
         generalize hxs : c.args.toList.map s.n9.ev ++ M7 = xs at hC hargs
         generalize hvs : c.args.map a.eval ++ vs = args at hargs
         have hb : fn.body.isNone = false := by cases hq : fn.body <;> simp_all
         have hrun : (execOp a.eval o).run P w = .ok (.enter f args) w := by
           simp only [execOp, ho, resolve, hfv, hu, Deferred.ofValue, Sem.run_bind, Sem.run_pure, Result.andThen_ok, invoke, callFunc, run_program, hfn, hname, hb, Bool.false_eq_true, if_false, Array.empty_append, hvs]
         unfold Oper.wp
         rw [hrun]
         refine (hC G M0 w0 ρ a w args hgl R hargs).mono fun e w' ⟨v, x, s', ρ', he, hk, R', hv⟩ => ?_
         subst he
         refine hK _ ρ' _ w' hk (R'.put ?_ hv)
         cases hdd : o.dst with
         | none => trivial
         | some d =>
           rw [hdd] at hd
           have e1 : a.tmps.size = s.t.length := R.1.n
           have e2 : a.tmps.size = s'.t.length := R'.1.n
           show d < s'.t.length
           rw [← e2, e1]
           exact hd
     obtain ⟨f, M7, fn, body, k, keep, hf, hfn, hbody, hname, hfresh, hA⟩ := h
     have h1 := R.1.ev fv
     rw [hf] at h1
     generalize hu : a.eval fv = u at h1
     cases h1 with
     | fn _ _ vs hn hr =>
       obtain ⟨g1, g2⟩ := RC.of_map R.1 c.args
       have hargs : RC (u1 M0 ρ s.n9.h) ρ w (c.args.toList.map s.n9.ev ++ M7) (c.args.map a.eval ++ vs) := by
         refine ⟨by simp [hn], fun i x u e1 e2 => ?_⟩
         by_cases hi : i < c.args.size
         · rw [List.getElem?_append_left (by simpa using hi)] at e1
           rw [Array.getElem?_append_left (by simpa using hi)] at e2
           exact g2 i x u e1 e2
         · rw [List.getElem?_append_right (by simp; omega)] at e1
           rw [Array.getElem?_append_right (by simp; omega)] at e2
           exact hr _ x u (by simpa using e1) (by simpa using e2)
       generalize hxs : c.args.toList.map s.n9.ev ++ M7 = xs at hA hargs
       generalize hvs : c.args.map a.eval ++ vs = args at hargs
       have hb : fn.body.isNone = false := by simp [hbody]
       have hrun : (execOp a.eval o).run P w = .ok (.enter f args) w := by
         simp only [execOp, ho, resolve, hfv, hu, Deferred.ofValue, Sem.run_bind, Sem.run_pure, Result.andThen_ok, invoke, callFunc, run_program, hfn, hname, hb, Bool.false_eq_true, if_false, Array.empty_append, hvs]
       unfold Oper.wp
       rw [hrun]
       have hh : ∀ id, (a3p fn xs k keep s).n9.h id = if id = s.nx then .B3 k (keep.map (LS.tf s.t)) else s.n9.h id := fun id => a0Z R.2 id
       have hfree : s.n9.h s.nx = .free := LS.free R.2 (Nat.le_refl _)
       have hM : u1 M0 ρ (a3p fn xs k keep s).n9.h = u1 M0 ρ s.n9.h := dH fun id r => by
         rw [hh]
         by_cases hid : id = s.nx
         · subst hid; rw [if_pos rfl, hfree]; simp
         · rw [if_neg hid]
       have R0 : F6 { g := fun l i => if l = k then a.tmps.getD (keep.getD i 0) undef else G.g l i, fr := fun x u => G.fr x u ∨ ∃ t, x = LS.tf (Z4 s.t) t ∧ u = a.tmps.getD t undef, kp := G.kp, sh := G.sh, df := [] } M0 w0 (a3p fn xs k keep s) ρ { tmps := args ++ Array.replicate (fn.ntmps - args.size) undef, defers := [] } w := by
         refine ⟨⟨?_, ?_, ?_, ?_, ?_, R.1.V4, R.1.m0, rfl, ?_, ?_, ?_, R.1.iT, ?_, ?_, R.1.qE⟩, ?_⟩
         · simp [a3p, LS.n9, hargs.1]
         · intro t
           rw [hM]
           simp only [a3p, LS.n9, LS.tf, List.getD_eq_getElem?_getD]
           by_cases ht : t < xs.length
           · rw [List.getElem?_append_left ht, List.getElem?_eq_getElem ht, Option.getD_some]
             have h2 : t < args.size := by rw [hargs.1]; exact ht
             have e : (args ++ Array.replicate (fn.ntmps - args.size) undef).getD t undef = args[t] := by
               rw [Array.getD_eq_getD_getElem?, Array.getElem?_append_left h2]
               simp [h2]
             rw [e]
             exact hargs.2 t xs[t] args[t] (by simp [ht]) (by simp [h2])
           · rw [List.getElem?_append_right (by omega)]
             have : ((List.replicate (fn.ntmps - xs.length) AV.dead)[t - xs.length]?).getD .dead = .dead := by
               rw [List.getElem?_replicate]; split <;> rfl
             rw [this]
             exact .dead _
         · intro id r h
           rw [hh] at h
           by_cases hid : id = s.nx
           · rw [if_pos hid] at h; cases h
           · rw [if_neg hid] at h; rw [hM]; exact R.1.live id r h
         · intro id h
           rw [hh] at h
           by_cases hid : id = s.nx
           · rw [if_pos hid] at h; cases h
           · rw [if_neg hid] at h; exact R.1.free id h
         · intro id id' r r' b β β' z z' h h'
           rw [hh] at h h'
           by_cases hid : id = s.nx
           · rw [if_pos hid] at h; cases h
           · by_cases hid' : id' = s.nx
             · rw [if_pos hid'] at h'; cases h'
             · rw [if_neg hid] at h; rw [if_neg hid'] at h'; exact R.1.inj id id' r r' b β β' z z' h h'
         · intro id l cs h i x hx
           rw [hM]
           rw [hh] at h
           by_cases hid : id = s.nx
           · rw [if_pos hid] at h
             cases h
             simp only [if_true]
             rw [List.getElem?_map] at hx
             cases hk : keep[i]? with
             | none => rw [hk] at hx; cases hx
             | some j =>
               rw [hk] at hx
               cases hx
               rw [List.getD_eq_getElem?_getD, hk, Option.getD_some]
               exact R.1.tm j
           · rw [if_neg hid] at h
             have := kM hfresh h
             simp only [if_neg this]
             exact R.1.oR id l cs h i x hx
         · intro x u hx
           rw [hM]
           rcases hx with hx | ⟨t, rfl, rfl⟩
           · exact R.1.mQ x u hx
           · exact a3w R t
         · intro id b q f h
           rw [hh] at h
           by_cases hid : id = s.nx
           · rw [if_pos hid] at h; cases h
           · rw [if_neg hid] at h; exact R.1.mR id b q f h
         · intro id r p h hp
           rw [hh] at h
           by_cases hid : id = s.nx
           · rw [if_pos hid] at h; cases h
           · rw [if_neg hid] at h; exact R.1.eG id r p h hp
         · intro id b q f h
           rw [hh] at h
           by_cases hid : id = s.nx
           · rw [if_pos hid] at h; cases h
           · rw [if_neg hid] at h; exact R.1.pM id b q f h
         · intro p hp
           simp only [a3p, List.mem_append, List.mem_singleton] at hp ⊢
           rcases hp with hp | rfl
           · have := R.2 p hp; omega
           · simp
       have C : Calls P f args w fun e w' => ∃ v, e = .returned v ∧ Kw (a.put o.dst v) w' := by
         refine callsIn_wide.1 (callsIn_of_wp_marks (F := Fence.wide) (n := 0) hfn hbody trivial (hA none (fun _ => rfl) _ M0 w0 ρ _ w _ hgl R0 ?_))
         intro Ds e s' ρ' a' w' hDs hk RX
         have key : ∀ (a' : Act) (w' : World), F6 { g := fun l i => if l = k then a.tmps.getD (keep.getD i 0) undef else G.g l i, fr := fun x u => G.fr x u ∨ ∃ t, x = LS.tf (Z4 s.t) t ∧ u = a.tmps.getD t undef, kp := G.kp, sh := G.sh, df := [] } M0 w0 s' ρ' a' w' → ∃ v, (results fn a'.tmps).run P w' = .ok v w' ∧ Kw (a.put o.dst v) w' := by
           intro a' w' R'
           obtain ⟨_, x, hx, hm⟩ := hk
           obtain ⟨v, e1, e2⟩ := dE R'.1 hx
           refine ⟨v, e1, ?_⟩
           split at hm
           · rename_i id cs hfg
             obtain ⟨q1, q2, q3⟩ := hm
             have hg : ∀ id', LS.hf (D5 id s'.h) id' = if id' = id then .gone else LS.hf s'.h id' := fun id' => a3m id s'.h id' (by rw [q1]; intro h; cases h)
             have hM2 : u1 M0 ρ' (LS.hf (D5 id s'.h)) = u1 M0 ρ' s'.n9.h := dH fun id' r => by
               rw [hg]
               by_cases hid : id' = id
               · subst hid
                 rw [if_pos rfl]
                 show RS.gone = RS.live r ↔ LS.hf s'.h id' = .live r
                 rw [q1]; simp
               · rw [if_neg hid]; rfl
             have hkt : ∀ i, u3 (u1 M0 ρ' s'.n9.h) ρ' w' (LS.tf (Z4 s.t) i) (a.tmps.getD i undef) := fun i => (R'.1.mQ _ _ (.inr ⟨i, rfl, rfl⟩)).up
             obtain ⟨l1, l2⟩ := a2O (ρ := ρ') (w := w') keep (Z4 s.t) cs hkt (fun i y hy hi => by
               have := R'.1.oR id k cs q1 i y hy
               simpa using this)
             refine hK _ ρ' _ w' q3 ?_
             refine F6.put (G := G) (s := ⟨u6 (Z4 s.t) keep cs, D5 id s'.h, s'.nx⟩) ⟨⟨?_, ?_, ?_, ?_, ?_, R'.1.V4, R'.1.m0, R.1.defers, ?_, ?_, ?_, R'.1.iT, ?_, ?_, R'.1.qE⟩, ?_⟩ ?_ ?_
             · show a.tmps.size = (u6 (Z4 s.t) keep cs).length
               rw [l1]; simp [Z4]; exact R.1.n
             · intro i
               show u3 (u1 M0 ρ' (LS.hf (D5 id s'.h))) ρ' w' _ _
               rw [hM2]; exact l2 i
             · intro id' r h
               show ∃ b β arr e, _
               have h : LS.hf (D5 id s'.h) id' = .live r := h
               rw [hg] at h
               by_cases hid : id' = id
               · rw [if_pos hid] at h; cases h
               · rw [if_neg hid] at h
                 show ∃ b β arr e, ρ' id' = some (b, β, r.sz) ∧ _ ∧ _ ∧ _ ∧ _ ∧ ∀ (i j : Nat) e x u, _ → _ → _ → u3 (u1 M0 ρ' (LS.hf (D5 id s'.h))) ρ' w' x u
                 rw [hM2]; exact R'.1.live id' r h
             · intro id' h
               have h : LS.hf (D5 id s'.h) id' = .free := h
               rw [hg] at h
               by_cases hid : id' = id
               · rw [if_pos hid] at h; cases h
               · rw [if_neg hid] at h; exact R'.1.free id' h
             · intro i1 i2 r r' b β β' z z' h h'
               have h : LS.hf (D5 id s'.h) i1 = .live r := h
               have h' : LS.hf (D5 id s'.h) i2 = .live r' := h'
               rw [hg] at h h'
               by_cases hid : i1 = id
               · rw [if_pos hid] at h; cases h
               · by_cases hid' : i2 = id
                 · rw [if_pos hid'] at h'; cases h'
                 · rw [if_neg hid] at h; rw [if_neg hid'] at h'; exact R'.1.inj i1 i2 r r' b β β' z z' h h'
             · intro id' l cs' h i y hy
               show u3 (u1 M0 ρ' (LS.hf (D5 id s'.h))) ρ' w' _ _
               rw [hM2]
               have h : LS.hf (D5 id s'.h) id' = .B3 l cs' := h
               have hlk := kM q2 h
               rw [hg] at h
               by_cases hid : id' = id
               · rw [if_pos hid] at h; cases h
               · rw [if_neg hid] at h
                 have := R'.1.oR id' l cs' h i y hy
                 simpa only [if_neg hlk] using this
             · intro y u hy
               show u3 (u1 M0 ρ' (LS.hf (D5 id s'.h))) (fun _ => none) w' _ _
               rw [hM2]; exact R'.1.mQ y u (.inl hy)
             · intro id' b q f h
               have h : LS.hf (D5 id s'.h) id' = .mp b q f := h
               rw [hg] at h
               by_cases hid : id' = id
               · rw [if_pos hid] at h; cases h
               · rw [if_neg hid] at h; exact R'.1.mR id' b q f h
             · intro id' r p h hp
               have h : LS.hf (D5 id s'.h) id' = .live r := h
               rw [hg] at h
               by_cases hid : id' = id
               · rw [if_pos hid] at h; cases h
               · rw [if_neg hid] at h; exact R'.1.eG id' r p h hp
             · intro id' b q f h
               have h : LS.hf (D5 id s'.h) id' = .mp b q f := h
               rw [hg] at h
               by_cases hid : id' = id
               · rw [if_pos hid] at h; cases h
               · rw [if_neg hid] at h; exact R'.1.pM id' b q f h
             · intro p hp
               have hmem : ∀ (l : List (Nat × RS)), p ∈ D5 id l → ∃ q ∈ l, q.1 = p.1 := by
                 intro l
                 induction l with
                 | nil => intro h; cases h
                 | cons q l ih =>
                   intro h
                   simp only [D5, List.mem_cons] at h
                   rcases h with h | h
                   · refine ⟨q, by simp, ?_⟩
                     split at h
                     · rw [h]
                     · rw [h]
                   · obtain ⟨q', h1, h2⟩ := ih h
                     exact ⟨q', List.mem_cons_of_mem _ h1, h2⟩
               obtain ⟨q, h1, h2⟩ := hmem _ hp
               rw [← h2]; exact R'.2 q h1
             · cases hdd : o.dst with
               | none => trivial
               | some d =>
                 rw [hdd] at hd
                 show d < (u6 (Z4 s.t) keep cs).length
                 have hd : d < s.t.length := hd
                 rw [l1]; simpa [Z4] using hd
             · show u3 (u1 M0 ρ' (LS.hf (D5 id s'.h))) ρ' w' x v
               rw [hM2]; exact e2
           · exact hm.elim
         have fin := nU (P := P) (fn := fn) (R' := fun e w' => ∃ v, e = .returned v ∧ Kw (a.put o.dst v) w') Ds hDs rfl R.1.m0 RX.1 (fun a2 w2 _ R2 => let ⟨v, e1, e2⟩ := key a2 w2 ⟨R2, RX.2⟩; ⟨v, e1, v, rfl, e2⟩)
         have k1 := hk.1
         cases e <;> first
           | exact fin
           | exact k1.elim
       refine C.mono fun e w' ⟨v, he, hv⟩ => ?_
       subst he
       exact hv
   · rename_i hcal
     obtain ⟨x, t, E, id, off, n, r, hx, ht, hD, hz, hev, hh, h1, h2, h3, hk⟩ := h
     have e1 := R.1.ev x
     rw [hev] at e1
     obtain ⟨w', hr, hR⟩ := a2X (P := P) (ty := o.type) R.1 hd e1 hD hz hh h1 h2 h3
     unfold Oper.wp
     have hrun : (execOp a.eval o).run P w = .ok (.value (.tuple #[])) w' := by
       have hr' : (builtin .clear c.argTypes o.type (c.args.map fun | .const _ => true | _ => false) (c.args.map a.eval)).run P w = .ok (.value (.tuple #[])) w' := by
         simp only [builtin, hx, ht, List.map_toArray, List.map_cons, List.map_nil]
         exact K7 hr
       simp only [execOp, ho, resolve, hcal, Sem.run_bind, Sem.run_pure, Result.andThen_ok, invoke]
       exact hr'
     rw [hrun]
     refine hK _ ρ _ _ hk ⟨?_, ?_⟩
     · have hp : ({ s.put o.dst (.Q8 []) with h := mH id (.live { r with es := W6 r.es off n r.sz }) s.h } : LS).n9 = { s.n9.put o.dst (.Q8 []) with h := n7 s.n9.h id (.live { r with es := W6 r.es off n r.sz }) } := by
         have hs : LS.hf (mH id (.live { r with es := W6 r.es off n r.sz }) s.h) = n7 s.n9.h id (.live { r with es := W6 r.es off n r.sz }) := b2K hh (by simp)
         rw [← LS.fA hd, ← hs]; cases o.dst <;> rfl
       rw [hp]; exact hR
     · have hnx : (s.put o.dst (.Q8 [])).nx = s.nx := by cases o.dst <;> rfl
       intro p hp
       show p.1 < (s.put o.dst (.Q8 [])).nx
       rw [hnx]
       exact b3k R.2 p hp
   · exact h.elim
 · rename_i t ho
   obtain ⟨d, z, ht, h⟩ := h
   unfold Oper.wp
   have hrun : (execOp a.eval o).run P w = .ok (.value (.map (some w.heap.size))) (w.alloc (.map #[] 0)) := by
     simp only [execOp, ho]; exact K7 (Go.RowKit.run_makeMap t w)
   rw [hrun]
   exact hK _ ρ _ _ (h w.heap.size) (xF R hd)
 · rename_i t m k c ho
   obtain ⟨d, z, b, kv, f, id, ht, hm, hkv, hik, hh, h⟩ := h
   obtain ⟨hb0, hM⟩ := R.1.mR id b d f hh
   have e1 := R.1.ev m
   rw [hm] at e1
   have e1 := e1.X5
   have e2 := R.1.ev k
   rw [hkv] at e2
   have e2 := e2.X5
   have hl := a3C ht hM hik c
   unfold Oper.wp
   have hrun : (execOp a.eval o).run P w = .ok (.value (if c then .tuple #[(f kv).getD z, .bool (f kv).isSome] else (f kv).getD z)) w := by
     simp only [execOp, ho, e1, e2]; exact K7 hl
   rw [hrun]
   refine hK _ ρ _ _ h (R.put hd ?_)
   cases c
   · exact .v _
   · refine .Q8 _ _ rfl fun i x u h1 h2 => ?_
     match i, h1, h2 with
     | 0, h1, h2 => cases h1; cases h2; exact .v _
     | 1, h1, h2 => cases h1; cases h2; exact .v _
 · rename_i t m k v ho
   obtain ⟨d, z, b, kv, xv, f, id, ht, hm, hkv, hxv, hik, hh, h⟩ := h
   have e1 := R.1.ev m
   rw [hm] at e1
   have e1 := e1.X5
   have e2 := R.1.ev k
   rw [hkv] at e2
   have e2 := e2.X5
   have e3 := R.1.ev v
   rw [hxv] at e3
   have e3 := e3.X5
   obtain ⟨w', hr, hR⟩ := a1b (P := P) (xv := xv) (dst := o.dst) R hd ht hik hh
   unfold Oper.wp
   have hrun : (execOp a.eval o).run P w = .ok .skip w' := by
     simp only [execOp, ho, e1, e2, e3, Sem.run_bind, hr, Result.andThen_ok, Sem.run_pure]
   rw [hrun]
   exact hK _ ρ _ _ h hR
 · exact h.elim
theorem iR [j5 P] {o : Oper} {s : St} {nid : Nat} {fx : Fx} (h : ex P o s nid fx) : ∀ c, o.op ≠ .defer c := by
 intro c e
 unfold ex at h
 rw [e] at h
 exact h
theorem qV [j5 P] {o : Oper} {K : LS → Prop} (h : inl P o s K) : ∀ c, o.op ≠ .defer c := by
 intro c e
 unfold inl at h
 rw [e] at h
 exact h
theorem iX [j5 P] (m : Option Nat) (hgl : j5.ok P w0) {ops : List Oper} : ∀ (l : List Oper) {s : LS} {ρ : Nat → Option (Nat × Nat × Nat)} {a : Act} {w : World} {K : LS → Prop}, F6 G M0 w0 s ρ a w → cK P ops l s K →
   (∀ s' ρ' a' w', K s' → F6 G M0 w0 s' ρ' a' w' → Q .normal a' w') → wpListIn (bY m) 0 P ops.toArray Q l a w := by
 intro l
 induction l with
 | nil => intro s ρ a w K R h hK; exact hK _ _ _ _ h R
 | cons o rest ih =>
   intro s ρ a w K R h hK
   simp only [cK] at h
   unfold wpListIn
   rcases a3k R h with ⟨hw, hd, hx⟩ | ⟨hw, hd, hr⟩
   · rw [if_pos hw]
     rcases hx with ⟨fx, hx, hr⟩ | hx
     · refine bT m (iR hx) (nG hgl R.1 hd (fun k _ => LS.free R.2 (by omega)) hx fun ρ' a' w' R' => ?_)
       obtain ⟨h1, h2⟩ := tF R.2 hd hx
       exact ih ⟨by rw [h1]; exact R', h2⟩ hr hK
     · exact bT m (qV hx) (zY hgl R hd hx fun s' ρ' a' w' hs R' => ih R' hs hK)
   · rw [if_neg (by simp [hw])]
     exact ⟨fun f _ => jT m f, ih (R.put hd (.v _)) hr hK⟩
end
def Q9 (s s' : LS) : Prop := ∀ G M0 w0 ρ a w, F6 G M0 w0 s ρ a w → ∃ ρ', F6 G M0 w0 s' ρ' a w
section
variable {md : Bool} {P : Program} {s : LS} {K K' : Exit → LS → Prop}
theorem gH.mono [j5 P] {c : Code} (h : gH (md := md) P c s K) (hk : ∀ e s, K e s → K' e s) : gH (md := md) P c s K' :=
 fun m hm G M0 w0 ρ a w Q hg R hQ => h m hm G M0 w0 ρ a w Q hg R fun Ds e s' ρ' a' w' hD k r => hQ Ds e s' ρ' a' w' hD (hk _ _ k) r
theorem gH.b6Y [j5 P] {c : Code} {s' : LS} (hw : Q9 s s') (h : gH (md := md) P c s' K) : gH (md := md) P c s K :=
 fun m hm G M0 w0 ρ a w Q hg R hQ => let ⟨ρ', R'⟩ := hw G M0 w0 ρ a w R; h m hm G M0 w0 ρ' a w Q hg R' hQ
theorem a91 [j5 P] (h : K .normal s) : gH (md := md) P .skip s K := fun _ _ _ _ _ _ _ _ _ _ R hQ => wpIn_skip (hQ [] _ _ _ _ _ .nil h (by rw [bI]; exact R))
theorem b2t [j5 P] (h : K .ret s) : gH (md := md) P .ret s K := fun _ _ _ _ _ _ _ _ _ _ R hQ => wpIn_ret (hQ [] _ _ _ _ _ .nil h (by rw [bI]; exact R))
theorem a9Z [j5 P] {id : Nat} (h : K (.exit id) s) : gH (md := md) P (.exit id) s K := fun _ _ _ _ _ _ _ _ _ _ R hQ => wpIn_exit (hQ [] _ _ _ _ _ .nil h (by rw [bI]; exact R))
def S8 (N : LS → Prop) (K : Exit → LS → Prop) : Exit → LS → Prop
 | .normal, s => N s
 | e, s => K e s
theorem a6V [j5 P] {x y : Code} (h : gH (md := md) P x s (S8 (fun s => gH (md := md) P y s K) K)) : gH (md := md) P (.seq x y) s K := by
 intro m hm G M0 w0 ρ a w Q hg R hQ
 refine wpIn_seq (h m hm G M0 w0 ρ a w _ hg R fun Ds e s' ρ' a' w' hD k r => ?_)
 cases e <;> first
   | exact k m hm (aC G Ds) M0 w0 ρ' a' w' Q hg r fun D2 e2 s2 ρ2 a2 w2 hD2 k2 r2 => hQ (D2 ++ Ds) e2 s2 ρ2 a2 w2 (hD.dI hD2) k2 (by rw [← tV]; exact r2)
   | exact hQ _ _ _ _ _ _ hD k r
theorem a9Y [j5 P] {c : Operand} {x y : Code} {b : Bool} (hc : s.n9.ev c = .v (.bool b)) (h1 : b = true → gH (md := md) P x s K) (h2 : b = false → gH (md := md) P y s K) : gH (md := md) P (.cond c x y) s K := by
 intro m hm G M0 w0 ρ a w Q hg R hQ
 have := R.1.ev c
 rw [hc] at this
 exact wpIn_cond_split this.X5 (fun h => h1 h m hm G M0 w0 ρ a w Q hg R hQ) (fun h => h2 h m hm G M0 w0 ρ a w Q hg R hQ)
def a4O (id : Nat) (K : Exit → LS → Prop) : Exit → LS → Prop
 | .exit id', s => if id' = id then K .normal s else K (.exit id') s
 | e, s => K e s
theorem a78 [j5 P] {id : Nat} {c : Code} (h : gH (md := md) P c s (a4O id K)) : gH (md := md) P (.block id c) s K := by
 intro m hm G M0 w0 ρ a w Q hg R hQ
 refine wpIn_block (h m hm G M0 w0 ρ a w _ hg R fun Ds e s' ρ' a' w' hD k r => ?_)
 cases e with
 | exit id' =>
   simp only [a4O] at k
   simp only [Exit.inBlock]
   by_cases hid : id' = id
   · rw [if_pos hid] at k ⊢; exact hQ _ _ _ _ _ _ hD k r
   · rw [if_neg hid] at k ⊢; exact hQ _ _ _ _ _ _ hD k r
 | _ => exact hQ _ _ _ _ _ _ hD k r
theorem a4K [j5 P] {id : Nat} {l : List Oper} (h : cK P l l s (K .normal)) : gH (md := md) P (.region id l.toArray false) s K := by
 intro m hm G M0 w0 ρ a w Q hg R hQ
 exact wpIn_region_lit (iX m hg l R h fun s' ρ' a' w' k r => hQ [] _ _ _ _ _ .nil k (by rw [bI]; exact r))
theorem b3S (p : Nat → Prop) (h : ∃ n, p n) : ∃ n, p n ∧ ∀ m, p m → n ≤ m := by
 obtain ⟨n, hn⟩ := h
 induction n using Nat.strongRecOn with
 | _ n ih =>
   by_cases hx : ∃ m, m < n ∧ p m
   · obtain ⟨m, h1, h2⟩ := hx
     exact ih m h1 h2
   · refine ⟨n, hn, fun m hm => ?_⟩
     rcases Nat.lt_or_ge m n with h | h
     · exact absurd ⟨m, h, hm⟩ hx
     · exact h
theorem a90 [j5 P] {c : Code} (I : Nat → LS → Prop) (n0 : Nat) (h0 : I n0 s) (round : ∀ n s, I n s → gH (md := md) P c s (S8 (fun s' => ∃ m s'', m < n ∧ Q9 s' s'' ∧ I m s'') K)) : gH (md := md) P (.loop c) s K := by
 intro m hm G M0 w0 ρ a w Q hg R hQ
 have dec : ∀ (a : Act) (w : World), ∃ n : Nat, (∃ m s ρ Ds, jJ w0 G Ds ∧ I m s ∧ F6 (aC G Ds) M0 w0 s ρ a w) → (∃ s ρ Ds, jJ w0 G Ds ∧ I n s ∧ F6 (aC G Ds) M0 w0 s ρ a w) ∧ ∀ m, (∃ s ρ Ds, jJ w0 G Ds ∧ I m s ∧ F6 (aC G Ds) M0 w0 s ρ a w) → n ≤ m := by
   intro a w
   by_cases h : ∃ m s ρ Ds, jJ w0 G Ds ∧ I m s ∧ F6 (aC G Ds) M0 w0 s ρ a w
   · obtain ⟨n, h1, h2⟩ := b3S (fun m => ∃ s ρ Ds, jJ w0 G Ds ∧ I m s ∧ F6 (aC G Ds) M0 w0 s ρ a w) h
     exact ⟨n, fun _ => ⟨h1, h2⟩⟩
   · exact ⟨0, fun h' => absurd h' h⟩
 refine wpIn_loop (fun a w => ∃ m s ρ Ds, jJ w0 G Ds ∧ I m s ∧ F6 (aC G Ds) M0 w0 s ρ a w) (fun a w => Classical.choose (dec a w)) ⟨n0, s, ρ, [], .nil, h0, by rw [bI]; exact R⟩ ?_
 intro a w hI
 obtain ⟨⟨s1, ρ1, D1, hD1, hI1, R1⟩, _⟩ := Classical.choose_spec (dec a w) hI
 refine round _ s1 hI1 m hm (aC G D1) M0 w0 ρ1 a w _ hg R1 fun D2 e s' ρ' a' w' hD2 k r => ?_
 have hD := hD1.dI hD2
 rw [tV] at r
 cases e with
 | normal =>
   obtain ⟨n, s'', hlt, hw, hm⟩ := k
   obtain ⟨ρ'', R''⟩ := hw _ M0 w0 ρ' a' w' r
   have hex : ∃ m s ρ Ds, jJ w0 G Ds ∧ I m s ∧ F6 (aC G Ds) M0 w0 s ρ a' w' := ⟨n, s'', ρ'', _, hD, hm, R''⟩
   exact ⟨hex, Nat.lt_of_le_of_lt ((Classical.choose_spec (dec a' w') hex).2 n ⟨s'', ρ'', _, hD, hm, R''⟩) hlt⟩
 | _ => exact hQ _ _ _ _ _ _ hD k r
end
end
section
def m8 (r : Nat → Option Nat) : Nat → AV → Option AV
 | _, .dead => some .dead
 | _, .T0 => some .T0
 | _, .v x => some (.v x)
 | _, .b7 c es => some (.b7 c es)
 | _, .aP es i k => some (.aP es i k)
 | _, .own id off k => (r id).map fun j => .own j off k
 | _, .ptr id i k => (r id).map fun j => .ptr j i k
 | _, .dV id i k => (r id).map fun j => .dV j i k
 | n + 1, .agg cs => (cs.mapM (m8 r n)).map .agg
 | n + 1, .Q8 cs => (cs.mapM (m8 r n)).map .Q8
 | n + 1, .fn f cs => (cs.mapM (m8 r n)).map (.fn f)
 | 0, _ => none
def e6 (r : Nat → Option Nat) (row : Row) : Option Row :=
 if w8 row.es then some row else (row.es.mapM fun (e : List AV) => e.mapM (m8 r 3)).map fun es => ⟨row.sz, es, row.fro⟩
def s5 (ids : List Nat) (nid : Nat) (id : Nat) : Option Nat := (ids.idxOf? id).map (nid + ·)
def a7 (h : Nat → RS) (r : Nat → Option Nat) : List Nat → Option (List Row)
 | [] => some []
 | id :: ids => match h id with
   | .live row => (e6 r row).bind fun row' => (a7 h r ids).map (row' :: ·)
   | _ => none
def n3 (keep : List Nat) (r : Nat → Option Nat) (i : Nat) : List AV → Option (List AV)
 | [] => some []
 | x :: xs => (if keep.contains i then m8 r 3 x else some .dead).bind fun y => (n3 keep r (i + 1) xs).map (y :: ·)
section
variable {G : Gh} {M0 : Nat → Nat → Prop} {w0 : World} {ρ : Nat → Option (Nat × Nat × Nat)} {w : World} {P : Program} {h : Nat → RS}
theorem cJ {r : Nat → Option Nat} : ∀ {ids : List Nat} {rows : List Row}, a7 h r ids = some rows → rows.length = ids.length ∧ ∀ (j : Nat) row', rows[j]? = some row' → ∃ id row, ids[j]? = some id ∧ h id = .live row ∧ e6 r row = some row' := by
 intro ids
 induction ids with
 | nil => intro rows hp; cases hp; exact ⟨rfl, by simp⟩
 | cons id ids ih =>
   intro rows hp
   simp only [a7] at hp
   split at hp
   · rename_i row hrow
     cases h1 : e6 r row with
     | none => rw [h1] at hp; cases hp
     | some row' =>
       cases h2 : a7 h r ids with
       | none => rw [h1, h2] at hp; cases hp
       | some rows' =>
         rw [h1, h2] at hp
         cases hp
         obtain ⟨g1, g2⟩ := ih h2
         refine ⟨by simp [g1], fun j q hq => ?_⟩
         cases j with
         | zero => simp at hq; subst hq; exact ⟨id, row, by simp, hrow, h1⟩
         | succ j => simp at hq; simpa using g2 j q hq
   · cases hp
theorem a02 {ids : List Nat} {id j : Nat} (hi : ids.idxOf? id = some j) : ids[j]? = some id := by
 rw [List.idxOf?_eq_some_iff] at hi
 obtain ⟨h1, h2, _⟩ := hi
 rw [List.getElem?_eq_getElem h1]
 simpa using h2
def renρ (ρ : Nat → Option (Nat × Nat × Nat)) (ids : List Nat) (nid : Nat) (i : Nat) : Option (Nat × Nat × Nat) := if nid ≤ i then (ids[i - nid]?).bind ρ else none
theorem renId_ρ {ids : List Nat} {nid id j : Nat} (hr : s5 ids nid id = some j) : renρ ρ ids nid j = ρ id := by
 simp only [s5, Option.map_eq_some_iff] at hr
 obtain ⟨k, h1, rfl⟩ := hr
 simp only [renρ]
 rw [if_pos (by omega), show nid + k - nid = k from by omega, a02 h1]
 rfl
theorem a5Q {M : Nat → Nat → Prop} {ids : List Nat} {nid : Nat} : ∀ (n : Nat) (x y : AV) (u : Value), m8 (s5 ids nid) n x = some y → u3 M ρ w x u → u3 M (renρ ρ ids nid) w y u := by
 intro n
 induction n with
 | zero =>
   intro x y u hr hx
   cases hx with
   | dead => cases hr; exact .dead _
   | T0 t => cases hr; exact .T0 t
   | v => cases hr; exact .v _
   | b7 c es a cap b o sz cell h1 h2 h3 h4 h5 h6 => cases hr; exact .b7 c es a cap b o sz cell h1 h2 h3 h4 h5 h6
   | aP es i k b o sz cell h1 h2 h3 h4 h5 => cases hr; exact .aP es i k b o sz cell h1 h2 h3 h4 h5
   | own id off n cap b β sz N e h1 h2 h3 h4 => simp only [m8, Option.map_eq_some_iff] at hr; obtain ⟨j, hj, rfl⟩ := hr; exact .own j off n cap b β sz N e (by rw [renId_ρ hj]; exact h1) h2 h3 h4
   | ptr id i k b β sz h1 => simp only [m8, Option.map_eq_some_iff] at hr; obtain ⟨j, hj, rfl⟩ := hr; exact .ptr j i k b β sz (by rw [renId_ρ hj]; exact h1)
   | dV id i k b β sz h1 => simp only [m8, Option.map_eq_some_iff] at hr; obtain ⟨j, hj, rfl⟩ := hr; exact .dV j i k b β sz (by rw [renId_ρ hj]; exact h1)
   | _ => simp [m8] at hr
 | succ n ih =>
   intro x y u hr hx
   have many : ∀ (cs cs' : List AV) (vs : Array Value), cs.mapM (m8 (s5 ids nid) n) = some cs' → vs.size = cs.length → (∀ (i : Nat) x u, cs[i]? = some x → vs[i]? = some u → u3 M ρ w x u) →
       vs.size = cs'.length ∧ ∀ (i : Nat) x u, cs'[i]? = some x → vs[i]? = some u → u3 M (renρ ρ ids nid) w x u := by
     intro cs cs' vs hm hn hr
     refine ⟨by rw [M3 hm]; exact hn, fun i x u h1 h2 => ?_⟩
     obtain ⟨x0, e1, e2⟩ := F4 hm i x h1
     exact ih x0 x u e2 (hr i x0 u e1 h2)
   cases hx with
   | dead => cases hr; exact .dead _
   | T0 t => cases hr; exact .T0 t
   | v => cases hr; exact .v _
   | b7 c es a cap b o sz cell h1 h2 h3 h4 h5 h6 => cases hr; exact .b7 c es a cap b o sz cell h1 h2 h3 h4 h5 h6
   | aP es i k b o sz cell h1 h2 h3 h4 h5 => cases hr; exact .aP es i k b o sz cell h1 h2 h3 h4 h5
   | own id off n cap b β sz N e h1 h2 h3 h4 => simp only [m8, Option.map_eq_some_iff] at hr; obtain ⟨j, hj, rfl⟩ := hr; exact .own j off n cap b β sz N e (by rw [renId_ρ hj]; exact h1) h2 h3 h4
   | ptr id i k b β sz h1 => simp only [m8, Option.map_eq_some_iff] at hr; obtain ⟨j, hj, rfl⟩ := hr; exact .ptr j i k b β sz (by rw [renId_ρ hj]; exact h1)
   | dV id i k b β sz h1 => simp only [m8, Option.map_eq_some_iff] at hr; obtain ⟨j, hj, rfl⟩ := hr; exact .dV j i k b β sz (by rw [renId_ρ hj]; exact h1)
   | agg cs vs hn hh =>
     simp only [m8, Option.map_eq_some_iff] at hr
     obtain ⟨cs', hm, rfl⟩ := hr
     obtain ⟨g1, g2⟩ := many cs cs' vs hm hn hh
     exact .agg cs' vs g1 g2
   | Q8 cs vs hn hh =>
     simp only [m8, Option.map_eq_some_iff] at hr
     obtain ⟨cs', hm, rfl⟩ := hr
     obtain ⟨g1, g2⟩ := many cs cs' vs hm hn hh
     exact .Q8 cs' vs g1 g2
   | fn f cs vs hn hh =>
     simp only [m8, Option.map_eq_some_iff] at hr
     obtain ⟨cs', hm, rfl⟩ := hr
     obtain ⟨g1, g2⟩ := many cs cs' vs hm hn hh
     exact .fn f cs' vs g1 g2
theorem rF (H : lU M0 w0 h ρ w) {M1 : Nat → Nat → Prop} (hM1 : ∀ b o, M1 b o → u1 M0 ρ h b o) {ids : List Nat} {nid : Nat} {rows : List Row} (hnd : ids.Nodup) (hm1 : ∀ b o, M1 b o → b < w.heap.size ∧ ∀ id ∈ ids, ∀ r p, h id = .live r → ρ id = some p → p.1 ≠ b) (hp : a7 h (s5 ids nid) ids = some rows) :
   lU M1 w0 (u5 nid rows) (renρ ρ ids nid) w ∧ (∀ n x y u, m8 (s5 ids nid) n x = some y → u3 (u1 M0 ρ h) ρ w x u → u3 (u1 M1 (renρ ρ ids nid) (u5 nid rows)) (renρ ρ ids nid) w y u) ∧ ∀ b o, u1 M1 (renρ ρ ids nid) (u5 nid rows) b o → u1 M0 ρ h b o := by
 obtain ⟨hlen, hget⟩ := cJ hp
 have look : ∀ {i : Nat} {row' : Row}, u5 nid rows i = .live row' → nid ≤ i ∧ ∃ id row, ids[i - nid]? = some id ∧ h id = .live row ∧ e6 (s5 ids nid) row = some row' := by
   intro i row' hi
   unfold u5 at hi
   split at hi
   · rename_i hr
     have hlt : i - nid < rows.length := by omega
     have e : rows[i - nid]? = some row' := by
       simp only [List.getD_eq_getElem?_getD, List.getElem?_eq_getElem hlt, Option.getD_some, RS.live.injEq] at hi
       rw [List.getElem?_eq_getElem hlt, hi]
     exact ⟨hr.1, hget _ _ e⟩
   · cases hi
 have rsz : ∀ {row row' : Row}, e6 (s5 ids nid) row = some row' → row'.sz = row.sz ∧ row'.fro = row.fro ∧ row'.es.length = row.es.length := by
   intro row row' hr
   unfold e6 at hr
   split at hr
   · cases hr; exact ⟨rfl, rfl, rfl⟩
   · simp only [Option.map_eq_some_iff] at hr
     obtain ⟨es, hm, rfl⟩ := hr
     exact ⟨rfl, rfl, M3 hm⟩
 have hM : ∀ b o, u1 M1 (renρ ρ ids nid) (u5 nid rows) b o → u1 M0 ρ h b o := by
   rintro b o (g | ⟨i, row', β, z, g1, g2, g3⟩)
   · exact hM1 b o g
   · obtain ⟨hi, id, row, e1, e2, e3⟩ := look g1
     simp only [renρ, if_pos hi, e1, Option.bind_some] at g2
     exact .inr ⟨id, row, β, z, e2, g2, by rw [← (rsz e3).2.1]; exact g3⟩
 have up : ∀ n x y u, m8 (s5 ids nid) n x = some y → u3 (u1 M0 ρ h) ρ w x u → u3 (u1 M1 (renρ ρ ids nid) (u5 nid rows)) (renρ ρ ids nid) w y u :=
   fun n x y u h1 h2 => (a5Q n x y u h1 h2).qU hM
 refine ⟨⟨?_, ?_, ?_, H.V4, fun b o g => ⟨(hm1 b o g).1, fun i row' p hi hp => ?_⟩⟩, up, hM⟩
 case refine_4 =>
   obtain ⟨h1, id, row, e1, e2, e3⟩ := look hi
   simp only [renρ, if_pos h1, e1, Option.bind_some] at hp
   exact (hm1 b o g).2 id (List.mem_of_getElem? e1) row p e2 hp
 · intro i row' hi
   obtain ⟨h1, id, row, e1, e2, e3⟩ := look hi
   obtain ⟨b, β, arr, e, p1, p2, p3, p4, p5, p6⟩ := H.live id row e2
   obtain ⟨q1, q2, q3⟩ := rsz e3
   have hρ : renρ ρ ids nid i = some (b, β, row'.sz) := by simp only [renρ, if_pos h1, e1, Option.bind_some, p1, q1]
   unfold e6 at e3
   split at e3
   · rename_i hpl
     cases e3
     refine ⟨b, β, arr, e, hρ, p2, p3, p4, p5, fun m j e' x u g1 g2 g3 => ?_⟩
     have hp : x.plain = true := by
       have := List.all_eq_true.1 hpl e' (List.mem_of_getElem? g1)
       exact List.all_eq_true.1 this x (List.mem_of_getElem? g2)
     exact (((p6 m j e' x u g1 g2 g3).aH hp).up).qU hM
   · simp only [Option.map_eq_some_iff] at e3
     obtain ⟨es, hm, rfl⟩ := e3
     simp only at q3 hρ ⊢
     refine ⟨b, β, arr, e, hρ, p2, p3, by rw [q3]; exact p4, fun x hx => ?_, fun m j e' x u g1 g2 g3 => ?_⟩
     · obtain ⟨m, hm1, hm2⟩ := List.mem_iff_getElem.1 hx
       obtain ⟨e0, t1, t2⟩ := F4 hm m x (by simp [hm1, hm2])
       rw [M3 t2]
       exact p5 e0 (List.mem_of_getElem? t1)
     · obtain ⟨e0, t1, t2⟩ := F4 hm m e' g1
       obtain ⟨x0, t3, t4⟩ := F4 t2 j x g2
       exact up 3 x0 x u t4 (p6 m j e0 x0 u t1 t3 g3)
 · intro i hi
   unfold u5 at hi
   simp only [renρ]
   by_cases h1 : nid ≤ i
   · rw [if_pos h1]
     by_cases h2 : i < nid + rows.length
     · rw [if_pos ⟨h1, h2⟩] at hi; cases hi
     · rw [List.getElem?_eq_none (by omega)]; rfl
   · rw [if_neg h1]
 · intro i j r1 r2 b β β' z z' g1 g2 g3 g4
   obtain ⟨h1, id1, row1, e1, e2, e3⟩ := look g1
   obtain ⟨h2, id2, row2, f1, f2, f3⟩ := look g2
   simp only [renρ, if_pos h1, e1, Option.bind_some] at g3
   simp only [renρ, if_pos h2, f1, Option.bind_some] at g4
   have := H.inj _ _ _ _ _ _ _ _ _ e2 f2 g3 g4
   subst this
   obtain ⟨l1, k1⟩ := List.getElem?_eq_some_iff.1 e1
   obtain ⟨l2, k2⟩ := List.getElem?_eq_some_iff.1 f1
   have pw := List.pairwise_iff_getElem.1 hnd
   rcases Nat.lt_trichotomy (i - nid) (j - nid) with hlt | heq | hlt
   · exact absurd (by rw [k1, k2]) (pw _ _ l1 l2 hlt)
   · omega
   · exact absurd (by rw [k1, k2]) (pw _ _ l2 l1 hlt)
theorem mD (H : lU M0 w0 h ρ w) {ids : List Nat} {nid : Nat} {rows : List Row} (hnd : ids.Nodup) (hp : a7 h (s5 ids nid) ids = some rows) :
   lU M0 w0 (u5 nid rows) (renρ ρ ids nid) w ∧ (∀ n x y u, m8 (s5 ids nid) n x = some y → u3 (u1 M0 ρ h) ρ w x u → u3 (u1 M0 (renρ ρ ids nid) (u5 nid rows)) (renρ ρ ids nid) w y u) ∧ ∀ b o, u1 M0 (renρ ρ ids nid) (u5 nid rows) b o → u1 M0 ρ h b o :=
 rF H (fun _ _ g => .inl g) hnd (fun b o g => ⟨(H.m0 b o g).1, fun id _ r p => (H.m0 b o g).2 id r p⟩) hp
end
def A6 (r : Nat → Option Nat) (h0 : List (Nat × RS)) : Nat → List (Nat × RS) → List (Nat × RS)
 | _, [] => []
 | n, p :: l => match LS.hf h0 p.1 with
   | .B3 k cs => (n, .B3 k (cs.map fun x => (m8 r 3 x).getD .dead)) :: A6 r h0 (n + 1) l
   | .mp b q f => (n, .mp b q f) :: A6 r h0 (n + 1) l
   | _ => A6 r h0 n l
def c7 (keep ids : List Nat) (s : LS) : Option LS :=
 if ids.Nodup then (n3 keep (s5 ids 0) 0 s.t).bind fun t => (a7 (LS.hf s.h) (s5 ids 0) ids).map fun rows =>
   ⟨t, j3 0 rows ++ A6 (s5 ids 0) s.h rows.length s.h, rows.length + (A6 (s5 ids 0) s.h rows.length s.h).length⟩ else none
theorem b1L {r : Nat → Option Nat} {h0 : List (Nat × RS)} : ∀ (l : List (Nat × RS)) (n : Nat) (p : Nat × RS), p ∈ A6 r h0 n l → n ≤ p.1 ∧ p.1 < n + (A6 r h0 n l).length ∧
   ((∃ id k cs, LS.hf h0 id = .B3 k cs ∧ p.2 = .B3 k (cs.map fun x => (m8 r 3 x).getD .dead)) ∨ ∃ id b q f, LS.hf h0 id = .mp b q f ∧ p.2 = .mp b q f) := by
 intro l
 induction l with
 | nil => intro n p h; cases h
 | cons q l ih =>
   intro n p h
   simp only [A6] at h ⊢
   split at h
   · rename_i k cs hg
     simp only [List.mem_cons] at h
     rcases h with rfl | h
     · exact ⟨Nat.le_refl _, by simp, .inl ⟨q.1, k, cs, hg, rfl⟩⟩
     · obtain ⟨h1, h2, h3⟩ := ih (n + 1) p h
       exact ⟨by omega, by simp only [List.length_cons]; omega, h3⟩
   · rename_i b q' f hg
     simp only [List.mem_cons] at h
     rcases h with rfl | h
     · exact ⟨Nat.le_refl _, by simp, .inr ⟨q.1, b, q', f, hg, rfl⟩⟩
     · obtain ⟨h1, h2, h3⟩ := ih (n + 1) p h
       exact ⟨by omega, by simp only [List.length_cons]; omega, h3⟩
   · exact ih n p h
theorem uU {l : List (Nat × RS)} {id : Nat} {x : RS} (h : l.lookup id = some x) : (id, x) ∈ l := by
 induction l with
 | nil => cases h
 | cons p l ih =>
   obtain ⟨i, y⟩ := p
   simp only [List.lookup_cons] at h
   split at h
   · rename_i hi
     cases h
     have : id = i := by simpa using hi
     subst this; simp
   · exact List.mem_cons_of_mem _ (ih h)
theorem b2J (nid : Nat) (rows : List Row) : LS.hf (j3 nid rows) = u5 nid rows := by
 funext id
 simp only [LS.hf, dN, u5]
 split <;> rfl
theorem sJ (rows : List Row) : ∀ (nid : Nat), ∀ p ∈ j3 nid rows, p.1 < nid + rows.length := by
 induction rows with
 | nil => intro nid p hp; cases hp
 | cons r rs ih =>
   intro nid p hp
   simp only [j3, List.mem_cons] at hp
   rcases hp with rfl | hp
   · simp
   · have := ih _ p hp; simp; omega
theorem a0m {keep : List Nat} {r : Nat → Option Nat} : ∀ {l l' : List AV} {i : Nat}, n3 keep r i l = some l' → l'.length = l.length ∧ ∀ (j : Nat) y, l'[j]? = some y → ∃ x, l[j]? = some x ∧ (m8 r 3 x = some y ∨ y = .dead) := by
 intro l
 induction l with
 | nil => intro l' i h; cases h; exact ⟨rfl, by simp⟩
 | cons x xs ih =>
   intro l' i h
   simp only [n3] at h
   cases h1 : (if keep.contains i then m8 r 3 x else some AV.dead) with
   | none => rw [h1] at h; cases h
   | some y =>
     cases h2 : n3 keep r (i + 1) xs with
     | none => rw [h1, h2] at h; cases h
     | some ys =>
       rw [h1, h2] at h
       cases h
       obtain ⟨g1, g2⟩ := ih h2
       refine ⟨by simp [g1], fun j z hz => ?_⟩
       cases j with
       | zero =>
         simp at hz
         subst hz
         refine ⟨x, by simp, ?_⟩
         split at h1
         · exact .inl h1
         · cases h1; exact .inr rfl
       | succ j => simp at hz; simpa using g2 j z hz
theorem a0R {keep ids : List Nat} {s s' : LS} (h : c7 keep ids s = some s') : Q9 s s' := by
 intro G M0 w0 ρ a w ⟨R, hok⟩
 unfold c7 at h
 split at h
 · rename_i hnd
   cases h1 : n3 keep (s5 ids 0) 0 s.t with
   | none => rw [h1] at h; cases h
   | some t =>
     cases h2 : a7 (LS.hf s.h) (s5 ids 0) ids with
     | none => rw [h1, h2] at h; cases h
     | some rows =>
       rw [h1, h2] at h
       simp only [Option.bind_some, Option.map_some, Option.some.injEq] at h
       subst h
       obtain ⟨H, up, hM⟩ := mD R.toH hnd h2
       obtain ⟨g1, g2⟩ := a0m h1
       generalize hgs : A6 (s5 ids 0) s.h rows.length s.h = gs
       have hgm : ∀ p ∈ gs, rows.length ≤ p.1 ∧ p.1 < rows.length + gs.length ∧ ((∃ id k cs, LS.hf s.h id = .B3 k cs ∧ p.2 = .B3 k (cs.map fun x => (m8 (s5 ids 0) 3 x).getD .dead)) ∨ ∃ id b q f, LS.hf s.h id = .mp b q f ∧ p.2 = .mp b q f) := by
         intro p hp
         rw [← hgs] at hp ⊢
         exact b1L _ _ p hp
       have hcase : ∀ id, LS.hf (j3 0 rows ++ gs) id = u5 0 rows id ∨ (u5 0 rows id = .free ∧ ((∃ i k cs, LS.hf s.h i = .B3 k cs ∧ LS.hf (j3 0 rows ++ gs) id = .B3 k (cs.map fun x => (m8 (s5 ids 0) 3 x).getD .dead)) ∨ ∃ i b q f, LS.hf s.h i = .mp b q f ∧ LS.hf (j3 0 rows ++ gs) id = .mp b q f)) := by
         intro id
         have hr := congrFun (b2J 0 rows) id
         simp only [LS.hf] at hr
         simp only [LS.hf, lookup_append]
         cases hl : (j3 0 rows).lookup id with
         | some x => rw [hl] at hr; exact .inl hr
         | none =>
           rw [hl] at hr
           cases hl2 : gs.lookup id with
           | none => exact .inl hr
           | some x =>
             obtain ⟨_, _, ⟨i, k, cs, e1, e2⟩ | ⟨i, b, q, f, e1, e2⟩⟩ := hgm _ (uU hl2)
             · exact .inr ⟨hr.symm, .inl ⟨i, k, cs, e1, e2⟩⟩
             · exact .inr ⟨hr.symm, .inr ⟨i, b, q, f, e1, e2⟩⟩
       have hh : u1 M0 (renρ ρ ids 0) (LS.hf (j3 0 rows ++ gs)) = u1 M0 (renρ ρ ids 0) (u5 0 rows) := dH fun id r => by
         rcases hcase id with h | ⟨h, ⟨_, _, _, _, h'⟩ | ⟨_, _, _, _, _, h'⟩⟩
         · rw [h]
         · rw [h, h']; simp
         · rw [h, h']; simp
       refine ⟨renρ ρ ids 0, ⟨?_, ?_, ?_, ?_, ?_, H.V4, R.m0, R.defers, ?_, ?_, ?_, R.iT, ?_, ?_, R.qE⟩, ?_⟩
       · rw [R.n]; exact g1.symm
       · intro i
         show u3 (u1 M0 (renρ ρ ids 0) (LS.hf (j3 0 rows ++ gs))) (renρ ρ ids 0) w (LS.tf t i) _
         rw [hh]
         simp only [LS.tf, List.getD_eq_getElem?_getD]
         cases hy : t[i]? with
         | none => exact .dead _
         | some y =>
           obtain ⟨x, e1, e2⟩ := g2 i y hy
           rcases e2 with e2 | rfl
           · have hx := R.tm i
             simp only [LS.n9, LS.tf, List.getD_eq_getElem?_getD, e1, Option.getD_some] at hx
             exact up 3 x y _ e2 hx
           · exact .dead _
       · intro id r h
         have h : LS.hf (j3 0 rows ++ gs) id = .live r := h
         show ∃ b β arr e, renρ ρ ids 0 id = some (b, β, r.sz) ∧ _ ∧ _ ∧ _ ∧ _ ∧ ∀ (i j : Nat) e x u, _ → _ → _ → u3 (u1 M0 (renρ ρ ids 0) (LS.hf (j3 0 rows ++ gs))) (renρ ρ ids 0) w x u
         rw [hh]
         rcases hcase id with h3 | ⟨_, ⟨_, _, _, _, h'⟩ | ⟨_, _, _, _, _, h'⟩⟩
         · rw [h3] at h; exact H.live id r h
         · rw [h'] at h; cases h
         · rw [h'] at h; cases h
       · intro id h
         have h : LS.hf (j3 0 rows ++ gs) id = .free := h
         rcases hcase id with h3 | ⟨_, ⟨_, _, _, _, h'⟩ | ⟨_, _, _, _, _, h'⟩⟩
         · rw [h3] at h; exact H.free id h
         · rw [h'] at h; cases h
         · rw [h'] at h; cases h
       · intro id id' r r' b β β' z z' h h'
         have h : LS.hf (j3 0 rows ++ gs) id = .live r := h
         have h' : LS.hf (j3 0 rows ++ gs) id' = .live r' := h'
         rcases hcase id with h3 | ⟨_, ⟨_, _, _, _, h4⟩ | ⟨_, _, _, _, _, h4⟩⟩
         · rcases hcase id' with h5 | ⟨_, ⟨_, _, _, _, h6⟩ | ⟨_, _, _, _, _, h6⟩⟩
           · rw [h3] at h; rw [h5] at h'; exact H.inj id id' r r' b β β' z z' h h'
           · rw [h6] at h'; cases h'
           · rw [h6] at h'; cases h'
         · rw [h4] at h; cases h
         · rw [h4] at h; cases h
       · intro id k cs' h i x hx
         have h : LS.hf (j3 0 rows ++ gs) id = .B3 k cs' := h
         show u3 (u1 M0 (renρ ρ ids 0) (LS.hf (j3 0 rows ++ gs))) (renρ ρ ids 0) w x _
         rw [hh]
         rcases hcase id with h3 | ⟨_, ⟨i0, k0, cs, h4, h5⟩ | ⟨_, _, _, _, _, h5⟩⟩
         · rw [h3] at h
           unfold u5 at h
           split at h <;> cases h
         · rw [h5] at h
           cases h
           rw [List.getElem?_map] at hx
           cases hc : cs[i]? with
           | none => rw [hc] at hx; cases hx
           | some x0 =>
             rw [hc] at hx
             cases hx
             have h6 := R.oR i0 k cs h4 i x0 hc
             simp only
             cases hr : m8 (s5 ids 0) 3 x0 with
             | none => exact .dead _
             | some y => exact up 3 x0 y _ hr h6
         · rw [h5] at h; cases h
       · intro x u hx
         show u3 (u1 M0 (renρ ρ ids 0) (LS.hf (j3 0 rows ++ gs))) (fun _ => none) w x u
         rw [hh]
         exact (R.mQ x u hx).qU hM
       · intro id b q f h
         have h : LS.hf (j3 0 rows ++ gs) id = .mp b q f := h
         rcases hcase id with h3 | ⟨_, ⟨_, _, _, _, h5⟩ | ⟨i0, b0, q0, f0, h4, h5⟩⟩
         · rw [h3] at h
           unfold u5 at h
           split at h <;> cases h
         · rw [h5] at h; cases h
         · rw [h5] at h; cases h; exact R.mR i0 _ _ _ h4
       · intro id r p h hp
         have h : LS.hf (j3 0 rows ++ gs) id = .live r := h
         rcases hcase id with h3 | ⟨_, ⟨_, _, _, _, h5⟩ | ⟨_, _, _, _, _, h5⟩⟩
         · rw [h3] at h
           unfold u5 at h
           split at h
           · rename_i hr
             have hlt : id - 0 < rows.length := by omega
             obtain ⟨id1, row1, e1, e2, _⟩ := (cJ h2).2 (id - 0) (rows.getD (id - 0) ⟨0, [], 0⟩) (by rw [List.getD_eq_getElem?_getD, List.getElem?_eq_getElem hlt, Option.getD_some])
             simp only [renρ, if_pos hr.1, e1, Option.bind_some] at hp
             exact R.eG id1 row1 p e2 hp
           · cases h
         · rw [h5] at h; cases h
         · rw [h5] at h; cases h
       · intro id b q f h
         have h : LS.hf (j3 0 rows ++ gs) id = .mp b q f := h
         rcases hcase id with h3 | ⟨_, ⟨_, _, _, _, h5⟩ | ⟨i0, b0, q0, f0, h4, h5⟩⟩
         · rw [h3] at h
           unfold u5 at h
           split at h <;> cases h
         · rw [h5] at h; cases h
         · rw [h5] at h; cases h; exact R.pM i0 _ _ _ h4
       · intro p hp
         simp only [List.mem_append] at hp
         rcases hp with hp | hp
         · have := sJ rows 0 p hp
           simp only; omega
         · exact (hgm p hp).2.1
 · cases h
end
section
def a1n (P : Program) (fn : Func) (y : AV) (e : Exit) (s : LS) : Prop :=
 (match e with | .normal | .ret => True | _ => False) ∧ ∃ x, xH P s.n9 fn.results.toList = some x ∧ D8 s.n9.h 6 x = some y
def a1p (P : Program) (fn : Func) (y : Nat → AV) (rows : Nat → List Row) (e : Exit) (s : LS) : Prop :=
 (match e with | .normal | .ret => True | _ => False) ∧ ∃ x, xH P s.n9 fn.results.toList = some x ∧ ∃ ids : List Nat, ids.Nodup ∧ ∀ nid, m8 (s5 ids nid) 4 x = some (y nid) ∧ a7 s.n9.h (s5 ids nid) ids = some (rows nid)
def G0 : Gh := ⟨fun _ _ => undef, fun _ _ => False, fun _ => none, fun _ => none, []⟩
def nL (fn : Func) (xs : List AV) : LS := ⟨xs ++ List.replicate (fn.ntmps - xs.length) .dead, [], 0⟩
section
variable {P : Program} {f : FuncId} {fn : Func} {c : Code} {xs : List AV}
theorem a3o {M : Nat → Nat → Prop} {w : World} {args : Array Value} (hM : ∀ b o, M b o → b < w.heap.size) (hargs : RC M (fun _ => none) w xs args) :
   F6 G0 M w (nL fn xs) (fun _ => none) { tmps := args ++ Array.replicate (fn.ntmps - args.size) undef, defers := [] } w := by
 have hh : (nL fn xs).n9.h = fun _ => .free := by funext id; simp [nL, LS.n9, LS.hf]
 have hMM : ∀ b o, u1 M (fun _ => none) (nL fn xs).n9.h b o → M b o := by
   rintro b o (g | ⟨id, r, β, z, g1, g2, g3⟩)
   · exact g
   · cases g2
 refine ⟨⟨?_, ?_, ?_, fun _ _ => rfl, ?_, Below.refl _ _, (fun b o h => .inl (hM b o h)), rfl, ?_, fun _ _ h => h.elim, ?_, (fun _ _ h => nomatch h), ?_, ?_, (fun _ _ h => nomatch h)⟩, ?_⟩
 · simp [nL, LS.n9, hargs.1]
 · intro t
   simp only [nL, LS.n9, LS.tf, List.getD_eq_getElem?_getD]
   by_cases ht : t < xs.length
   · rw [List.getElem?_append_left ht, List.getElem?_eq_getElem ht, Option.getD_some]
     have h2 : t < args.size := by rw [hargs.1]; exact ht
     have e : (args ++ Array.replicate (fn.ntmps - args.size) undef).getD t undef = args[t] := by
       rw [Array.getD_eq_getD_getElem?, Array.getElem?_append_left h2]
       simp [h2]
     rw [e]
     exact (hargs.2 t xs[t] args[t] (by simp [ht]) (by simp [h2])).qU hMM
   · rw [List.getElem?_append_right (by omega)]
     have : ((List.replicate (fn.ntmps - xs.length) AV.dead)[t - xs.length]?).getD .dead = .dead := by
       rw [List.getElem?_replicate]; split <;> rfl
     rw [this]
     exact .dead _
 · intro id r h; rw [hh] at h; cases h
 · intro id id' r r' b β β' z z' h; rw [hh] at h; cases h
 · intro id k cs h; rw [hh] at h; cases h
 · intro id b q f h; rw [hh] at h; cases h
 · intro id r p h; rw [hh] at h; cases h
 · intro id b q f h; rw [hh] at h; cases h
 · intro p hp; cases hp
theorem a4T [j5 P] {y : AV} (hf : P.funcs[f]? = some fn) (hb : fn.body = some c) (hn : (fn.name == "runtime.NumGoroutine") = false) (h : gH (md := false) P c (nL fn xs) (a1n P fn y)) : e8 P f xs (fun _ => y) (fun _ => []) := by
 refine ⟨⟨fn, hf, by simp [hb], hn⟩, fun nid M w args hg hM hargs => ?_⟩
 refine callsIn_wide.1 (callsIn_of_wp_marks (F := Fence.wide) (n := 0) hf hb trivial (h none (fun _ => rfl) G0 M w _ _ w _ hg (a3o hM hargs) ?_))
 intro Ds e s' ρ' a' w' hDs k RX
 have key : ∀ (a' : Act) (w' : World), F6 G0 M w s' ρ' a' w' → ∃ v, (results fn a'.tmps).run P w' = .ok v w' ∧ ∃ ρ, lU M w (u5 nid []) ρ w' ∧ u3 (u1 M ρ (u5 nid [])) ρ w' y v := by
   intro a' w' R
   obtain ⟨_, x, hx, hy⟩ := k
   obtain ⟨v, h1, h2⟩ := dE R.1 hx
   have h3 := gS R.1.toH (a8 s'.n9.h 6 x) 6 x y v (fun _ h => h) hy h2
   have hfree : ∀ id, u5 nid [] id = .free := by intro id; unfold u5; rw [if_neg (by simp)]
   refine ⟨v, h1, fun _ => none, ⟨?_, fun _ _ => rfl, ?_, R.1.V4, fun b o g => ⟨Nat.lt_of_lt_of_le (hM b o g) R.1.V4.size, fun id r p h => by rw [hfree] at h; cases h⟩⟩, h3.qU ?_⟩
   · intro id r h; rw [hfree] at h; cases h
   · intro id id' r r' b β β' z z' h; rw [hfree] at h; cases h
   · rintro b o (g | ⟨id, r, β, z, g1, g2, g3⟩)
     · exact .inl g
     · cases g2
 have fin := nU (P := P) (fn := fn) (R' := fun e w' => ∃ v ρ, e = .returned v ∧ lU M w (u5 nid []) ρ w' ∧ u3 (u1 M ρ (u5 nid [])) ρ w' y v) Ds hDs rfl (fun b o h => .inl (hM b o h)) RX.1 (fun a2 w2 _ R2 => let ⟨v, h1, ρ, h2, h3⟩ := key a2 w2 ⟨R2, RX.2⟩; ⟨v, h1, v, ρ, rfl, h2, h3⟩)
 have k1 := k.1
 cases e <;> first
   | exact fin
   | exact k1.elim
theorem qR [j5 P] {y : Nat → AV} {rows : Nat → List Row} (hf : P.funcs[f]? = some fn) (hb : fn.body = some c) (hn : (fn.name == "runtime.NumGoroutine") = false) (h : gH (md := false) P c (nL fn xs) (a1p P fn y rows)) : e8 P f xs y rows := by
 refine ⟨⟨fn, hf, by simp [hb], hn⟩, fun nid M w args hg hM hargs => ?_⟩
 refine callsIn_wide.1 (callsIn_of_wp_marks (F := Fence.wide) (n := 0) hf hb trivial (h none (fun _ => rfl) G0 M w _ _ w _ hg (a3o hM hargs) ?_))
 intro Ds e s' ρ' a' w' hDs k RX
 have key : ∀ (a' : Act) (w' : World), F6 G0 M w s' ρ' a' w' → ∃ v, (results fn a'.tmps).run P w' = .ok v w' ∧ ∃ ρ, lU M w (u5 nid (rows nid)) ρ w' ∧ u3 (u1 M ρ (u5 nid (rows nid))) ρ w' (y nid) v := by
   intro a' w' R
   obtain ⟨_, x, hx, ids, hnd, hy⟩ := k
   obtain ⟨v, h1, h2⟩ := dE R.1 hx
   obtain ⟨H, up, _⟩ := mD R.1.toH hnd (hy nid).2
   exact ⟨v, h1, _, H, up 4 x _ v (hy nid).1 h2⟩
 have fin := nU (P := P) (fn := fn) (R' := fun e w' => ∃ v ρ, e = .returned v ∧ lU M w (u5 nid (rows nid)) ρ w' ∧ u3 (u1 M ρ (u5 nid (rows nid))) ρ w' (y nid) v) Ds hDs rfl (fun b o h => .inl (hM b o h)) RX.1 (fun a2 w2 _ R2 => let ⟨v, h1, ρ, h2, h3⟩ := key a2 w2 ⟨R2, RX.2⟩; ⟨v, h1, v, ρ, rfl, h2, h3⟩)
 have k1 := k.1
 cases e <;> first
   | exact fin
   | exact k1.elim
end
end
def LS.ev (t : List AV) : Operand → AV
 | .tmp i => LS.tf t i
 | .const x => AV.aS x
 | .global g => .v (.pointer (some ⟨g, 0, none⟩))
 | .func f => .fn f []
theorem LS.lL (s : LS) (x : Operand) : s.n9.ev x = LS.ev s.t x := by cases x <;> rfl
def a4F (k : IntKind) (a b : Int) : Int := k.wrap (BitVec.ofInt k.bits a &&& BitVec.ofInt k.bits b).toNat
def orK (k : IntKind) (a b : Int) : Int := k.wrap (BitVec.ofInt k.bits a ||| BitVec.ofInt k.bits b).toNat
def b60 (k : IntKind) (a b : Int) : Int := k.wrap (BitVec.ofInt k.bits a ^^^ BitVec.ofInt k.bits b).toNat
def rT (k : IntKind) (a b : Int) : Int := k.wrap (BitVec.ofInt k.bits a &&& ~~~BitVec.ofInt k.bits b).toNat
def b6F (k : IntKind) (n : Int) : Int := k.wrap (BitVec.ofInt k.bits (if k.signed then -1 else k.max) ^^^ BitVec.ofInt k.bits n).toNat
def a9j (k : IntKind) (a b : Int) : Int := k.wrap (a * 2 ^ (min b.toNat k.bits))
def b5B (k : IntKind) (a b : Int) : Int := a.fdiv (2 ^ (min b.toNat k.bits))
def H5 (op : BinOp) (x y : Value) : Option (Prop × Value) :=
 match x, y with
 | .int k a, .int k' b => match op with
   | .shl => some (0 ≤ b, .int k (a9j k a b))
   | .shr => some (0 ≤ b, .int k (b5B k a b))
   | .add => if k = k' then some (True, .int k (k.wrap (a + b))) else none
   | .sub => if k = k' then some (True, .int k (k.wrap (a - b))) else none
   | .mul => if k = k' then some (True, .int k (k.wrap (a * b))) else none
   | .quo => if k = k' then some (b ≠ 0, .int k (k.wrap (a.tdiv b))) else none
   | .rem => if k = k' then some (b ≠ 0, .int k (a.tmod b)) else none
   | .and => if k = k' then some (True, .int k (a4F k a b)) else none
   | .or => if k = k' then some (True, .int k (orK k a b)) else none
   | .xor => if k = k' then some (True, .int k (b60 k a b)) else none
   | .andNot => if k = k' then some (True, .int k (rT k a b)) else none
   | .eql => if k = k' then some (True, .bool (decide (a = b))) else none
   | .neq => if k = k' then some (True, .bool (decide (a ≠ b))) else none
   | .lss => if k = k' then some (True, .bool (decide (a < b))) else none
   | .leq => if k = k' then some (True, .bool (decide (a ≤ b))) else none
   | .gtr => if k = k' then some (True, .bool (decide (b < a))) else none
   | .geq => if k = k' then some (True, .bool (decide (b ≤ a))) else none
 | .string a, .string b => match op with
   | .eql => some (True, .bool (decide (a = b)))
   | .neq => some (True, .bool (decide (a ≠ b)))
   | .add => some ((a.size + b.size : Nat) ≤ 9223372036854775807, .string (a ++ b))
   | _ => none
 | _, _ => none
theorem toList_eq (a b : ByteArray) : (a.toList == b.toList) = decide (a = b) := by
 by_cases h : a = b
 · subst h; simp
 · rw [decide_eq_false h]
   have : a.toList ≠ b.toList := by
     intro e
     apply h
     rw [ByteArray.toList_eq, ByteArray.toList_eq] at e
     cases a; cases b
     simp only [ByteArray.mk.injEq]
     exact Array.ext' e
   simpa using this
theorem a4N {P : Program} {op : BinOp} {t : TypeId} {xo yo : Operand} {x y z : Value} {c : Prop} (h : H5 op x y = some (c, z)) (hc : c) : a95 P op t xo yo x y z := by
 intro w
 unfold H5 at h
 split at h
 · rename_i k a k' b
   have hg : ∀ op, (eqGuard op t xo yo (.int k a) (.int k' b)).run P w = .ok () w := by intro op; cases op <;> rfl
   simp only [Sem.run_bind, hg, Result.andThen_ok]
   cases op <;> simp only at h
   case shl =>
     simp only [Option.some.injEq, Prod.mk.injEq] at h
     obtain ⟨rfl, rfl⟩ := h
     simp [binOp, Op.shift, Int.not_lt.2 hc, a9j]
   case shr =>
     simp only [Option.some.injEq, Prod.mk.injEq] at h
     obtain ⟨rfl, rfl⟩ := h
     simp [binOp, Op.shift, Int.not_lt.2 hc, b5B]
   all_goals
     split at h
     · rename_i hk
       subst hk
       simp only [Option.some.injEq, Prod.mk.injEq] at h
       obtain ⟨rfl, rfl⟩ := h
       first
         | (simp [binOp, Op.intArith]; done)
         | (simp [binOp, Op.intDiv, hc]; done)
         | (simp [binOp, Op.intBits, a4F, orK, b60, rT]; done)
         | (simp [binOp, Op.intCmp]; done)
         | (simp [binOp, Op.intCmp]; rw [Bool.eq_iff_iff]; simp; done)
     · cases h
 · rename_i a b
   have hg : ∀ op, (eqGuard op t xo yo (.string a) (.string b)).run P w = .ok () w := by intro op; cases op <;> rfl
   simp only [Sem.run_bind, hg, Result.andThen_ok]
   cases op <;> simp only at h <;> (try (cases h; done))
   all_goals
     simp only [Option.some.injEq, Prod.mk.injEq] at h
     obtain ⟨rfl, rfl⟩ := h
     first
       | (simp [binOp, Op.stringOp, toList_eq]; done)
       | (have : ¬ (((a.size + b.size : Nat) : Int) > IntKind.i64.max) := by simp [IntKind.max, IntKind.bits, IntKind.signed]; omega
          simp [binOp, Op.stringOp]; omega)
 · cases h
end Go.Ab
end
section
namespace Go.Ab
section
inductive Sc where
 | int (k : IntKind)
 | bool
 | str
def Z8 : Sc → Value → Bool
 | .int k, .int k' _ => decide (k' = k)
 | .bool, .bool _ => true
 | .str, .string _ => true
 | _, _ => false
def sL : List Sc → List Value → Bool
 | [], [] => true
 | s :: l, x :: xs => Z8 s x && sL l xs
 | _, _ => false
def eqV : Value → Value → Bool
 | .int _ a, .int _ b => decide (a = b)
 | .bool a, .bool b => decide (a = b)
 | .string a, .string b => decide (a = b)
 | _, _ => false
def eqL : List Value → List Value → Bool
 | [], [] => true
 | x :: xs, y :: ys => eqV x y && eqL xs ys
 | _, _ => false
def plF (P : Program) (rec : TypeId → Option (List Sc)) : List Field → Nat → Option (List Sc)
 | [], _ => some []
 | f :: fs, o => if f.name ≠ "_" ∧ f.offset = o then (rec f.type).bind fun l => if (ti P f.type).map (·.size) = some l.length then (plF P rec fs (o + l.length)).map (l ++ ·) else none else none
def plT (P : Program) : Nat → TypeId → Option (List Sc)
 | 0, _ => none
 | n + 1, t => match P.underlying t with
   | some (.int k) => some [.int k]
   | some .bool => some [.bool]
   | some .string => some [.str]
   | some (.struct fs) => if P.stoodInHeld t then none else plF P (plT P n) fs.toList 0
   | some (.array len e) => (plT P n e).bind fun l => if (ti P e).map (·.size) = some l.length then some (List.replicate len l).flatten else none
   | _ => none
def plC (P : Program) (t : TypeId) : Option (List Sc) := if P.eqGuardType P.depth t then none else plT P 20 t
theorem fU : ∀ {l : List Sc} {xs : List Value}, sL l xs = true → xs.length = l.length := by
 intro l
 induction l with
 | nil => intro xs h; cases xs <;> simp_all [sL]
 | cons s l ih =>
   intro xs h
   cases xs with
   | nil => simp [sL] at h
   | cons x xs => simp only [sL, Bool.and_eq_true] at h; simp [ih h.2]
theorem sM : ∀ {l l' : List Sc} {xs : List Value}, sL (l ++ l') xs = true → sL l (xs.take l.length) = true ∧ sL l' (xs.drop l.length) = true := by
 intro l
 induction l with
 | nil => intro l' xs h; exact ⟨by simp [sL], by simpa using h⟩
 | cons s l ih =>
   intro l' xs h
   cases xs with
   | nil => simp [sL] at h
   | cons x xs =>
     simp only [List.cons_append, sL, Bool.and_eq_true] at h
     obtain ⟨h1, h2⟩ := ih h.2
     simp only [List.length_cons, List.take_succ_cons, List.drop_succ_cons, sL, Bool.and_eq_true]
     exact ⟨⟨h.1, h1⟩, h2⟩
theorem a62 : ∀ (n : Nat) (xs ys : List Value), xs.length = ys.length → eqL xs ys = (eqL (xs.take n) (ys.take n) && eqL (xs.drop n) (ys.drop n)) := by
 intro n
 induction n with
 | zero => intro xs ys _; simp [eqL]
 | succ n ih =>
   intro xs ys h
   cases xs with
   | nil => cases ys with
     | nil => simp [eqL]
     | cons y ys => simp at h
   | cons x xs => cases ys with
     | nil => simp at h
     | cons y ys =>
       simp only [List.take_succ_cons, List.drop_succ_cons, eqL, Bool.and_assoc]
       rw [ih xs ys (by simpa using h)]
def mkV (P : Program) (t : TypeId) (xs : List Value) : Value :=
 match P.underlying t with
 | some (.struct _) | some (.array _ _) => .agg xs.toArray
 | _ => xs.headD undef
section
variable {P : Program}
theorem sK {t : TypeId} {T : TI} {l : List Sc} (hT : ti P t = some T) (hs : T.size = l.length) {xs : List Value} {off : Nat} (h : off + l.length ≤ xs.length) (w : World) :
   (part t xs.toArray off).run P w = .ok (mkV P t ((xs.drop off).take l.length)) w := by
 obtain ⟨i, d, z, h1, h2, h3, h4, h5, h6, h7, h8, h9⟩ := aT hT
 have hpos : 0 < l.length := by omega
 simp only [part, Sem.run_bind, mG hT, Result.andThen_ok, h7, mkV, h2]
 have aO := D9 hT w
 have hlt : off < xs.length := by omega
 cases d with
 | struct fs =>
   simp only [uD, if_true, Sem.run_bind, aO, Result.andThen_ok, Sem.run_pure, hs]
   congr 2
   apply Array.ext'
   simp
 | array n e =>
   simp only [uD, if_true, Sem.run_bind, aO, Result.andThen_ok, Sem.run_pure, hs]
   congr 2
   apply Array.ext'
   simp
 | _ =>
   simp only [uD, Bool.false_eq_true, if_false]
   have e : (xs.drop off).take l.length = xs[off] :: ((xs.drop (off + 1)).take (l.length - 1)) := by
     rw [List.drop_eq_getElem_cons hlt]
     obtain ⟨m, hm⟩ : ∃ m, l.length = m + 1 := ⟨l.length - 1, by omega⟩
     rw [hm, List.take_succ_cons, Nat.add_sub_cancel]
   rw [e]
   simp [hlt]
def a9y (P : Program) (n : Nat) : Prop := ∀ (t : TypeId) (l : List Sc), plT P n t = some l → ∀ d, n ≤ d → ∀ (xs ys : List Value) (w : World), sL l xs = true → sL l ys = true →
 (Op.equalIn d t (mkV P t xs) (mkV P t ys)).run P w = .ok (eqL xs ys) w
theorem a3a {n : Nat} (ih : a9y P n) {d : Nat} (hd : n ≤ d) (xs ys : List Value) (w : World) : ∀ (fs : List Field) (o : Nat) (l : List Sc), plF P (plT P n) fs o = some l → sL l (xs.drop o) = true → sL l (ys.drop o) = true → o ≤ xs.length → o ≤ ys.length →
   (Op.eqFields d xs.toArray ys.toArray fs).run P w = .ok (eqL (xs.drop o) (ys.drop o)) w := by
 intro fs
 induction fs with
 | nil =>
   intro o l h h1 h2 _ _
   cases h
   have e1 := fU h1
   have e2 := fU h2
   rw [List.length_nil, List.length_eq_zero_iff] at e1 e2
   rw [e1, e2]
   simp [Op.eqFields, eqL]
 | cons f fs ihf =>
   intro o l h h1 h2 b1 b2
   simp only [plF] at h
   split at h
   · rename_i hf
     simp only [Option.bind_eq_some_iff] at h
     obtain ⟨lf, e1, h⟩ := h
     split at h
     · rename_i aO
       simp only [Option.map_eq_some_iff] at h aO
       obtain ⟨T, hT, hT2⟩ := aO
       obtain ⟨l2, e2, rfl⟩ := h
       obtain ⟨q1, q2⟩ := sM h1
       obtain ⟨q3, q4⟩ := sM h2
       rw [List.drop_drop] at q2 q4
       have n1 := fU h1
       have n2 := fU h2
       simp only [List.length_drop, List.length_append] at n1 n2
       simp only [Op.eqFields]
       rw [if_pos hf.1]
       rw [hf.2]
       simp only [Sem.run_bind, sK hT hT2 (xs := xs) (off := o) (by omega) w, sK hT hT2 (xs := ys) (off := o) (by omega) w, Result.andThen_ok, ih f.type lf e1 d hd _ _ w q1 q3]
       have hrec := ihf (o + lf.length) l2 e2 q2 q4 (by omega) (by omega)
       rw [a62 lf.length (xs.drop o) (ys.drop o) (by simp; omega), List.drop_drop, List.drop_drop]
       cases hb : eqL ((xs.drop o).take lf.length) ((ys.drop o).take lf.length)
       · simp
       · simp [hrec]
     · cases h
   · cases h
theorem a5c {n : Nat} (ih : a9y P n) {d : Nat} (hd : n ≤ d) {e : TypeId} {le : List Sc} {T : TI} (hT : ti P e = some T) (hs : T.size = le.length) (hc : P.cellsOf e = le.length) (he : plT P n e = some le) (xs ys : List Value) (w : World) :
   ∀ (k o : Nat), sL (List.replicate k le).flatten (xs.drop (o * le.length)) = true → sL (List.replicate k le).flatten (ys.drop (o * le.length)) = true → o * le.length ≤ xs.length → o * le.length ≤ ys.length →
   (Op.eqItems d e (P.cellsOf e) xs.toArray ys.toArray (List.range' o k)).run P w = .ok (eqL (xs.drop (o * le.length)) (ys.drop (o * le.length))) w := by
 intro k
 induction k with
 | zero =>
   intro o h1 h2 _ _
   have e1 := fU h1
   have e2 := fU h2
   simp only [List.replicate_zero, List.flatten_nil, List.length_nil, List.length_eq_zero_iff] at e1 e2
   rw [e1, e2]
   simp [Op.eqItems, eqL]
 | succ k ihk =>
   intro o h1 h2 b1 b2
   rw [List.replicate_succ, List.flatten_cons] at h1 h2
   obtain ⟨q1, q2⟩ := sM h1
   obtain ⟨q3, q4⟩ := sM h2
   have n1 := fU h1
   have n2 := fU h2
   simp only [List.length_drop, List.length_append] at n1 n2
   have eo : (o + 1) * le.length = o * le.length + le.length := by rw [Nat.add_mul, Nat.one_mul]
   rw [List.drop_drop, ← eo] at q2 q4
   rw [List.range'_succ]
   simp only [Op.eqItems, hc, Sem.run_bind, sK hT hs (xs := xs) (off := o * le.length) (by omega) w, sK hT hs (xs := ys) (off := o * le.length) (by omega) w, Result.andThen_ok, ih e le he d hd _ _ w q1 q3]
   have hrec := ihk (o + 1) q2 q4 (by omega) (by omega)
   rw [hc] at hrec
   rw [a62 le.length (xs.drop (o * le.length)) (ys.drop (o * le.length)) (by simp; omega), List.drop_drop, List.drop_drop, ← eo]
   cases hb : eqL ((xs.drop (o * le.length)).take le.length) ((ys.drop (o * le.length)).take le.length)
   · simp
   · simp [hrec]
theorem b6t (n : Nat) : a9y P n := by
 induction n with
 | zero => intro t l h; cases h
 | succ n ih =>
   intro t l h d hd xs ys w h1 h2
   obtain ⟨d, rfl⟩ : ∃ d', d = d' + 1 := ⟨d - 1, by omega⟩
   have one : ∀ {s : Sc} {zs : List Value}, sL [s] zs = true → ∃ z, zs = [z] ∧ Z8 s z = true := by
     intro s zs hz
     cases zs with
     | nil => simp [sL] at hz
     | cons z zs =>
       cases zs with
       | nil => simp [sL] at hz; exact ⟨z, rfl, hz⟩
       | cons _ _ => simp [sL] at hz
   unfold plT at h
   split at h
   · rename_i k hu
     cases h
     obtain ⟨x, rfl, hx⟩ := one h1
     obtain ⟨y, rfl, hy⟩ := one h2
     cases x <;> simp only [Z8, Bool.false_eq_true, decide_eq_true_eq] at hx
     cases y <;> simp only [Z8, Bool.false_eq_true, decide_eq_true_eq] at hy
     subst hx; subst hy
     simp only [mkV, hu, List.headD_cons]
     rw [run_equalIn_int w d t _ _ _ _ hu]
     simp only [eqL, eqV, Bool.and_true]
     rfl
   · rename_i hu
     cases h
     obtain ⟨x, rfl, hx⟩ := one h1
     obtain ⟨y, rfl, hy⟩ := one h2
     cases x <;> simp only [Z8, Bool.false_eq_true] at hx
     cases y <;> simp only [Z8, Bool.false_eq_true] at hy
     simp only [mkV, hu, List.headD_cons]
     rw [run_equalIn_bool w d t _ _ hu]
     simp only [eqL, eqV, Bool.and_true]
     rename_i a b
     cases a <;> cases b <;> rfl
   · rename_i hu
     cases h
     obtain ⟨x, rfl, hx⟩ := one h1
     obtain ⟨y, rfl, hy⟩ := one h2
     cases x <;> simp only [Z8, Bool.false_eq_true] at hx
     cases y <;> simp only [Z8, Bool.false_eq_true] at hy
     simp only [mkV, hu, List.headD_cons]
     rw [run_equalIn_string w d t _ _ hu]
     simp only [eqL, eqV, Bool.and_true, toList_eq]
   · rename_i fs hu
     split at h
     · cases h
     · rename_i hst
       have hst : P.stoodInHeld t = false := by simpa using hst
       have hfs : P.fieldsOf t = fs := by simp [Program.fieldsOf, hu]
       simp only [mkV, hu]
       rw [run_equalIn_struct w d t _ _ (by rw [hfs]; exact hu) hst, hfs]
       have := a3a ih (by omega : n ≤ d) xs ys w fs.toList 0 l h (by simpa using h1) (by simpa using h2) (by simp) (by simp)
       simpa using this
   · rename_i len e hu
     simp only [Option.bind_eq_some_iff] at h
     obtain ⟨le, he, h⟩ := h
     split at h
     · rename_i aO
       cases h
       simp only [Option.map_eq_some_iff] at aO
       obtain ⟨T, hT, hT2⟩ := aO
       obtain ⟨i, dd, z, k1, k2, k3, k4, k5, k6, k7, k8, k9⟩ := aT hT
       have hc : P.cellsOf e = le.length := by
         have := run_sizeOf w k1
         rw [D9 hT] at this
         simp only [Result.ok.injEq, and_true] at this
         rw [← this]; exact hT2
       simp only [mkV, hu]
       rw [run_equalIn_array w d _ _ hu k1]
       have := a5c ih (by omega : n ≤ d) hT hT2 hc he xs ys w len 0 (by simpa using h1) (by simpa using h2) (by simp) (by simp)
       rw [List.range_eq_range']
       simpa using this
     · cases h
   · cases h
def F2 : List AV → List AV → Option Bool
 | [], [] => some true
 | .v (.int _ a) :: xs, .v (.int _ b) :: ys => (F2 xs ys).map (decide (a = b) && ·)
 | .v (.bool a) :: xs, .v (.bool b) :: ys => (F2 xs ys).map (decide (a = b) && ·)
 | .v (.string a) :: xs, .v (.string b) :: ys => (F2 xs ys).map (decide (a = b) && ·)
 | _, _ => none
def F1 : List Sc → List AV → Bool
 | [], [] => true
 | s :: l, .v x :: xs => Z8 s x && F1 l xs
 | _, _ => false
theorem a7J : ∀ {l : List Sc} {xs : List AV}, F1 l xs = true → ∃ vs, xs = vs.map AV.v ∧ sL l vs = true := by
 intro l
 induction l with
 | nil => intro xs h; cases xs with
   | nil => exact ⟨[], rfl, rfl⟩
   | cons x xs => simp [F1] at h
 | cons s l ih =>
   intro xs h
   cases xs with
   | nil => simp [F1] at h
   | cons x xs =>
     cases x <;> simp only [F1, Bool.false_eq_true, Bool.and_eq_true] at h
     obtain ⟨vs, rfl, h2⟩ := ih h.2
     exact ⟨_ :: vs, rfl, by simp only [sL, Bool.and_eq_true]; exact ⟨h.1, h2⟩⟩
theorem b2y : ∀ {xs ys : List Value} {b : Bool}, F2 (xs.map AV.v) (ys.map AV.v) = some b → eqL xs ys = b := by
 intro xs
 induction xs with
 | nil => intro ys b h; cases ys with
   | nil => cases h; rfl
   | cons y ys => simp [F2] at h
 | cons x xs ih =>
   intro ys b h
   cases ys with
   | nil => simp [F2] at h
   | cons y ys =>
     cases x <;> cases y <;> simp only [List.map_cons, F2, Option.map_eq_some_iff, reduceCtorEq] at h
     all_goals
       obtain ⟨b', h1, rfl⟩ := h
       simp only [eqL, eqV, ih h1]
theorem zP {op : BinOp} {t : TypeId} {xo yo : Operand} {l : List Sc} {xs ys : List AV} {b : Bool} (hl : plC P t = some l) (hagg : ∃ D, td P t = some D ∧ (match D with | .struct _ | .array _ _ => True | _ => False)) (hx : F1 l xs = true) (hy : F1 l ys = true) (hb : F2 xs ys = some b) (hop : op = .eql ∨ op = .neq) :
   ∃ vx vy, xs.mapM AV.scalar = some vx ∧ ys.mapM AV.scalar = some vy ∧ a95 P op t xo yo (.agg vx.toArray) (.agg vy.toArray) (.bool (if op = .eql then b else !b)) := by
 obtain ⟨vx, rfl, h1⟩ := a7J hx
 obtain ⟨vy, rfl, h2⟩ := a7J hy
 have hsc : ∀ l : List Value, (l.map AV.v).mapM AV.scalar = some l := by
   intro l
   induction l with
   | nil => rfl
   | cons x l ih => simp [List.mapM_cons, ih, AV.scalar]
 refine ⟨vx, vy, hsc vx, hsc vy, fun w => ?_⟩
 unfold plC at hl
 split at hl
 · cases hl
 · rename_i hg
   have hg : P.eqGuardType P.depth t = false := by simpa using hg
   have hmk : ∀ vs, mkV P t vs = .agg vs.toArray := by
     intro vs
     obtain ⟨D, hD, hm⟩ := hagg
     unfold td at hD
     unfold mkV
     cases hu : P.underlying t with
     | none => rw [hu] at hD; cases hD
     | some d =>
       rw [hu] at hD
       cases d <;> simp only [Option.map_eq_some_iff, Option.some.injEq] at hD ⊢
       all_goals first
         | (subst hD; exact hm.elim)
         | (obtain ⟨_, _, rfl⟩ := hD; exact hm.elim)
   have key := b6t 20 t l hl 10000 (by omega) vx vy w h1 h2
   rw [hmk, hmk, b2y hb] at key
   simp only [Sem.run_bind, run_eqGuard_agg w op t xo yo _ _ hg, Result.andThen_ok]
   rcases hop with rfl | rfl
   · rw [run_eql_struct, key]; rfl
   · rw [run_neq_struct, key]; rfl
def F9 : BinOp → Bool → Option Bool
 | .eql, b => some b
 | .neq, b => some (!b)
 | _, _ => none
def sD (P : Program) (t : TypeId) : Bool :=
 match P.underlying t with
 | some .bool => true
 | _ => false
theorem a8o {op : BinOp} {t : TypeId} {xo yo : Operand} {a b z : Bool} (hl : sD P t = true) (h : F9 op (decide (a = b)) = some z) : a95 P op t xo yo (.bool a) (.bool b) (.bool z) := by
 intro w
 have hg : ∀ op, (eqGuard op t xo yo (.bool a) (.bool b)).run P w = .ok () w := by intro op; cases op <;> rfl
 have hu : P.underlying t = some .bool := by
   unfold sD at hl
   split at hl <;> first | assumption | cases hl
 have key : (Op.equal t (.bool a) (.bool b)).run P w = .ok (decide (a = b)) w := by
   rw [run_equal_bool w t a b hu]
   cases a <;> cases b <;> rfl
 simp only [Sem.run_bind, hg, Result.andThen_ok]
 unfold F9 at h
 split at h
 · cases h; simp only [binOp, Sem.run_bind, key, Result.andThen_ok, Sem.run_pure]
 · cases h; simp only [binOp, Sem.run_bind, key, Result.andThen_ok, Sem.run_pure]
 · cases h
theorem zQ {op : BinOp} {t : TypeId} {xo yo : Operand} {l : List Sc} {xs ys : List AV} {b z : Bool} (hl : plC P t = some l) (hagg : ∃ D, td P t = some D ∧ (match D with | .struct _ | .array _ _ => True | _ => False)) (hx : F1 l xs = true) (hy : F1 l ys = true) (hb : F2 xs ys = some b) (h : F9 op b = some z) :
   ∃ vx vy, xs.mapM AV.scalar = some vx ∧ ys.mapM AV.scalar = some vy ∧ a95 P op t xo yo (.agg vx.toArray) (.agg vy.toArray) (.bool z) := by
 unfold F9 at h
 split at h
 · cases h
   obtain ⟨vx, vy, h1, h2, h3⟩ := zP (xo := xo) (yo := yo) (op := .eql) hl hagg hx hy hb (.inl rfl)
   exact ⟨vx, vy, h1, h2, h3⟩
 · cases h
   obtain ⟨vx, vy, h1, h2, h3⟩ := zP (xo := xo) (yo := yo) (op := .neq) hl hagg hx hy hb (.inr rfl)
   exact ⟨vx, vy, h1, h2, h3⟩
 · cases h
end
end
end Go.Ab
end
section
namespace Go.Ab
open Go.RowKit (Below)
def bD (op : UnOp) (x : Value) : Option Value :=
 match op, x with
 | .not, .bool b => some (.bool (!b))
 | .neg, .int k n => some (.int k (k.wrap (0 - n)))
 | .xor, .int k n => some (.int k (b6F k n))
 | _, _ => none
def y9 (P : Program) (dst : TypeId) (x : Value) : Option Value :=
 match x, td P dst with
 | .int _ n, some (.int k) => some (.int k (k.wrap n))
 | .string s, some .str => some (.string s)
 | _, _ => none
def H7 (x i : Value) : Option (Prop × Value) :=
 match x, i with
 | .string s, .int _ i => some (0 ≤ i ∧ i < s.size, .int .u8 (s.data.getD i.toNat 0).toNat)
 | _, _ => none
def m9 (x : Option Value) (d : Int) : Option Int :=
 match x with
 | none => some d
 | some (.int _ i) => some i
 | _ => none
def G9 (x : Value) (lo hi : Option Value) : Option (Prop × Value) :=
 match x with
 | .string s => (m9 lo 0).bind fun l => (m9 hi s.size).map fun h => (0 ≤ l ∧ l ≤ h ∧ h ≤ s.size, .string (s.extract l.toNat h.toNat))
 | _ => none
def bB (b : Builtin) (vs : List Value) : Option Value :=
 match b, vs with
 | .max, [.int k x, .int _ y] => some (.int k (if x < y then y else x))
 | .min, [.int k x, .int _ y] => some (.int k (if y < x then y else x))
 | .max, [.int k x, .int _ y, .int _ z] => some (.int k (if (if x < y then y else x) < z then z else (if x < y then y else x)))
 | .min, [.int k x, .int _ y, .int _ z] => some (.int k (if z < (if y < x then y else x) then z else (if y < x then y else x)))
 | _, _ => none
theorem a9o {P : Program} {op : UnOp} {x z : Value} (h : bD op x = some z) : unR P op x z := by
 intro w
 unfold bD at h
 split at h <;> first | (cases h; done) | (cases h; simp [Op.unary, Op.intArith, Op.intBits, b6F])
theorem a2Z {P : Program} {src dst : TypeId} {x z : Value} (h : y9 P dst x = some z) (hs : ∃ d, P.underlying src = some d) : b3I P src dst x z := by
 intro w
 obtain ⟨d, hs⟩ := hs
 unfold y9 at h
 split at h
 · rename_i k n k' hd
   cases h
   have hu : P.underlying dst = some (.int k') := by
     unfold td at hd
     split at hd <;> first | (cases hd; assumption) | (simp at hd; done) | (cases hd; done)
   simp [convert, run_underlying hs, run_underlying hu, Conv.intToInt]
 · rename_i s hd
   cases h
   have hu : P.underlying dst = some .string := by
     unfold td at hd
     split at hd <;> first | assumption | (simp at hd; done) | (cases hd; done)
   simp [convert, run_underlying hs, run_underlying hu]
 · cases h
theorem a5o {P : Program} {t : TypeId} {x i z : Value} {c : Prop} (h : H7 x i = some (c, z)) (hc : c) (hD : td P t = some .str) : b6A P t x i z := by
 intro w
 have hu : P.underlying t = some .string := by
   unfold td at hD
   split at hD <;> first | assumption | (simp at hD; done) | (cases hD; done)
 unfold H7 at h
 split at h
 · rename_i s k i
   simp only [Option.some.injEq, Prod.mk.injEq] at h
   obtain ⟨rfl, rfl⟩ := h
   have hlt : i.toNat < s.size := by omega
   have h1 : s[i.toNat]? = some (s.data.getD i.toNat 0) := by
     have e1 : s[i.toNat]? = some s[i.toNat] := by simp [hlt]
     rw [e1]
     have hl2 : i.toNat < s.data.size := hlt
     rw [Array.getD_eq_getD_getElem?, Array.getElem?_eq_getElem hl2]
     rfl
   simp only [Instr.index, Sem.run_bind, asIntOf, Sem.run_pure, Result.andThen_ok, run_underlying hu]
   rw [if_pos hc.1, h1]
   rfl
 · cases h
theorem a52 {P : Program} {t : TypeId} {x z : Value} {lo hi : Option Value} {c : Prop} (h : G9 x lo hi = some (c, z)) (hc : c) (hD : td P t = some .str) : b6O P t x lo hi none z := by
 intro w
 have hu : P.underlying t = some .string := by
   unfold td at hD
   split at hD <;> first | assumption | (simp at hD; done) | (cases hD; done)
 unfold G9 at h
 split at h
 · rename_i s
   cases hl : m9 lo 0 with
   | none => rw [hl] at h; cases h
   | some l =>
     cases hh : m9 hi s.size with
     | none => rw [hl, hh] at h; cases h
     | some hv =>
       rw [hl, hh] at h
       simp only [Option.bind_some, Option.map_some, Option.some.injEq, Prod.mk.injEq] at h
       obtain ⟨rfl, rfl⟩ := h
       obtain ⟨q1, q2, q3⟩ := hc
       have hhi : (match hi with | some v => Instr.sliceBound v s.size .sliceAlen | none => (pure s.size : Sem Nat)).run P w = .ok hv.toNat w := by
         unfold m9 at hh
         split at hh
         · cases hh; simp
         · cases hh; exact O6 (by omega) q3
         · cases hh
       have hlo : (match lo with | some v => Instr.sliceBound v hv.toNat .sliceB | none => (pure 0 : Sem Nat)).run P w = .ok l.toNat w := by
         unfold m9 at hl
         split at hl
         · cases hl; rfl
         · cases hl; exact O6 q1 (by omega)
         · cases hl
       have hb : (Instr.sliceBounds false s.size s.size lo hi none).run P w = .ok (l.toNat, hv.toNat, s.size) w := by
         simp only [Instr.sliceBounds, Sem.run_bind, Sem.run_pure, Result.andThen_ok]
         cases hi with
         | none =>
           simp only [m9, Option.some.injEq] at hh
           subst hh
           cases lo with
           | none => simp only [m9, Option.some.injEq] at hl; subst hl; simp
           | some v => simp only at hlo; simp at hlo ⊢; simp [hlo]
         | some v =>
           simp only [Bool.false_eq_true, if_false] at hhi ⊢
           simp only [Sem.run_bind, hhi, Result.andThen_ok]
           cases lo with
           | none => simp only [m9, Option.some.injEq] at hl; subst hl; simp
           | some v => simp only at hlo; simp [hlo]
       simp [Instr.sliceAt, run_underlying hu, Instr.slice, hb]
 · cases h
theorem a8O {P : Program} {b : Builtin} {ts : Array TypeId} {t : TypeId} {cs : Array Bool} {vs : List Value} {z : Value} (h : bB b vs = some z) : biR P b ts t cs vs.toArray z := by
 intro w
 unfold bB at h
 split at h <;> first | (cases h; done) | (cases h; simp [builtin, Builtin.max_, Builtin.min_, Builtin.max2, Builtin.min2])
def bC (t : AV) (h : List (Nat × RS)) (n : Nat) : Option (Prop × List AV) :=
 match t with
 | .ptr id i k | .dV id i k => match LS.hf h id with
   | .live r => (r.es[i]?).map fun e => (k + n ≤ r.sz, (e.drop k).take n)
   | _ => none
 | .aP es i k => (es[i]?).map fun e => (k + n ≤ e.length, (e.drop k).take n)
 | _ => none
def y8 : AV → Nat → Option (Prop × AV)
 | .ptr id i k, n => some (True, .ptr id i (k + n))
 | .dV id i k, n => some (True, .dV id i (k + n))
 | .aP es i k, n => (es[i]?).map fun e => (k + n < e.length, .aP es i (k + n))
 | _, _ => none
def a0l (T : TI) (cs : List AV) (off : Nat) : Option (Prop × AV) := (x4 T.agg ((cs.drop off).take T.size)).map fun v => (off + T.size ≤ cs.length, v)
def H6 (D : TD) (h : List (Nat × RS)) (x : AV) (i : Int) : Option (Prop × AV) :=
 match D, x with
 | .slice E, .b7 _ es => some ((∀ e ∈ es, e.length = E.size) ∧ 0 ≤ i ∧ i < es.length, .aP es i.toNat 0)
 | .slice E, .own id off n => match LS.hf h id with
   | .live r => some (r.sz = E.size ∧ 0 ≤ i ∧ i < n ∧ off + n ≤ r.es.length, .dV id (off + i.toNat) 0)
   | _ => none
 | .array n e, .ptr id j k => some (0 ≤ i ∧ i < n, .dV id j (k + i.toNat * e.size))
 | .array n e, .dV id j k => some (0 ≤ i ∧ i < n, .dV id j (k + i.toNat * e.size))
 | _, _ => none
def nM (t : List AV) (x : Option Operand) : Option (Option Int) :=
 match x with
 | none => some none
 | some x => match LS.ev t x with
   | .v (.int _ i) => some (some i)
   | _ => none
def H9 (E : TI) (h : List (Nat × RS)) (x : AV) (l : Int) (hi mx : Option Int) : Option (Prop × AV) :=
 match x with
 | .b7 c es => match mx with
   | none => some ((∀ e ∈ es, e.length = E.size) ∧ 0 ≤ l ∧ l ≤ hi.getD es.length ∧ hi.getD es.length ≤ es.length, .b7 (c && decide (hi.getD es.length = es.length)) ((es.drop l.toNat).take (hi.getD es.length - l).toNat))
   | some m => match hi with
     | some hv => some ((∀ e ∈ es, e.length = E.size) ∧ 0 ≤ l ∧ l ≤ hv ∧ hv ≤ es.length ∧ hv ≤ m ∧ m ≤ es.length, .b7 (decide (m = hv)) ((es.drop l.toNat).take (hv - l).toNat))
     | none => none
 | .own id off n => match LS.hf h id with
   | .live r => match mx with
     | none => some (r.sz = E.size ∧ 0 ≤ l ∧ l ≤ hi.getD n ∧ hi.getD n ≤ n ∧ (l < hi.getD n ∨ l = 0), .own id (off + l.toNat) (hi.getD n - l).toNat)
     | some _ => none
   | _ => none
 | _ => none
def I3 (h : List (Nat × RS)) (E : TI) : AV → Option (Prop × List (List AV))
 | .b7 _ es => some (∀ e ∈ es, e.length = E.size, es)
 | .own id off n => match LS.hf h id with
   | .live r => some (r.sz = E.size ∧ off + n ≤ r.es.length ∧ (∀ e ∈ (r.es.drop off).take n, e.length = E.size), (r.es.drop off).take n)
   | _ => none
 | _ => none
def b2p (E : TI) (h : List (Nat × RS)) (nx : Nat) (x y : AV) : Option (Prop × Fx) :=
 (I3 h E y).bind fun ys => match x with
   | .b7 cl es => match ys.2 with
     | [] => some (ys.1 ∧ (∀ e ∈ es, e.length = E.size), { val := .b7 cl es, fp := n4 y })
     | _ => if cl then some (ys.1 ∧ ys.2 ≠ [] ∧ (∀ e ∈ es, e.length = E.size) ∧ es.length + ys.2.length ≤ 140737488355328 ∧ (es.length + ys.2.length) * E.bytes ≤ 140737488355328,
         { val := .own nx 0 (es.length + ys.2.length), fp := n4 y, new := [⟨E.size, es ++ ys.2, 0⟩] }) else none
   | .own id off n => match LS.hf h id with
     | .live r => some (ys.1 ∧ r.sz = E.size ∧ off + n ≤ r.es.length ∧ r.fro ≤ off + n ∧ (∀ e ∈ ys.2, ∀ x ∈ e, AV.one x = true) ∧ n + ys.2.length ≤ 140737488355328 ∧ (n + ys.2.length) * E.bytes ≤ 140737488355328,
         { val := .own nx 0 (n + ys.2.length), fp := (id, none, true) :: n4 y, kill := some id, new := [⟨E.size, (r.es.drop off).take n ++ ys.2, r.fro - off⟩] })
     | _ => none
   | _ => none
def H8 (x : AV) : Option Int :=
 match x with
 | .b7 _ es => some es.length
 | .own _ _ n => some n
 | _ => none
def w6 (P : Program) (op : Op) (t : List AV) (h : List (Nat × RS)) (nx : Nat) : Option (Prop × Fx) :=
 match op with
 | .move x | .assign x => some (True, { val := LS.ev t x })
 | .nilCheck x => some (r7 (LS.ev t x) = true, { val := LS.ev t x })
 | .pick c a b => match LS.ev t c with
   | .v (.bool c) => some (True, { val := if c then LS.ev t a else LS.ev t b })
   | _ => none
 | .alloc e => (ti P e).map fun T => (True, { val := .ptr nx 0 0, new := [⟨T.size, [T.zero.map AV.I5], 0⟩] })
 | .box _ x => (LS.ev t x).j8.map fun cs => (True, { val := .ptr nx 0 0, new := [⟨cs.length, [cs], 0⟩] })
 | .build ty ps => (td P ty).bind fun D => (ti P ty).bind fun T => (lN (o6 D) (T.zero.map AV.I5) (ps.toList.map fun p => (p.1, LS.ev t p.2))).map fun cs => (D.isRow = true, { val := .agg cs })
 | .buildSlice ty len ps => match td P ty with
   | some (.slice E) => (rQ E.size (List.replicate len (E.zero.map AV.I5)) (ps.toList.map fun p => (p.1, LS.ev t p.2))).map fun es => (len * E.size ≤ 16777216, { val := .own nx 0 len, new := [⟨E.size, es, 0⟩] })
   | _ => none
 | .load ty a => (ti P ty).bind fun T => (bC (LS.ev t a) h T.size).bind fun cs => (x4 T.agg cs.2).map fun val => (cs.1, { val := val, fp := n8 false (LS.ev t a) T.size })
 | .store ty a x => (ti P ty).bind fun T => (LS.ev t x).j8.bind fun cs => match LS.ev t a with
   | .ptr id i k | .dV id i k => match LS.hf h id with
     | .live r => some (cs.length = T.size ∧ cs.all AV.one = true ∧ r.fro ≤ i ∧ i < r.es.length ∧ k + T.size ≤ r.sz, { val := .dead, fp := n8 true (LS.ev t a) T.size, wr := some (id, i, k, cs) })
     | _ => none
   | _ => none
 | .binOp op ty x y _ => match LS.ev t x, LS.ev t y with
   | .v (.bool a), .v (.bool b) => if sD P ty then (F9 op (decide (a = b))).map fun z => (True, { val := .v (.bool z) }) else none
   | .agg xs, .agg ys => match plC P ty, td P ty with
     | some l, some (.struct _) | some l, some (.array _ _) => (F2 xs ys).bind fun b => (F9 op b).map fun z => (F1 l xs = true ∧ F1 l ys = true, { val := .v (.bool z) })
     | _, _ => none
   | .v vx, .v vy => (H5 op vx vy).map fun p => (p.1, { val := .v p.2 })
   | ax, _ => match y, td P ty with
     | .const (.slice none 0 0), some (.slice _) => (o9 op ax).map fun val => (True, { val := val })
     | _, _ => none
 | .unOp op _ x => match LS.ev t x with
   | .v vx => (bD op vx).map fun z => (True, { val := .v z })
   | _ => none
 | .convert src dst x => match LS.ev t x, td P src with
   | .v vx, some _ => (y9 P dst vx).map fun z => (True, { val := .v z })
   | _, _ => none
 | .makeFunc fn first M7 => match fn with
   | .func f => some (first = #[], { val := .fn f (M7.toList.map (LS.ev t)) })
   | _ => none
 | .makeSlice ty l c => match td P ty, LS.ev t l, LS.ev t c with
   | some (.slice E), .v (.int _ n), .v (.int _ m) => some (m = n ∧ 0 ≤ n ∧ E.bytes * n ≤ 140737488355328 ∧ n ≤ 140737488355328, { val := .own nx 0 n.toNat, new := [⟨E.size, List.replicate n.toNat (E.zero.map AV.I5), 0⟩] })
   | _, _, _ => none
 | .slice ty x lo hi mx => match td P ty with
   | some (.slice E) => (nM t lo).bind fun l => (nM t hi).bind fun ho => (nM t mx).bind fun mo => (H9 E h (LS.ev t x) (l.getD 0) ho mo).map fun p => (p.1, { val := p.2, fp := o8 (LS.ev t x) })
   | some .str => match LS.ev t x, mx with
     | .v vx, none => (nM t lo).bind fun l => (nM t hi).bind fun ho => (G9 vx (l.map (.int .i64)) (ho.map (.int .i64))).map fun p => (p.1, { val := .v p.2 })
     | _, _ => none
   | _ => none
 | .fieldAddr ty x f => match td P ty with
   | some (.struct fs) => (fs[f]?).bind fun p => (y8 (LS.ev t x) p.1).map fun q => (q.1, { val := q.2 })
   | _ => none
 | .field ty x f => match td P ty, LS.ev t x with
   | some (.struct fs), .agg cs => (fs[f]?).bind fun p => (a0l p.2 cs p.1).map fun q => (q.1, { val := q.2 })
   | _, _ => none
 | .indexAddr ty x ix => match LS.ev t ix with
   | .v (.int _ i) => (td P ty).bind fun D => (H6 D h (LS.ev t x) i).map fun q => (q.1, { val := q.2, fp := o8 (LS.ev t x) })
   | _ => none
 | .index ty x ix => match td P ty, LS.ev t x, LS.ev t ix with
   | some (.array n E), .agg cs, .v (.int _ i) => (a0l E cs (i.toNat * E.size)).map fun q => ((0 ≤ i ∧ i < n) ∧ q.1, { val := q.2 })
   | some .str, .v vx, .v vi => (H7 vx vi).map fun q => (q.1, { val := .v q.2 })
   | _, _, _ => none
 | .extract x i => match LS.ev t x with
   | .Q8 cs => (cs[i]?).map fun val => (True, { val := val })
   | _ => none
 | .lookup ty m k c => match tm P ty, LS.ev t m, LS.ev t k with
   | some (kd, z), .v (.map (some b)), .v kv => (y7 b h).map fun q => ((q.2.1 = kd ∧ LS.hf h q.1 = .mp b q.2.1 q.2.2) ∧ Go.MapKept.IsKey kd kv, { val := if c then .Q8 [.v ((q.2.2 kv).getD z), .v (.bool (q.2.2 kv).isSome)] else .v ((q.2.2 kv).getD z), fp := [(q.1, none, false)] })
   | _, _, _ => none
 | .call c => match c.callee, c.args.toList, c.argTypes.toList with
   | .builtin .len, [x], [ty] => match td P ty, LS.ev t x with
     | some (.slice _), ax => (H8 ax).map fun n => (True, { val := .v (.int .i64 n) })
     | some .str, .v (.string s) => some (True, { val := .v (.int .i64 s.size) })
     | _, _ => none
   | .builtin .append, [x, y], [ty, ty2] => match td P ty, td P ty2 with
     | some (.slice E), some (.slice _) => b2p E h nx (LS.ev t x) (LS.ev t y)
     | _, _ => none
   | .builtin b, xs, _ => ((xs.mapM fun x => (LS.ev t x).V7).bind (bB b)).map fun z => (True, { val := .v z })
   | _, _, _ => none
 | _ => none
section
section
variable {P : Program} {s : LS} {nx : Nat}
theorem a8Z {x : AV} {n : Nat} {c : Prop} {cs : List AV} (h : bC x s.h n = some (c, cs)) (hc : c) : rd s.n9 x n = some cs := by
 unfold bC at h
 split at h
 · split at h
   · rename_i id i k r hr
     simp only [Option.map_eq_some_iff] at h
     obtain ⟨e, h1, h2⟩ := h
     cases h2
     simp only [rd, LS.n9, hr, if_pos hc, h1, Option.map_some]
   · cases h
 · split at h
   · rename_i id i k r hr
     simp only [Option.map_eq_some_iff] at h
     obtain ⟨e, h1, h2⟩ := h
     cases h2
     simp only [rd, LS.n9, hr, if_pos hc, h1, Option.map_some]
   · cases h
 · simp only [Option.map_eq_some_iff] at h
   obtain ⟨e, h1, h2⟩ := h
   cases h2
   simp only [rd, h1, Option.bind_some, if_pos hc]
 · cases h
theorem a2G {x y : AV} {n : Nat} {c : Prop} (h : y8 x n = some (c, y)) (hc : c) : tA x n = some y := by
 unfold y8 at h
 split at h
 · cases h; rfl
 · cases h; rfl
 · simp only [Option.map_eq_some_iff] at h
   obtain ⟨e, h1, h2⟩ := h
   cases h2
   simp only [tA, h1, if_pos hc]
 · cases h
theorem rE {T : TI} {cs : List AV} {off : Nat} {c : Prop} {v : AV} (h : a0l T cs off = some (c, v)) (hc : c) : rD T cs off = some v := by
 unfold a0l at h
 simp only [Option.map_eq_some_iff] at h
 obtain ⟨e, h1, h2⟩ := h
 cases h2
 unfold rD
 rw [if_pos hc]; exact h1
theorem a5n {D : TD} {x y : AV} {i : Int} {c : Prop} (h : H6 D s.h x i = some (c, y)) (hc : c) : a01 D s.n9 x i = some y ∧ ∀ E, D = .slice E → qI s.n9 E.size x := by
 unfold H6 at h
 split at h
 · simp only [Option.some.injEq, Prod.mk.injEq] at h
   obtain ⟨rfl, rfl⟩ := h
   refine ⟨by simp only [a01]; rw [if_pos hc.2], ?_⟩
   intro E hE; cases hE; exact hc.1
 · split at h
   · rename_i E id off n r hr
     simp only [Option.some.injEq, Prod.mk.injEq] at h
     obtain ⟨rfl, rfl⟩ := h
     refine ⟨by simp only [a01, LS.n9, hr]; rw [if_pos ⟨hc.2.1, hc.2.2.1, hc.2.2.2⟩], ?_⟩
     intro E' hE; cases hE; exact ⟨r, hr, hc.1⟩
   · cases h
 · simp only [Option.some.injEq, Prod.mk.injEq] at h
   obtain ⟨rfl, rfl⟩ := h
   exact ⟨by simp only [a01]; rw [if_pos hc], fun E hE => by cases hE⟩
 · simp only [Option.some.injEq, Prod.mk.injEq] at h
   obtain ⟨rfl, rfl⟩ := h
   exact ⟨by simp only [a01]; rw [if_pos hc], fun E hE => by cases hE⟩
 · cases h
theorem a3r {x : Option Operand} {i : Option Int} (h : nM s.t x = some i) : a8T s.n9 x i := by
 unfold nM at h
 split at h
 · cases h; trivial
 · split at h
   · rename_i x k j hx
     cases h
     exact ⟨k, by rw [LS.lL]; exact hx⟩
   · cases h
theorem a5Z {E : TI} {x y : AV} {l : Int} {hi mx : Option Int} {c : Prop} (h : H9 E s.h x l hi mx = some (c, y)) (hc : c) : jA x l hi mx = some y ∧ qI s.n9 E.size x := by
 unfold H9 at h
 split at h
 · split at h
   · simp only [Option.some.injEq, Prod.mk.injEq] at h
     obtain ⟨rfl, rfl⟩ := h
     exact ⟨by simp only [jA]; rw [if_pos hc.2], hc.1⟩
   · split at h
     · simp only [Option.some.injEq, Prod.mk.injEq] at h
       obtain ⟨rfl, rfl⟩ := h
       exact ⟨by simp only [jA, Option.getD_some, Option.isSome_some, true_and]; rw [if_pos ⟨hc.2.1, hc.2.2.1, hc.2.2.2.1⟩, if_pos hc.2.2.2.2], hc.1⟩
     · cases h
 · split at h
   · rename_i id off n r hr
     split at h
     · simp only [Option.some.injEq, Prod.mk.injEq] at h
       obtain ⟨rfl, rfl⟩ := h
       exact ⟨by simp only [jA]; rw [if_pos ⟨hc.2.1, hc.2.2.1, hc.2.2.2.1⟩, if_pos hc.2.2.2.2], ⟨r, hr, hc.1⟩⟩
     · cases h
   · cases h
 · cases h
theorem mL {E : TI} {y : AV} {c : Prop} {ys : List (List AV)} (h : I3 s.h E y = some (c, ys)) (hc : c) : mK s.n9 y = some ys ∧ qI s.n9 E.size y ∧ ∀ e ∈ ys, e.length = E.size := by
 unfold I3 at h
 split at h
 · simp only [Option.some.injEq, Prod.mk.injEq] at h
   obtain ⟨rfl, rfl⟩ := h
   exact ⟨rfl, hc, hc⟩
 · split at h
   · rename_i id off n r hr
     simp only [Option.some.injEq, Prod.mk.injEq] at h
     obtain ⟨rfl, rfl⟩ := h
     exact ⟨by simp only [mK, LS.n9, hr]; rw [if_pos hc.2.1], ⟨r, hr, hc.1⟩, hc.2.2⟩
   · cases h
 · cases h
theorem a5t {x : AV} {n : Int} (h : H8 x = some n) : ∃ m : Nat, b2Q x = some m ∧ n = m := by
 unfold H8 at h
 split at h <;> first | (cases h; exact ⟨_, rfl, rfl⟩) | cases h
theorem a50 {x : Value} {lo hi : Option Value} {l ho : Option Int} (hl : (lo = none ∧ l = none) ∨ ∃ k i, lo = some (.int k i) ∧ l = some i) (hh : (hi = none ∧ ho = none) ∨ ∃ k i, hi = some (.int k i) ∧ ho = some i) :
   G9 x lo hi = G9 x (l.map (.int .i64)) (ho.map (.int .i64)) := by
 have b : ∀ {v : Option Value} {i : Option Int} (d : Int), ((v = none ∧ i = none) ∨ ∃ k j, v = some (.int k j) ∧ i = some j) → m9 v d = m9 (i.map (.int .i64)) d := by
   intro v i d h
   rcases h with ⟨rfl, rfl⟩ | ⟨k, j, rfl, rfl⟩ <;> rfl
 unfold G9
 cases x <;> simp only
 rw [b 0 hl, b _ hh]
theorem a7y {x : Option Operand} {i : Option Int} (h : nM s.t x = some i) : ∃ v, xG s.n9 x = some v ∧ ((v = none ∧ i = none) ∨ ∃ k j, v = some (.int k j) ∧ i = some j) := by
 unfold nM at h
 split at h
 · cases h; exact ⟨none, rfl, .inl ⟨rfl, rfl⟩⟩
 · split at h
   · rename_i x k j hx
     cases h
     exact ⟨some (.int k j), by simp only [xG, LS.lL, hx, AV.V7, Option.map_some], .inr ⟨k, j, rfl, rfl⟩⟩
   · cases h
theorem rK [j5 P] {o : Oper} {c : Prop} {fx : Fx} (h : w6 P o.op s.t s.h nx = some (c, fx)) (hc : c) : ex P o s.n9 nx fx := by
 unfold w6 at h
 unfold ex
 simp only [LS.lL]
 split at h
 · rename_i ho; rw [ho]; cases h; rfl
 · rename_i ho; rw [ho]; cases h; rfl
 · rename_i ho; rw [ho]; cases h; exact ⟨hc, rfl⟩
 · rename_i c' a b ho
   rw [ho]
   split at h
   · rename_i b0 hb; cases h; exact ⟨b0, hb, rfl⟩
   · cases h
 · rename_i e ho
   rw [ho]
   simp only [Option.map_eq_some_iff, Prod.mk.injEq] at h
   obtain ⟨T, h1, _, rfl⟩ := h
   exact ⟨T, h1, rfl⟩
 · rename_i e x ho
   rw [ho]
   simp only [Option.map_eq_some_iff, Prod.mk.injEq] at h
   obtain ⟨T, h1, _, rfl⟩ := h
   exact ⟨T, h1, rfl⟩
 · rename_i ty ps ho
   rw [ho]
   simp only [Option.bind_eq_some_iff, Option.map_eq_some_iff, Prod.mk.injEq] at h
   obtain ⟨D, h1, T, h2, cs, h3, rfl, rfl⟩ := h
   exact ⟨D, h1, hc, T, h2, cs, h3, rfl⟩
 · rename_i ty len ps ho
   rw [ho]
   split at h
   · rename_i E hE
     simp only [Option.map_eq_some_iff, Prod.mk.injEq] at h
     obtain ⟨es, h1, rfl, rfl⟩ := h
     exact ⟨E, hE, hc, es, h1, rfl⟩
   · cases h
 · rename_i ty a ho
   rw [ho]
   simp only [Option.bind_eq_some_iff, Option.map_eq_some_iff, Prod.mk.injEq] at h
   obtain ⟨T, h1, ⟨c1, cs⟩, h2, val, h3, rfl, rfl⟩ := h
   exact ⟨T, h1, cs, a8Z h2 hc, val, h3, rfl⟩
 · rename_i ty a x ho
   rw [ho]
   simp only [Option.bind_eq_some_iff] at h
   obtain ⟨T, h1, cs, h2, h⟩ := h
   split at h <;> first | (cases h; done) | skip
   all_goals
     rename_i id i k ha
     split at h
     · rename_i r hr
       simp only [Option.some.injEq, Prod.mk.injEq] at h
       obtain ⟨rfl, rfl⟩ := h
       refine ⟨T, h1, cs, h2, hc.1, hc.2.1, id, i, k, ?_, r, hr, hc.2.2.1, hc.2.2.2.1, hc.2.2.2.2, rfl⟩
       simp only [b00, ha]
       simp
     · cases h
 · rename_i op ty x y yt ho
   rw [ho]
   split at h
   · rename_i a b hx hy
     split at h
     · rename_i hb
       simp only [Option.map_eq_some_iff, Prod.mk.injEq] at h
       obtain ⟨z, h1, _, rfl⟩ := h
       exact .inl ⟨_, by rw [hx]; rfl, _, by rw [hy]; rfl, _, a8o hb h1, rfl⟩
     · cases h
   · rename_i xs ys hx hy
     split at h
     · rename_i l fs hl hD
       simp only [Option.bind_eq_some_iff, Option.map_eq_some_iff, Prod.mk.injEq] at h
       obtain ⟨b, h1, z, h2, rfl, rfl⟩ := h
       obtain ⟨vx, vy, e1, e2, e3⟩ := zQ (xo := x) (yo := y) hl ⟨_, hD, trivial⟩ hc.1 hc.2 h1 h2
       exact .inl ⟨_, by rw [hx]; simp only [AV.V7, e1, Option.map_some], _, by rw [hy]; simp only [AV.V7, e2, Option.map_some], _, e3, rfl⟩
     · rename_i l n e hl hD
       simp only [Option.bind_eq_some_iff, Option.map_eq_some_iff, Prod.mk.injEq] at h
       obtain ⟨b, h1, z, h2, rfl, rfl⟩ := h
       obtain ⟨vx, vy, e1, e2, e3⟩ := zQ (xo := x) (yo := y) hl ⟨_, hD, trivial⟩ hc.1 hc.2 h1 h2
       exact .inl ⟨_, by rw [hx]; simp only [AV.V7, e1, Option.map_some], _, by rw [hy]; simp only [AV.V7, e2, Option.map_some], _, e3, rfl⟩
     · cases h
   · rename_i vx vy _ hx hy
     simp only [Option.map_eq_some_iff, Prod.mk.injEq] at h
     obtain ⟨⟨c1, z⟩, h1, rfl, rfl⟩ := h
     exact .inl ⟨vx, by rw [hx]; rfl, vy, by rw [hy]; rfl, z, a4N h1 hc, rfl⟩
   · split at h
     · simp only [Option.map_eq_some_iff, Prod.mk.injEq] at h
       obtain ⟨val, h1, _, rfl⟩ := h
       exact .inr ⟨rfl, _, by assumption, val, h1, rfl⟩
     · cases h
 · rename_i op ty x ho
   rw [ho]
   split at h
   · rename_i vx hx
     simp only [Option.map_eq_some_iff, Prod.mk.injEq] at h
     obtain ⟨z, h1, _, rfl⟩ := h
     exact ⟨vx, by rw [hx]; rfl, z, a9o h1, rfl⟩
   · cases h
 · rename_i src dst x ho
   rw [ho]
   split at h
   · rename_i vx d hx hd
     simp only [Option.map_eq_some_iff, Prod.mk.injEq] at h
     obtain ⟨z, h1, _, rfl⟩ := h
     refine ⟨vx, by rw [hx]; rfl, z, a2Z h1 ?_, rfl⟩
     unfold td at hd
     split at hd <;> first | (cases hd; done) | exact ⟨_, by assumption⟩
   · cases h
 · rename_i fn first M7 ho
   rw [ho]
   split at h
   · rename_i f
     simp only [Option.some.injEq, Prod.mk.injEq] at h
     obtain ⟨rfl, rfl⟩ := h
     exact ⟨f, rfl, hc, rfl⟩
   · cases h
 · rename_i ty l c' ho
   rw [ho]
   split at h
   · rename_i E k n k' m hD hl hcc
     simp only [Option.some.injEq, Prod.mk.injEq] at h
     obtain ⟨rfl, rfl⟩ := h
     obtain ⟨rfl, h0, h1, h2⟩ := hc
     exact ⟨E, hD, k, m, hl, k', hcc, h0, h1, h2, rfl⟩
   · cases h
 · rename_i ty x lo hi mx ho
   rw [ho]
   split at h
   · rename_i E hD
     simp only [Option.bind_eq_some_iff, Option.map_eq_some_iff, Prod.mk.injEq] at h
     obtain ⟨l, h1, hv, h2, mo, h3, ⟨c1, y⟩, h4, rfl, rfl⟩ := h
     obtain ⟨g1, g2⟩ := a5Z h4 hc
     refine .inl ⟨E, hD, g2, l.getD 0, ?_, hv, a3r h2, mo, a3r h3, y, g1, rfl⟩
     unfold nM at h1
     split at h1
     · cases h1; exact .inl ⟨rfl, rfl⟩
     · split at h1
       · cases h1; exact .inr ⟨_, _, rfl, by assumption⟩
       · cases h1
   · rename_i hD
     split at h
     · rename_i vx hx
       simp only [Option.bind_eq_some_iff, Option.map_eq_some_iff, Prod.mk.injEq] at h
       obtain ⟨l, h1, hv, h2, ⟨c1, z⟩, h3, rfl, rfl⟩ := h
       obtain ⟨v1, e1, e2⟩ := a7y h1
       obtain ⟨v2, e3, e4⟩ := a7y h2
       exact .inr ⟨vx, by rw [hx]; rfl, v1, e1, v2, e3, none, rfl, z, a52 (by rw [a50 e2 e4]; exact h3) hc hD, rfl⟩
     · cases h
   · cases h
 · rename_i ty x f ho
   rw [ho]
   split at h
   · rename_i fs hD
     simp only [Option.bind_eq_some_iff, Option.map_eq_some_iff, Prod.mk.injEq] at h
     obtain ⟨p, h1, ⟨c1, y⟩, h2, rfl, rfl⟩ := h
     exact ⟨fs, hD, p, h1, y, a2G h2 hc, rfl⟩
   · cases h
 · rename_i ty x f ho
   rw [ho]
   split at h
   · rename_i fs cs hD hx
     simp only [Option.bind_eq_some_iff, Option.map_eq_some_iff, Prod.mk.injEq] at h
     obtain ⟨p, h1, ⟨c1, y⟩, h2, rfl, rfl⟩ := h
     exact ⟨fs, hD, p, h1, cs, hx, y, rE h2 hc, rfl⟩
   · cases h
 · rename_i ty x ix ho
   rw [ho]
   split at h
   · rename_i k i hi
     simp only [Option.bind_eq_some_iff, Option.map_eq_some_iff, Prod.mk.injEq] at h
     obtain ⟨D, h1, ⟨c1, y⟩, h2, rfl, rfl⟩ := h
     obtain ⟨g1, g2⟩ := a5n h2 hc
     exact ⟨D, h1, g2, k, i, hi, y, g1, rfl⟩
   · cases h
 · rename_i ty x ix ho
   rw [ho]
   split at h
   · rename_i n E cs k i hD hx hi
     simp only [Option.map_eq_some_iff, Prod.mk.injEq] at h
     obtain ⟨⟨c1, y⟩, h2, rfl, rfl⟩ := h
     exact .inl ⟨n, E, hD, cs, hx, k, i, hi, hc.1.1, hc.1.2, y, rE h2 hc.2, rfl⟩
   · rename_i vx vi hD hx hi
     simp only [Option.map_eq_some_iff, Prod.mk.injEq] at h
     obtain ⟨⟨c1, y⟩, h2, rfl, rfl⟩ := h
     exact .inr ⟨vx, by rw [hx]; rfl, vi, by rw [hi]; rfl, y, a5o h2 hc hD, rfl⟩
   · cases h
 · rename_i x i ho
   rw [ho]
   split at h
   · rename_i cs hx
     simp only [Option.map_eq_some_iff, Prod.mk.injEq] at h
     obtain ⟨val, h1, _, rfl⟩ := h
     exact ⟨cs, hx, val, h1, rfl⟩
   · cases h
 · rename_i ty m k c' ho
   rw [ho]
   split at h
   · rename_i kd z b kv ht hm hk
     simp only [Option.map_eq_some_iff, Prod.mk.injEq] at h
     obtain ⟨⟨id, d', f⟩, h1, rfl, rfl⟩ := h
     obtain ⟨⟨rfl, h2⟩, h3⟩ := hc
     exact ⟨_, z, ht, b, hm, kv, hk, h3, id, f, h2, rfl⟩
   · cases h
 · rename_i c' ho
   rw [ho]
   simp only
   split at h
   · rename_i x ty hcal hargs hts
     rw [hcal]
     simp only
     have ha : c'.args = #[x] := by apply Array.ext'; simpa using hargs
     have ht : c'.argTypes = #[ty] := by apply Array.ext'; simpa using hts
     split at h
     · rename_i E ax hD hx
       simp only [Option.map_eq_some_iff, Prod.mk.injEq] at h
       obtain ⟨n, h1, _, rfl⟩ := h
       obtain ⟨m, h2, rfl⟩ := a5t h1
       exact .inl ⟨trivial, x, ha, ty, ht, _, by assumption, m, h2, rfl⟩
     · rename_i b hD hx
       simp only [Option.some.injEq, Prod.mk.injEq] at h
       obtain ⟨_, rfl⟩ := h
       refine .inr (.inr ⟨[.string b], ?_, .int .i64 b.size, ?_, rfl⟩)
       · rw [ha]
         simp [hx, AV.V7]
       · intro w
         have hu : P.underlying ty = some .string := by
           unfold td at hD
           split at hD <;> first | assumption | (simp at hD; done) | (cases hD; done)
         simp [builtin, Builtin.len_, goInt, ht, run_underlying hu]
     · cases h
   · rename_i x y ty ty2 hcal hargs hts
     rw [hcal]
     simp only
     have ha : c'.args = #[x, y] := by apply Array.ext'; simpa using hargs
     have ht : c'.argTypes = #[ty, ty2] := by apply Array.ext'; simpa using hts
     split at h
     · rename_i E E2 hD hD2
       unfold b2p at h
       simp only [Option.bind_eq_some_iff] at h
       obtain ⟨⟨c1, ys⟩, h1, h⟩ := h
       refine .inr (.inl ⟨trivial, x, y, ha, ty, ty2, ht, E, hD, E2, hD2, ?_⟩)
       split at h
       · rename_i cl es hx
         split at h
         · rename_i hys
           simp only [Option.some.injEq, Prod.mk.injEq] at h
           obtain ⟨rfl, rfl⟩ := h
           obtain ⟨g1, g2, g3⟩ := mL h1 hc.1
           simp only at hys
           exact ⟨by rw [hx]; exact hc.2, g2, ys, g1, g3, .inl ⟨cl, es, hx, hys, rfl⟩⟩
         · split at h
           · rename_i gD
             simp only [Option.some.injEq, Prod.mk.injEq] at h
             obtain ⟨rfl, rfl⟩ := h
             obtain ⟨g1, g2, g3⟩ := mL h1 hc.1
             subst gD
             exact ⟨by rw [hx]; exact hc.2.2.1, g2, ys, g1, g3, .inr (.inl ⟨es, hx, hc.2.1, hc.2.2.2.1, hc.2.2.2.2, rfl⟩)⟩
           · cases h
       · rename_i id off n hx
         split at h
         · rename_i r hr
           simp only [Option.some.injEq, Prod.mk.injEq] at h
           obtain ⟨rfl, rfl⟩ := h
           obtain ⟨g1, g2, g3⟩ := mL h1 hc.1
           exact ⟨by rw [hx]; exact ⟨r, hr, hc.2.1⟩, g2, ys, g1, g3, .inr (.inr ⟨id, off, n, hx, r, hr, hc.2.2.1, hc.2.2.2.1, hc.2.2.2.2.1, hc.2.2.2.2.2.1, hc.2.2.2.2.2.2, rfl⟩)⟩
         · cases h
       · cases h
     · cases h
   · rename_i b hcal _ _
     rw [hcal]
     simp only [Option.map_eq_some_iff, Option.bind_eq_some_iff, Prod.mk.injEq] at h ⊢
     obtain ⟨z, ⟨vs, h1, h2⟩, _, rfl⟩ := h
     exact .inr (.inr ⟨vs, h1, z, a8O h2, rfl⟩)
   · cases h
 · cases h
end
end
section
def V0 (s : LS) : Option Tmp → Prop
 | some d => d < s.t.length
 | none => True
def lK (P : Program) [j5 P] (rest : LS → (LS → Prop) → Prop) (d : Option Tmp) (s : LS) (N : LS → Prop) (f : FuncId) (xs : List AV) : Prop :=
 (∃ n ys, xs.mapM (D8 (LS.hf s.h) n) = some ys ∧ ∃ y rows, e8 P f ys y rows ∧ (rows s.nx).length ≤ 8 ∧
   ∃ lend : Bool, (lend = true → rows s.nx = [] ∧ (y s.nx).flat = true) ∧
   rest (s.dI d { val := y s.nx, fp := (xs.flatMap (a8 (LS.hf s.h) n)).map (fun p => (p.1, none, !lend)), fro := if lend then [] else xs.flatMap (a8 (LS.hf s.h) n), new := rows s.nx }) N) ∨
 (∃ fn body k keep, P.funcs[f]? = some fn ∧ fn.body = some body ∧ (fn.name == "runtime.NumGoroutine") = false ∧ l7 k s.h ∧ gH (md := false) P body (a3p fn xs k keep s) (H3 P fn k keep s.t d (fun s' => rest s' N))) ∨
 xL P f xs s (fun x s' => rest (s'.put d x) N) ∨
 ∃ fx, a60 P f xs (LS.hf s.h) fx ∧ rest (s.dI d fx) N
def A1 (P : Program) [j5 P] (rest : LS → (LS → Prop) → Prop) (d : Option Tmp) (s : LS) (N : LS → Prop) (fv : AV) (xs : List AV) : Prop :=
 match fv with
 | .fn f M7 => lK P rest d s N f (xs ++ M7)
 | _ => False
def a5a (rest : LS → (LS → Prop) → Prop) (d : Option Tmp) (s : LS) (N : LS → Prop) : Option (Prop × Fx) → Prop
 | some (c, fx) => c ∧ rest (s.dI d fx) N
 | none => False
def pL (h : List (Nat × RS)) (b : Nat) (d : TypeDesc) (K : (Value → Option Value) → Prop) : Prop :=
 match y7 b h with
 | some (id, d', f) => d' = d ∧ LS.hf h id = .mp b d' f ∧ K f
 | none => False
def a7j (P : Program) (rest : LS → (LS → Prop) → Prop) (d : Option Tmp) (s : LS) (N : LS → Prop) (t : TypeId) : Prop :=
 match tm P t with
 | some (kd, _) => ∀ b, rest ⟨(s.put d (.v (.map (some b)))).t, s.h ++ [(s.nx, .mp b kd fun _ => none)], s.nx + 8⟩ N
 | none => False
def A3 (P : Program) (rest : LS → (LS → Prop) → Prop) (d : Option Tmp) (s : LS) (N : LS → Prop) (t : TypeId) (m k : AV) (c : Bool) : Prop :=
 match tm P t, m, k with
 | some (kd, z), .v (.map (some b)), .v kv => Go.MapKept.IsKey kd kv ∧ pL s.h b kd fun f => rest (s.put d (if c then .Q8 [.v ((f kv).getD z), .v (.bool (f kv).isSome)] else .v ((f kv).getD z))) N
 | _, _, _ => False
def I6 (P : Program) (rest : LS → (LS → Prop) → Prop) (d : Option Tmp) (s : LS) (N : LS → Prop) (t : TypeId) (m k v : AV) : Prop :=
 match tm P t, m, k, v with
 | some (kd, _), .v (.map (some b)), .v kv, .v xv => Go.MapKept.IsKey kd kv ∧ pL s.h b kd fun f => rest { s.put d .dead with h := jH b kd (aU f kv xv) s.h } N
 | _, _, _, _ => False
def r8 (P : Program) (rest : LS → (LS → Prop) → Prop) (d : Option Tmp) (s : LS) (N : LS → Prop) (ts : List TypeId) (xs : List AV) : Prop :=
 match ts, xs with
 | [t], [.own id off n] => match td P t, LS.hf s.h id with
   | some (.slice E), .live r => E.zero.all Value.oneCell' = true ∧ r.sz = E.size ∧ off + n ≤ r.es.length ∧ r.fro ≤ off ∧ rest { s.put d (.Q8 []) with h := mH id (.live { r with es := W6 r.es off n r.sz }) s.h } N
   | _, _ => False
 | _, _ => False
def Z2 (P : Program) [j5 P] (rest : LS → (LS → Prop) → Prop) (d : Option Tmp) (op : Op) (s : LS) (N : LS → Prop) : Prop :=
 match op with
 | .call c => match c.callee with
   | .value fv => A1 P rest d s N (LS.ev s.t fv) (c.args.toList.map (LS.ev s.t))
   | .builtin .clear => r8 P rest d s N c.argTypes.toList (c.args.toList.map (LS.ev s.t))
   | _ => a5a rest d s N (w6 P op s.t s.h s.nx)
 | .makeMap t none => a7j P rest d s N t
 | .lookup t m k c => A3 P rest d s N t (LS.ev s.t m) (LS.ev s.t k) c
 | .mapUpdate t m k v => I6 P rest d s N t (LS.ev s.t m) (LS.ev s.t k) (LS.ev s.t v)
 | op => a5a rest d s N (w6 P op s.t s.h s.nx)
def gdS (P : Program) [j5 P] (rest : LS → (LS → Prop) → Prop) (d : Option Tmp) (op : Op) (s : LS) (N : LS → Prop) (want : Bool) (g : Tmp) (b : Bool) : Prop :=
 (b = want → V0 s d ∧ Z2 P rest d op (s.put (some g) (.v (.bool want))) N) ∧ (b = (!want) → V0 s d ∧ rest ((s.put (some g) (.v (.bool (!want)))).put d AV.kC) N)
def gdC (P : Program) [j5 P] (rest : LS → (LS → Prop) → Prop) (d : Option Tmp) (op : Op) (s : LS) (N : LS → Prop) (want : Bool) (g : Tmp) : AV → Prop
 | .v (.bool b) => gdS P rest d op s N want g b
 | .v (.tuple cs) => cs.isEmpty = true ∧ V0 s d ∧ rest (s.put d AV.kC) N
 | _ => False
section
variable {P : Program} {rest : LS → (LS → Prop) → Prop} {d : Option Tmp} {op : Op} {s : LS} {N : LS → Prop} {g : Tmp}
theorem b3K [j5 P] {want : Bool} {b : Bool} : gdC P rest d op s N want g (.v (.bool b)) = gdS P rest d op s N want g b := rfl
theorem a67 [j5 P] {want : Bool} : gdC P rest d op s N want g AV.kC = (V0 s d ∧ rest (s.put d AV.kC) N) := by simp [gdC, AV.kC, undef]
theorem b0z [j5 P] : gdS P rest d op s N true g true = (V0 s d ∧ Z2 P rest d op (s.put (some g) (.v (.bool true))) N) := by simp [gdS]
theorem b0w [j5 P] : gdS P rest d op s N false g false = (V0 s d ∧ Z2 P rest d op (s.put (some g) (.v (.bool false))) N) := by simp [gdS]
theorem b0y [j5 P] : gdS P rest d op s N true g false = (V0 s d ∧ rest ((s.put (some g) (.v (.bool false))).put d AV.kC) N) := by simp [gdS]
theorem b0x [j5 P] : gdS P rest d op s N false g true = (V0 s d ∧ rest ((s.put (some g) (.v (.bool true))).put d AV.kC) N) := by simp [gdS]
theorem b3N [j5 P] {p : Prop} [Decidable p] : gdS P rest d op s N true g (decide p) = ((p → V0 s d ∧ Z2 P rest d op (s.put (some g) (.v (.bool true))) N) ∧ (¬ p → V0 s d ∧ rest ((s.put (some g) (.v (.bool false))).put d AV.kC) N)) := by simp [gdS]
theorem b3M [j5 P] {p : Prop} [Decidable p] : gdS P rest d op s N false g (decide p) = ((p → V0 s d ∧ rest ((s.put (some g) (.v (.bool true))).put d AV.kC) N) ∧ (¬ p → V0 s d ∧ Z2 P rest d op (s.put (some g) (.v (.bool false))) N)) := by
 simp only [gdS, decide_eq_false_iff_not, Bool.not_false, decide_eq_true_eq]
 exact propext And.comm
theorem a5i [j5 P] {b : Bool} (h1 : b = true → V0 s d ∧ Z2 P rest d op (s.put (some g) (.v (.bool true))) N) (h2 : b = false → V0 s d ∧ rest ((s.put (some g) (.v (.bool false))).put d AV.kC) N) : gdS P rest d op s N true g b := ⟨h1, h2⟩
theorem a5h [j5 P] {b : Bool} (h1 : b = false → V0 s d ∧ Z2 P rest d op (s.put (some g) (.v (.bool false))) N) (h2 : b = true → V0 s d ∧ rest ((s.put (some g) (.v (.bool true))).put d AV.kC) N) : gdS P rest d op s N false g b := ⟨h1, h2⟩
end
def aK (ops : List Oper) : List (Option Tmp) := ops.map (·.dst)
theorem a0y (ops : List Oper) (j : Nat) : (aK ops).getD j none = (ops[j]?).bind (·.dst) := by
 simp only [aK, List.getD_eq_getElem?_getD, List.getElem?_map]
 cases ops[j]? <;> rfl
def iV (P : Program) [j5 P] (ops : List (Option Tmp)) : List Oper → LS → (LS → Prop) → Prop
 | [], s, N => N s
 | o :: rest, s, N => match o.guard with
   | none => V0 s o.dst ∧ Z2 P (iV P ops rest) o.dst o.op s N
   | some (j, want) => match ops.getD j none with
     | some g => gdC P (iV P ops rest) o.dst o.op s N want g (LS.tf s.t g)
     | none => False
section
variable {P : Program}
theorem dX {s : LS} {d : Option Tmp} (h : V0 s d) : P9 s.n9 d := by cases d <;> exact h
theorem a8y {fn : Func} {k : Nat} {keep : List Nat} {t : List AV} {d : Option Tmp} {K K' : LS → Prop} (hK : ∀ s, K s → K' s) {e : Exit} {s : LS} (h : H3 P fn k keep t d K e s) : H3 P fn k keep t d K' e s := by
 obtain ⟨h1, x, h2, h3⟩ := h
 refine ⟨h1, x, h2, ?_⟩
 split at h3
 · rename_i id cs hf
   exact ⟨h3.1, h3.2.1, hK _ h3.2.2⟩
 · exact h3.elim
theorem zU [j5 P] {ops : List Oper} {rest : List Oper} {o : Oper} {s : LS} {N : LS → Prop} (ih : ∀ s N, iV P (aK ops) rest s N → cK P ops rest s N) (h : Z2 P (iV P (aK ops) rest) o.dst o.op s N) :
   (∃ fx, ex P o s.n9 s.nx fx ∧ cK P ops rest (s.dI o.dst fx) N) ∨ inl P o s (fun s' => cK P ops rest s' N) := by
 have fin : a5a (iV P (aK ops) rest) o.dst s N (w6 P o.op s.t s.h s.nx) → ∃ fx, ex P o s.n9 s.nx fx ∧ cK P ops rest (s.dI o.dst fx) N := by
   intro h
   cases hst : w6 P o.op s.t s.h s.nx with
   | none => rw [hst] at h; exact h.elim
   | some p =>
     obtain ⟨c, fx⟩ := p
     rw [hst] at h
     exact ⟨fx, rK hst h.1, ih _ _ h.2⟩
 unfold Z2 at h
 split at h
 · rename_i c ho
   split at h
   · rename_i fv hfv
     unfold A1 at h
     split at h
     · rename_i f M7 hf
       have e : s.n9.ev = LS.ev s.t := funext fun x => LS.lL s x
       rcases h with ⟨n, ys, h1, y, rows, h2, h3, lend, hlend, h4⟩ | ⟨fn, body, k, keep, h1, h2, h3, h4, h5⟩ | hS | ⟨fx, hX, h4⟩
       · refine .inl ⟨_, ?_, ih _ _ h4⟩
         unfold ex
         rw [ho]
         simp only [hfv]
         rw [e]
         exact .inl ⟨f, M7, hf, n, ys, h1, y, rows, h2, h3, lend, hlend, rfl⟩
       · refine .inr ?_
         unfold inl
         rw [ho]
         simp only [hfv]
         rw [e]
         exact .inl ⟨f, M7, fn, body, k, keep, hf, h1, h2, h3, h4, h5.mono fun _ _ hk => a8y (fun s' hs => ih _ _ hs) hk⟩
       · refine .inr ?_
         unfold inl
         rw [ho]
         simp only [hfv]
         rw [e]
         exact .inr ⟨f, M7, hf, hS.mono fun _ _ hk => ih _ _ hk⟩
       · refine .inl ⟨fx, ?_, ih _ _ h4⟩
         unfold ex
         rw [ho]
         simp only [hfv]
         rw [e]
         exact .inr ⟨f, M7, hf, hX⟩
     · exact h.elim
   · rename_i hcal
     have e : s.n9.ev = LS.ev s.t := funext fun x => LS.lL s x
     unfold r8 at h
     split at h
     · rename_i t id off n hts hxs
       split at h
       · rename_i E r hD hh
         obtain ⟨h1, h2, h3, h4, h5⟩ := h
         refine .inr ?_
         unfold inl
         rw [ho]
         simp only [hcal]
         obtain ⟨x, hx1, hx2⟩ : ∃ x, c.args.toList = [x] ∧ LS.ev s.t x = .own id off n := by
           cases hc : c.args.toList with
           | nil => rw [hc] at hxs; cases hxs
           | cons y ys =>
             rw [hc] at hxs
             cases ys with
             | nil => simp only [List.map_cons, List.map_nil, List.cons.injEq, and_true] at hxs; exact ⟨y, rfl, hxs⟩
             | cons z zs => simp at hxs
         refine ⟨x, t, E, id, off, n, r, Array.toList_inj.1 hx1, Array.toList_inj.1 hts, hD, h1, by rw [e]; exact hx2, hh, h2, h3, h4, ih _ _ h5⟩
       · exact h.elim
     · exact h.elim
   · exact .inl (fin h)
 · rename_i t ho
   unfold a7j at h
   split at h
   · rename_i kd z ht
     refine .inr ?_
     unfold inl
     rw [ho]
     exact ⟨kd, z, ht, fun b => ih _ _ (h b)⟩
   · exact h.elim
 · rename_i t m k c ho
   have e : s.n9.ev = LS.ev s.t := funext fun x => LS.lL s x
   unfold A3 at h
   split at h
   · rename_i kd z b kv ht hm hk
     obtain ⟨h1, h2⟩ := h
     unfold pL at h2
     split at h2
     · rename_i id d' f hf
       obtain ⟨rfl, h3, h4⟩ := h2
       refine .inr ?_
       unfold inl
       rw [ho, e]
       exact ⟨_, z, b, kv, f, id, ht, hm, hk, h1, h3, ih _ _ h4⟩
     · exact h2.elim
   · exact h.elim
 · rename_i t m k v ho
   have e : s.n9.ev = LS.ev s.t := funext fun x => LS.lL s x
   unfold I6 at h
   split at h
   · rename_i kd z b kv xv ht hm hk hv
     obtain ⟨h1, h2⟩ := h
     unfold pL at h2
     split at h2
     · rename_i id d' f hf
       obtain ⟨rfl, h3, h4⟩ := h2
       refine .inr ?_
       unfold inl
       rw [ho, e]
       exact ⟨_, z, b, kv, xv, f, id, ht, hm, hk, hv, h1, h3, ih _ _ h4⟩
     · exact h2.elim
   · exact h.elim
 · exact .inl (fin h)
theorem iW [j5 P] {ops : List Oper} : ∀ (l : List Oper) (s : LS) (N : LS → Prop), iV P (aK ops) l s N → cK P ops l s N := by
 intro l
 induction l with
 | nil => intro s N h; exact h
 | cons o rest ih =>
   intro s N h
   simp only [iV, a0y] at h
   simp only [cK, a0X]
   split at h
   · rename_i hg
     try rw [hg]
     exact ⟨dX h.1, zU ih h.2⟩
   · rename_i j want hg
     try rw [hg]
     try simp only
     split at h
     · rename_i g hg2
       try simp only [hg2]
       unfold gdC at h
       split at h
       · rename_i b hb
         unfold gdS at h
         refine .inl ⟨b, hb, fun hw => ?_, fun hw => ?_⟩
         · obtain ⟨h1, h2⟩ := h.1 hw
           refine ⟨?_, zU ih h2⟩
           cases hd : o.dst with
           | none => trivial
           | some d => rw [hd] at h1; simp only [P9, LS.put, LS.n9, List.length_set]; exact h1
         · obtain ⟨h1, h2⟩ := h.2 hw
           refine ⟨?_, ih _ _ h2⟩
           cases hd : o.dst with
           | none => trivial
           | some d => rw [hd] at h1; simp only [P9, LS.put, LS.n9, List.length_set]; exact h1
       · rename_i cs hb
         obtain ⟨h0, h1, h2⟩ := h
         have e : cs = #[] := Array.isEmpty_iff.1 h0
         exact .inr ⟨by rw [hb, e]; rfl, dX h1, ih _ _ h2⟩
       · exact h.elim
     · exact h.elim
theorem b2s {md : Bool} [j5 P] {id : Nat} {l : List Oper} {s : LS} {K : Exit → LS → Prop} (h : ∀ N : LS → Prop, (∀ s, K .normal s → N s) → iV P (aK l) l s N) : gH (md := md) P (.region id l.toArray false) s K :=
 a4K (iW l s _ (h _ fun _ k => k))
end
def L8 (id i k : Nat) (cs : List AV) : List (Nat × RS) → List (Nat × RS)
 | [] => []
 | (id', x) :: l => if id' = id then (id', match x with | .live r => .live { r with es := r.es.modify i (fun e => u0 e k cs) } | x => x) :: L8 id i k cs l else (id', x) :: L8 id i k cs l
def cO (id : Nat) : List (Nat × RS) → List (Nat × RS)
 | [] => []
 | (id', x) :: l => if id' = id then (id', .gone) :: cO id l else (id', x) :: cO id l
def n6 (ids : List (Nat × Nat)) : List (Nat × RS) → List (Nat × RS)
 | [] => []
 | (id', x) :: l => (id', match x with | .live r => .live ⟨r.sz, r.es, A9 ids id' r.fro⟩ | x => x) :: n6 ids l
section
variable {P : Program} {ops : List (Option Tmp)} {s : LS} {N : LS → Prop}
theorem a0z : aK [] = [] := rfl
theorem wK {o : Oper} {l : List Oper} : aK (o :: l) = o.dst :: aK l := rfl
theorem a4e [j5 P] : iV P ops [] s N = N s := rfl
theorem a0t [j5 P] {o : Oper} {rest : List Oper} : iV P ops (o :: rest) s N = (match o.guard with
   | none => V0 s o.dst ∧ Z2 P (iV P ops rest) o.dst o.op s N
   | some (j, want) => match ops.getD j none with
     | some g => gdC P (iV P ops rest) o.dst o.op s N want g (LS.tf s.t g)
     | none => False) := rfl
theorem dK [j5 P] {rest : LS → (LS → Prop) → Prop} {d : Option Tmp} {f : FuncId} {xs ys : List AV} {y : AV} (C : e8 P f ys (fun _ => y) (fun _ => []))
   (h1 : xs.mapM (D8 (LS.hf s.h) 6) = some ys) (h2 : xs.flatMap (a8 (LS.hf s.h) 6) = []) (h : rest (s.dI d ⟨y, [], none, [], none, []⟩) N) : lK P rest d s N f xs :=
 .inl ⟨6, ys, h1, _, _, C, Nat.zero_le 8, false, (fun h => nomatch h), by rw [h2]; exact h⟩
theorem Y5 [j5 P] {rest : LS → (LS → Prop) → Prop} {d : Option Tmp} {f : FuncId} {xs ys : List AV} {y : Nat → AV} {rows : Nat → List Row} (C : e8 P f ys y rows) {ids : List (Nat × Nat)}
   (h1 : xs.mapM (D8 (LS.hf s.h) 6) = some ys) (h2 : xs.flatMap (a8 (LS.hf s.h) 6) = ids) (hr : (rows s.nx).length ≤ 8) (h : rest (s.dI d ⟨y s.nx, ids.map (fun p => (p.1, none, true)), none, ids, none, rows s.nx⟩) N) : lK P rest d s N f xs :=
 .inl ⟨6, ys, h1, _, _, C, hr, false, (fun h => nomatch h), by rw [h2]; exact h⟩
theorem aA [j5 P] {rest : LS → (LS → Prop) → Prop} {d : Option Tmp} {f : FuncId} {xs ys : List AV} {y : AV} (C : e8 P f ys (fun _ => y) (fun _ => [])) (hy : y.flat = true) {ids : List (Nat × Nat)}
   (h1 : xs.mapM (D8 (LS.hf s.h) 6) = some ys) (h2 : xs.flatMap (a8 (LS.hf s.h) 6) = ids) (h : rest (s.dI d ⟨y, ids.map (fun p => (p.1, none, false)), none, [], none, []⟩) N) : lK P rest d s N f xs :=
 .inl ⟨6, ys, h1, _, _, C, Nat.zero_le 8, true, (fun _ => ⟨rfl, hy⟩), by rw [h2]; exact h⟩
end
def AV.fixed : Nat → AV → Bool
 | _, .dead => true
 | _, .aP _ _ _ => true
 | _, .v _ => true
 | _, .T0 => true
 | _, .b7 c _ => !c
 | n + 1, .agg cs => cs.all (AV.fixed n)
 | n + 1, .Q8 cs => cs.all (AV.fixed n)
 | n + 1, .fn _ cs => cs.all (AV.fixed n)
 | _, _ => false
theorem eX {h : Nat → RS} {n : Nat} {f : AV → Bool} (ih : ∀ x, f x = true → D8 h n x = some x) : ∀ cs : List AV, cs.all f = true → cs.mapM (D8 h n) = some cs := by
 intro cs
 induction cs with
 | nil => intro _; rfl
 | cons x cs ihc =>
   intro hh
   simp only [List.all_cons, Bool.and_eq_true] at hh
   simp [List.mapM_cons, ih x hh.1, ihc hh.2]
theorem bJ {h : Nat → RS} {n : Nat} {f : AV → Bool} (ih : ∀ x, f x = true → a8 h n x = []) : ∀ cs : List AV, cs.all f = true → cs.flatMap (a8 h n) = [] := by
 intro cs hh
 rw [List.flatMap_eq_nil_iff]
 exact fun x hx => ih x (List.all_eq_true.1 hh x hx)
theorem kN (h : Nat → RS) : ∀ (n : Nat) (x : AV), x.fixed n = true → D8 h n x = some x ∧ a8 h n x = [] := by
 intro n
 induction n with
 | zero => intro x hx; cases x <;> simp_all [AV.fixed, D8, a8]
 | succ n ih =>
   intro x hx
   cases x with
   | dead => exact ⟨rfl, rfl⟩
   | T0 => exact ⟨rfl, rfl⟩
   | v x => exact ⟨rfl, rfl⟩
   | aP es i k => exact ⟨rfl, rfl⟩
   | b7 c es =>
     have hc : c = false := by cases c <;> simp_all [AV.fixed]
     subst hc; exact ⟨rfl, rfl⟩
   | agg cs =>
     have hx : cs.all (AV.fixed n) = true := by simpa [AV.fixed] using hx
     simp only [D8, a8]
     rw [eX (fun x hx => (ih x hx).1) _ hx, bJ (fun x hx => (ih x hx).2) _ hx]; exact ⟨rfl, rfl⟩
   | Q8 cs =>
     have hx : cs.all (AV.fixed n) = true := by simpa [AV.fixed] using hx
     simp only [D8, a8]
     rw [eX (fun x hx => (ih x hx).1) _ hx, bJ (fun x hx => (ih x hx).2) _ hx]; exact ⟨rfl, rfl⟩
   | fn f cs =>
     have hx : cs.all (AV.fixed n) = true := by simpa [AV.fixed] using hx
     simp only [D8, a8]
     rw [eX (fun x hx => (ih x hx).1) _ hx, bJ (fun x hx => (ih x hx).2) _ hx]; exact ⟨rfl, rfl⟩
   | _ => simp [AV.fixed] at hx
theorem kI {P : Program} [j5 P] {s : LS} {N : LS → Prop} {rest : LS → (LS → Prop) → Prop} {d : Option Tmp} {f : FuncId} {xs : List AV} {y : AV} (C : e8 P f xs (fun _ => y) (fun _ => []))
   (hx : xs.all (AV.fixed 6) = true) (h : rest (s.dI d ⟨y, [], none, [], none, []⟩) N) : lK P rest d s N f xs :=
 dK C (eX (fun x hx => (kN _ 6 x hx).1) _ hx) (bJ (fun x hx => (kN _ 6 x hx).2) _ hx) h
theorem uB (v : AV) (fp) (nx : Nat) (h : List (Nat × RS)) : Fx.cN ⟨v, fp, none, [], none, []⟩ nx h = h := by
 have : (h.map fun p => (p.1, wM ⟨v, fp, none, [], none, []⟩ p.1 p.2)) = h := by
   conv => rhs; rw [← List.map_id h]
   refine List.map_congr_left fun p _ => ?_
   obtain ⟨i, x⟩ := p
   cases x <;> simp [wM, Fx.row, fK, A9]
 simp only [Fx.cN, this, j3, List.append_nil]
theorem zW (v : AV) (fp) (nx : Nat) (h : List (Nat × RS)) (r : Row) : Fx.cN ⟨v, fp, none, [], none, [r]⟩ nx h = h ++ [(nx, .live r)] := by
 have : (h.map fun p => (p.1, wM ⟨v, fp, none, [], none, [r]⟩ p.1 p.2)) = h := by
   conv => rhs; rw [← List.map_id h]
   refine List.map_congr_left fun p _ => ?_
   obtain ⟨i, x⟩ := p
   cases x <;> simp [wM, Fx.row, fK, A9]
 simp only [Fx.cN, this, j3]
theorem a3l (v : AV) (fp) (nx : Nat) (h : List (Nat × RS)) (id i k : Nat) (cs : List AV) : Fx.cN ⟨v, fp, some (id, i, k, cs), [], none, []⟩ nx h = L8 id i k cs h := by
 simp only [Fx.cN, j3, List.append_nil]
 induction h with
 | nil => rfl
 | cons p h ih =>
   obtain ⟨i', x⟩ := p
   simp only [List.map_cons, L8, ih]
   by_cases he : i' = id
   · subst he
     cases x <;> simp [wM, Fx.row, fK, A9]
   · rw [if_neg he]
     cases x <;> simp [wM, Fx.row, fK, A9, Ne.symm he]
theorem uA (v : AV) (fp) (nx : Nat) (h : List (Nat × RS)) (id : Nat) (r : Row) : Fx.cN ⟨v, fp, none, [], some id, [r]⟩ nx h = cO id h ++ [(nx, .live r)] := by
 simp only [Fx.cN, j3]
 congr 1
 induction h with
 | nil => rfl
 | cons p h ih =>
   obtain ⟨i', x⟩ := p
   simp only [List.map_cons, cO, ih]
   by_cases he : i' = id
   · subst he
     simp [wM]
   · rw [if_neg he]
     cases x <;> simp [wM, Fx.row, fK, A9, Ne.symm he]
theorem tZ (v : AV) (fp) (nx : Nat) (h : List (Nat × RS)) (ids : List (Nat × Nat)) (rs : List Row) : Fx.cN ⟨v, fp, none, ids, none, rs⟩ nx h = n6 ids h ++ j3 nx rs := by
 simp only [Fx.cN]
 congr 1
 induction h with
 | nil => rfl
 | cons p h ih =>
   obtain ⟨i', x⟩ := p
   simp only [List.map_cons, n6, ih]
   cases x <;> simp [wM, Fx.row, fK]
theorem a3e (h : List (Nat × RS)) : n6 [] h = h := by
 induction h with
 | nil => rfl
 | cons p h ih => obtain ⟨i, x⟩ := p; cases x <;> simp [n6, ih, A9]
theorem a2K (t : List AV) (h : List (Nat × RS)) (nx d : Nat) (fx : Fx) : LS.dI ⟨t, h, nx⟩ (some d) fx = ⟨t.set d fx.val, fx.cN nx h, nx + 8⟩ := rfl
theorem a2J (t : List AV) (h : List (Nat × RS)) (nx : Nat) (fx : Fx) : LS.dI ⟨t, h, nx⟩ none fx = ⟨t, fx.cN nx h, nx + 8⟩ := rfl
theorem a3Z (t : List AV) (h : List (Nat × RS)) (nx d : Nat) (x : AV) : LS.put ⟨t, h, nx⟩ (some d) x = ⟨t.set d x, h, nx⟩ := rfl
theorem a3Y (t : List AV) (h : List (Nat × RS)) (nx : Nat) (x : AV) : LS.put ⟨t, h, nx⟩ none x = ⟨t, h, nx⟩ := rfl
end
end Go.Ab
end
section
namespace Go.Ab
open Go.RowKit (Below)
inductive KF where
 | seq (c : Code)
 | block (id : Nat)
def X6 {md : Bool} (P : Program) [j5 P] (K : Exit → LS → Prop) : List KF → Exit → LS → Prop
 | [] => K
 | .seq z :: k => S8 (fun s => gH (md := md) P z s (X6 (md := md) P K k)) (X6 (md := md) P K k)
 | .block id :: k => a4O id (X6 (md := md) P K k)
def AK {md : Bool} (P : Program) [j5 P] (c : Code) (k : List KF) (s : LS) (K : Exit → LS → Prop) : Prop := gH (md := md) P c s (X6 (md := md) P K k)
section
variable {md : Bool} {P : Program} {k : List KF} {s : LS} {K : Exit → LS → Prop}
theorem tC [j5 P] {c : Code} (h : AK (md := md) P c [] s K) : gH (md := md) P c s K := h
theorem a9T [j5 P] {x y : Code} (h : AK (md := md) P x (.seq y :: k) s K) : AK (md := md) P (.seq x y) k s K := a6V h
theorem a6S [j5 P] (h : X6 (md := md) P K k .normal s) : AK (md := md) P .skip k s K := a91 h
theorem a9S [j5 P] (h : X6 (md := md) P K k .ret s) : AK (md := md) P .ret k s K := b2t h
theorem a6Q [j5 P] {id : Nat} (h : X6 (md := md) P K k (.exit id) s) : AK (md := md) P (.exit id) k s K := a9Z h
theorem a2H [j5 P] {id : Nat} {c : Code} (h : AK (md := md) P c (.block id :: k) s K) : AK (md := md) P (.block id c) k s K := a78 h
theorem nB [j5 P] {c : Operand} {x y : Code} {b : Bool} (hc : LS.ev s.t c = .v (.bool b)) (h1 : b = true → AK (md := md) P x k s K) (h2 : b = false → AK (md := md) P y k s K) : AK (md := md) P (.cond c x y) k s K :=
 a9Y (by rw [LS.lL]; exact hc) h1 h2
theorem zI [j5 P] {c : Operand} {x y : Code} (hc : LS.ev s.t c = .v (.bool true)) (h1 : AK (md := md) P x k s K) : AK (md := md) P (.cond c x y) k s K :=
 nB hc (fun _ => h1) (fun h => by cases h)
theorem zH [j5 P] {c : Operand} {x y : Code} (hc : LS.ev s.t c = .v (.bool false)) (h1 : AK (md := md) P y k s K) : AK (md := md) P (.cond c x y) k s K :=
 nB hc (fun h => by cases h) (fun _ => h1)
theorem a9Q [j5 P] {id : Nat} {l : List Oper} (h : ∀ N : LS → Prop, (∀ s, X6 (md := md) P K k .normal s → N s) → iV P (aK l) l s N) : AK (md := md) P (.region id l.toArray false) k s K := b2s h
theorem fQ [j5 P] {c : Code} (I : Nat → LS → Prop) (n0 : Nat) (h0 : I n0 s) (round : ∀ n s, I n s → AK (md := md) P c [] s (S8 (fun s' => ∃ m s'', m < n ∧ Q9 s' s'' ∧ I m s'') (X6 (md := md) P K k))) : AK (md := md) P (.loop c) k s K := a90 I n0 h0 round
theorem w7 [j5 P] {c : Code} {s' : LS} (h : Q9 s s') (h' : AK (md := md) P c k s' K) : AK (md := md) P c k s K := gH.b6Y h h'
theorem l9 [j5 P] {c : Code} (S : Nat → LS) (n : Nat) (s0 : Q9 s (S 0)) (round : ∀ i, i ≤ n → AK (md := md) P c [] (S i) (S8 (fun s' => i < n ∧ Q9 s' (S (i + 1))) (X6 (md := md) P K k))) : AK (md := md) P (.loop c) k s K := by
 refine w7 s0 (fQ (fun m s => ∃ i, i ≤ n ∧ m = n - i ∧ s = S i) n ⟨0, by omega, by omega, rfl⟩ ?_)
 rintro m s ⟨i, hi, rfl, rfl⟩
 refine gH.mono (round i hi) fun e s' h => ?_
 cases e with
 | normal => exact ⟨n - (i + 1), S (i + 1), by have := h.1; omega, h.2, i + 1, by have := h.1; omega, rfl, rfl⟩
 | _ => exact h
theorem M5 [j5 P] {c : Code} (S : Nat → LS) (I : Nat → Prop) (n : Nat) (s0 : Q9 s (S 0)) (h0 : I 0) (round : ∀ i, i ≤ n → I i → AK (md := md) P c [] (S i) (S8 (fun s' => i < n ∧ I (i + 1) ∧ Q9 s' (S (i + 1))) (X6 (md := md) P K k))) : AK (md := md) P (.loop c) k s K := by
 refine w7 s0 (fQ (fun m s => ∃ i, i ≤ n ∧ I i ∧ m = n - i ∧ s = S i) n ⟨0, by omega, h0, by omega, rfl⟩ ?_)
 rintro m s ⟨i, hi, hI, rfl, rfl⟩
 refine gH.mono (round i hi hI) fun e s' h => ?_
 cases e with
 | normal => exact ⟨n - (i + 1), S (i + 1), by have := h.1; omega, h.2.2, i + 1, by have := h.1; omega, h.2.1, rfl, rfl⟩
 | _ => exact h
theorem bU [j5 P] {c : Operand} {x y : Code} {p : Prop} [Decidable p] (hc : LS.ev s.t c = .v (.bool (decide p))) (h1 : p → AK (md := md) P x k s K) (h2 : ¬ p → AK (md := md) P y k s K) : AK (md := md) P (.cond c x y) k s K :=
 nB hc (fun h => h1 (of_decide_eq_true h)) (fun h => h2 (of_decide_eq_false h))
theorem a3x [j5 P] (e : Exit) : X6 (md := md) P K [] e s = K e s := rfl
theorem uH [j5 P] {z : Code} : X6 (md := md) P K (.seq z :: k) .normal s = AK (md := md) P z k s K := rfl
theorem uI [j5 P] {z : Code} : X6 (md := md) P K (.seq z :: k) .ret s = X6 (md := md) P K k .ret s := rfl
theorem uG [j5 P] {z : Code} {id : Nat} : X6 (md := md) P K (.seq z :: k) (.exit id) s = X6 (md := md) P K k (.exit id) s := rfl
theorem nS [j5 P] {id : Nat} : X6 (md := md) P K (.block id :: k) .normal s = X6 (md := md) P K k .normal s := rfl
theorem nT [j5 P] {id : Nat} : X6 (md := md) P K (.block id :: k) .ret s = X6 (md := md) P K k .ret s := rfl
theorem nR [j5 P] {id id' : Nat} : X6 (md := md) P K (.block id :: k) (.exit id') s = if id' = id then X6 (md := md) P K k .normal s else X6 (md := md) P K k (.exit id') s := rfl
theorem a7L {N : LS → Prop} : S8 N K .normal s = N s := rfl
theorem a7M {N : LS → Prop} : S8 N K .ret s = K .ret s := rfl
theorem a7K {N : LS → Prop} {id : Nat} : S8 N K (.exit id) s = K (.exit id) s := rfl
end
theorem fX {keep ids : List Nat} {s s' s'' : LS} (h : c7 keep ids s = some s') (e : s' = s'') : Q9 s s'' := e ▸ a0R h
end Go.Ab
namespace Go.Ab
theorem M9 (nid id : Nat) : s5 [] nid id = none := rfl
theorem J7 (i : Nat) (ids : List Nat) (nid id : Nat) : s5 (i :: ids) nid id = if i = id then some nid else s5 ids (nid + 1) id := by
 unfold s5
 rw [List.idxOf?_cons]
 by_cases h : i = id
 · subst h; simp
 · rw [if_neg (by simpa using h), if_neg h]
   cases ids.idxOf? id with
   | none => rfl
   | some j => simp; omega
end Go.Ab
namespace Go.Ab
theorem uC {fn : Func} {n : Nat} (h : fn.ntmps = n) (xs : List AV) : nL fn xs = ⟨xs ++ List.replicate (n - xs.length) .dead, [], 0⟩ := by subst h; rfl
end Go.Ab
namespace Go.Ab
section
variable {md : Bool} {P : Program} {s : LS} {K : Exit → LS → Prop} {k : List KF}
theorem b2m [j5 P] {x z : Code} (S : LS) (h1 : AK (md := md) P x [] s (S8 (fun s' => Q9 s' S) (X6 (md := md) P K k))) (h2 : AK (md := md) P z k S K) : AK (md := md) P (.seq x z) k s K := by
 refine a6V (gH.mono h1 fun e s' h => ?_)
 cases e <;> first | exact gH.b6Y h h2 | exact h
end
end Go.Ab
end
section
namespace Go.Ab
open Go.RowKit (Below)
section
def lW (r : Row) (i k : Nat) : Option AV := (r.es[i]?).bind fun e => e[k]?
def U9 : Option (Nat × Nat × Nat) → RS → RS → Prop
 | none, x, y => x = y
 | some (i, lo, hi), .live r, .live r' => r.sz = r'.sz ∧ r.fro = r'.fro ∧ r.es.length = r'.es.length ∧ ∀ k, lo ≤ k → k < hi → lW r i k = lW r' i k
 | some _, x, y => x = y
def qM (fp : List (Nat × Option (Nat × Nat × Nat) × Bool)) (h h' : Nat → RS) : Prop := ∀ p ∈ fp, U9 p.2.1 (h p.1) (h' p.1)
theorem bG (a : Option (Nat × Nat × Nat)) (x : RS) : U9 a x x := by
 cases a with
 | none => rfl
 | some p => cases x <;> first | rfl | exact ⟨rfl, rfl, rfl, fun _ _ _ => rfl⟩
theorem bF {a : Option (Nat × Nat × Nat)} {r : Row} {y : RS} (h : U9 a (.live r) y) : ∃ r', y = .live r' ∧ r'.sz = r.sz ∧ r'.fro = r.fro ∧ r'.es.length = r.es.length := by
 cases a with
 | none => cases h; exact ⟨r, rfl, rfl, rfl, rfl⟩
 | some p =>
   cases y with
   | live r' => exact ⟨r', rfl, h.1.symm, h.2.1.symm, h.2.2.1.symm⟩
   | _ => cases h
section
variable {P : Program} {s s' : St} {nid : Nat} {fx : Fx} {o : Oper}
theorem b1S {r r' : Row} {i k n : Nat} (hl : r.es.length = r'.es.length) (h : ∀ j, k ≤ j → j < k + n → lW r i j = lW r' i j) : (r.es[i]?).map (fun e => (e.drop k).take n) = (r'.es[i]?).map (fun e => (e.drop k).take n) := by
 by_cases hi : i < r.es.length
 · have hi' : i < r'.es.length := by omega
   rw [List.getElem?_eq_getElem hi, List.getElem?_eq_getElem hi']
   simp only [Option.map_some, Option.some.injEq]
   apply List.ext_getElem?
   intro j
   rw [Y6, Y6]
   split
   · rename_i hj
     have := h (k + j) (by omega) (by omega)
     simpa [lW, List.getElem?_eq_getElem hi, List.getElem?_eq_getElem hi'] using this
   · rfl
 · rw [List.getElem?_eq_none (by omega), List.getElem?_eq_none (by omega)]
theorem b1I {x : AV} {n : Nat} {cs : List AV} (h : rd s x n = some cs) (ha : qM (n8 false x n) s.h s'.h) : rd s' x n = some cs := by
 cases x with
 | ptr id i k =>
   have := ha _ (List.mem_singleton.2 rfl)
   simp only [rd] at h ⊢
   split at h
   · rename_i r hr
     simp only [hr] at this
     obtain ⟨r', h1, h2, h3, h4⟩ := bF this
     rw [h1] at this ⊢
     simp only [U9] at this
     simp only [h2, b1S this.2.2.1 this.2.2.2] at h ⊢
     exact h
   · cases h
 | dV id i k =>
   have := ha _ (List.mem_singleton.2 rfl)
   simp only [U9] at this
   simp only [rd] at h ⊢
   rw [← this]; exact h
 | aP es i k => exact h
 | _ => simp [rd] at h
theorem mN {sz : Nat} {x : AV} {a : Option (Nat × Nat × Nat)} (h : qI s sz x) (ha : ∀ id off n, x = .own id off n → U9 a (s.h id) (s'.h id)) : qI s' sz x := by
 cases x with
 | own id off n =>
   obtain ⟨r, h1, h2⟩ := h
   have := ha id off n rfl
   rw [h1] at this
   obtain ⟨r', g1, g2, _, _⟩ := bF this
   exact ⟨r', g1, by omega⟩
 | _ => exact h
theorem a9k {y : AV} {ys : List (List AV)} (h : mK s y = some ys) (ha : qM (n4 y) s.h s'.h) : mK s' y = some ys := by
 cases y with
 | own id off n =>
   have := ha _ (List.mem_singleton.2 rfl)
   simp only [U9] at this
   simp only [mK] at h ⊢
   rw [← this]; exact h
 | _ => exact h
theorem a8t {h h' : Nat → RS} : ∀ (n : Nat) (x : AV), (∀ p ∈ a8 h n x, h p.1 = h' p.1) → D8 h' n x = D8 h n x ∧ a8 h' n x = a8 h n x := by
 intro n
 induction n with
 | zero => intro x _; cases x <;> simp [D8, a8]
 | succ n ih =>
   intro x hx
   have many : ∀ cs : List AV, (∀ p ∈ cs.flatMap (a8 h n), h p.1 = h' p.1) → cs.mapM (D8 h' n) = cs.mapM (D8 h n) ∧ cs.flatMap (a8 h' n) = cs.flatMap (a8 h n) := by
     intro cs
     induction cs with
     | nil => intro _; simp
     | cons c cs ihc =>
       intro hc
       have h1 := ih c fun p hp => hc p (by simp only [List.flatMap_cons, List.mem_append]; exact .inl hp)
       have h2 := ihc fun p hp => hc p (by simp only [List.flatMap_cons, List.mem_append]; exact .inr hp)
       simp only [List.mapM_cons, List.flatMap_cons, h1.1, h1.2, h2.1, h2.2, and_self]
   have many2 : ∀ es : List (List AV), (∀ p ∈ es.flatMap (fun (e : List AV) => e.flatMap (a8 h n)), h p.1 = h' p.1) → (es.mapM fun (e : List AV) => e.mapM (D8 h' n)) = (es.mapM fun (e : List AV) => e.mapM (D8 h n)) ∧ es.flatMap (fun (e : List AV) => e.flatMap (a8 h' n)) = es.flatMap (fun (e : List AV) => e.flatMap (a8 h n)) := by
     intro es
     induction es with
     | nil => intro _; simp
     | cons e es ihe =>
       intro hc
       have h1 := many e fun p hp => hc p (by simp only [List.flatMap_cons, List.mem_append]; exact .inl hp)
       have h2 := ihe fun p hp => hc p (by simp only [List.flatMap_cons, List.mem_append]; exact .inr hp)
       simp only [List.mapM_cons, List.flatMap_cons, h1.1, h1.2, h2.1, h2.2, and_self]
   cases x with
   | agg cs => have := many cs hx; simp only [D8, a8, this.1, this.2, and_self]
   | Q8 cs => have := many cs hx; simp only [D8, a8, this.1, this.2, and_self]
   | fn f cs => have := many cs hx; simp only [D8, a8, this.1, this.2, and_self]
   | own id off k =>
     have h0 := hx (id, off + k) (by simp [a8])
     simp only at h0
     simp only [D8, a8, ← h0]
     cases hr : h id with
     | live r =>
       simp only
       by_cases hp : w8 ((r.es.drop off).take k) = true
       · simp only [hp, if_true, and_self]
       · have hx2 := many2 ((r.es.drop off).take k) fun p hpm => hx p (by simp only [a8, hr, hp, List.mem_cons]; exact .inr hpm)
         simp only [hp, hx2.1, hx2.2, and_self]
     | _ => simp
   | ptr id i k =>
     have h0 := hx (id, i + 1) (by simp [a8])
     simp only at h0
     simp only [D8, a8, ← h0]
     cases hr : h id with
     | live r =>
       simp only
       by_cases hp : w8 ((r.es.drop 0).take (i + 1)) = true
       · simp only [hp, if_true, and_self]
       · have hx2 := many2 ((r.es.drop 0).take (i + 1)) fun p hpm => hx p (by simp only [a8, hr, hp, List.mem_cons]; exact .inr hpm)
         simp only [hp, hx2.1, hx2.2, and_self]
     | _ => simp
   | _ => simp [D8, a8]
end
end
section
section
variable {P : Program} {s s' : St} {nid : Nat} {fx : Fx} {o : Oper}
theorem a71 {ids : List (Nat × Nat)} {lend : Bool} {h h' : Nat → RS} (ha : qM (ids.map fun p => (p.1, none, lend)) h h') : ∀ p ∈ ids, h p.1 = h' p.1 := by
 intro p hp
 exact ha (p.1, none, lend) (List.mem_map.2 ⟨p, hp, rfl⟩)
theorem vI {x : Option Operand} {i : Option Int} (hev : ∀ y ∈ x.toArray, s'.ev y = s.ev y) (h : a8T s x i) : a8T s' x i := by
 cases x with
 | none => cases i <;> exact h
 | some x => cases i with
   | none => exact h
   | some i => obtain ⟨k, hk⟩ := h; exact ⟨k, by rw [hev x (by simp)]; exact hk⟩
theorem mC {x : Option Operand} {v : Option Value} (hev : ∀ y ∈ x.toArray, s'.ev y = s.ev y) (h : xG s x = some v) : xG s' x = some v := by
 cases x with
 | none => exact h
 | some x => simp only [xG, hev x (by simp)] at h ⊢; exact h
theorem nF [j5 P] (hev : ∀ x ∈ o.op.operands, s'.ev x = s.ev x) (ha : qM fx.fp s.h s'.h) (h : ex P o s nid fx) : ex P o s' nid fx := by
 unfold ex at h ⊢
 split at h
 · rename_i x ho; simp only [ho, Op.operands] at hev; simp only [hev x (by simp)]; exact h
 · rename_i x ho; simp only [ho, Op.operands] at hev; simp only [hev x (by simp)]; exact h
 · rename_i x ho; simp only [ho, Op.operands] at hev; simp only [hev x (by simp)]; exact h
 · rename_i c x y ho; simp only [ho, Op.operands] at hev; simp only [hev c (by simp), hev x (by simp), hev y (by simp)]; exact h
 · exact h
 · rename_i x ho; simp only [ho, Op.operands] at hev; simp only [hev x (by simp)]; exact h
 · rename_i t ps ho
   simp only [ho, Op.operands] at hev
   have e : (ps.toList.map fun p => (p.1, s'.ev p.2)) = ps.toList.map fun p => (p.1, s.ev p.2) := List.map_congr_left fun p hp => by rw [hev p.2 (by simp; exact ⟨p.1, by simpa using hp⟩)]
   simp only [e]; exact h
 · rename_i t len ps ho
   simp only [ho, Op.operands] at hev
   have e : (ps.toList.map fun p => (p.1, s'.ev p.2)) = ps.toList.map fun p => (p.1, s.ev p.2) := List.map_congr_left fun p hp => by rw [hev p.2 (by simp; exact ⟨p.1, by simpa using hp⟩)]
   simp only [e]; exact h
 · rename_i t x ho
   simp only [ho, Op.operands] at hev
   obtain ⟨T, h1, cs, h2, val, h3, rfl⟩ := h
   exact ⟨T, h1, cs, by rw [hev x (by simp)]; exact b1I h2 ha, val, h3, by rw [hev x (by simp)]⟩
 · rename_i t x y ho
   simp only [ho, Op.operands] at hev
   obtain ⟨T, hT, cs, hcs, hl, hone, id, i, k, haddr, r, hr, hfro, hi, hk, rfl⟩ := h
   have hag : ∃ a, U9 a (s.h id) (s'.h id) := by
     rcases haddr with e | e <;> rw [e] at ha
     · exact ⟨_, ha (id, some (i, k, k + T.size), true) (by simp [n8])⟩
     · exact ⟨_, ha (id, none, true) (by simp [n8])⟩
   obtain ⟨a, hag⟩ := hag
   rw [hr] at hag
   obtain ⟨r', g1, g2, g3, g4⟩ := bF hag
   exact ⟨T, hT, cs, by rw [hev y (by simp)]; exact hcs, hl, hone, id, i, k, by rw [hev x (by simp)]; exact haddr, r', g1, by omega, by omega, by omega, by rw [hev x (by simp)]⟩
 · rename_i op t x y yt ho
   simp only [ho, Op.operands] at hev
   simp only [hev x (by simp), hev y (by simp)]; exact h
 · rename_i op t x ho; simp only [ho, Op.operands] at hev; simp only [hev x (by simp)]; exact h
 · rename_i a b x ho; simp only [ho, Op.operands] at hev; simp only [hev x (by simp)]; exact h
 · rename_i fn first M7 ho
   simp only [ho, Op.operands] at hev
   have e : M7.toList.map s'.ev = M7.toList.map s.ev := List.map_congr_left fun p hp => hev p (by simp; exact .inr (by simpa using hp))
   simp only [e]; exact h
 · rename_i t l c ho
   simp only [ho, Op.operands] at hev
   simp only [hev l (by simp), hev c (by simp)]; exact h
 · rename_i t x lo hi mx ho
   simp only [ho, Op.operands] at hev
   have ex0 := hev x (by simp)
   have elo : ∀ y ∈ lo.toArray, s'.ev y = s.ev y := fun y hy => hev y (by simp only [Array.mem_append]; exact .inl (.inl (.inr hy)))
   have ehi : ∀ y ∈ hi.toArray, s'.ev y = s.ev y := fun y hy => hev y (by simp only [Array.mem_append]; exact .inl (.inr hy))
   have emx : ∀ y ∈ mx.toArray, s'.ev y = s.ev y := fun y hy => hev y (by simp only [Array.mem_append]; exact .inr hy)
   rcases h with ⟨E, hD, hz, l, hl, hv, hh, mo, hm, val, hv2, rfl⟩ | ⟨vx, hx, vlo, hlo, vhi, hhi, vmx, hmx, z, hz, rfl⟩
   · refine .inl ⟨E, hD, ?_, l, ?_, hv, vI ehi hh, mo, vI emx hm, val, by rw [ex0]; exact hv2, by rw [ex0]⟩
     · rw [ex0]
       exact mN hz (a := some (0, 0, 0)) fun id off n e => by rw [e] at ha; exact ha (id, some (0, 0, 0), false) (by simp [o8])
     · rcases hl with hl | ⟨lx, k, rfl, hk⟩
       · exact .inl hl
       · exact .inr ⟨lx, k, rfl, by rw [elo lx (by simp)]; exact hk⟩
   · exact .inr ⟨vx, by rw [ex0]; exact hx, vlo, mC elo hlo, vhi, mC ehi hhi, vmx, mC emx hmx, z, hz, rfl⟩
 · rename_i t x f ho; simp only [ho, Op.operands] at hev; simp only [hev x (by simp)]; exact h
 · rename_i t x f ho; simp only [ho, Op.operands] at hev; simp only [hev x (by simp)]; exact h
 · rename_i t x ix ho
   simp only [ho, Op.operands] at hev
   have ex0 := hev x (by simp)
   obtain ⟨D, hD, hz, k, i, hi, val, hv, rfl⟩ := h
   rw [hev ix (by simp), ex0]
   have hfr : ∀ id off n, s.ev x = .own id off n → U9 (some (0, 0, 0)) (s.h id) (s'.h id) := fun id off n e => by rw [e] at ha; exact ha (id, some (0, 0, 0), false) (by simp [o8])
   refine ⟨D, hD, fun E hE => mN (hz E hE) hfr, k, i, hi, val, ?_, rfl⟩
   unfold a01 at hv ⊢
   split at hv
   · exact hv
   · rename_i E id off n hx
     split at hv
     · rename_i r hr
       have := hfr id off n hx
       rw [hr] at this
       obtain ⟨r', g1, g2, g3, g4⟩ := bF this
       rw [g1]
       simp only [g4]
       exact hv
     · cases hv
   · exact hv
   · exact hv
   · cases hv
 · rename_i t x ix ho
   simp only [ho, Op.operands] at hev
   simp only [hev x (by simp), hev ix (by simp)]; exact h
 · rename_i x i ho; simp only [ho, Op.operands] at hev; simp only [hev x (by simp)]; exact h
 · rename_i t m k c ho
   simp only [ho, Op.operands] at hev
   obtain ⟨d, z, ht, b, hm, kv, hkv, hik, id, f, hh, rfl⟩ := h
   have := ha (id, none, false) (by simp)
   simp only [U9] at this
   exact ⟨d, z, ht, b, by rw [hev m (by simp)]; exact hm, kv, by rw [hev k (by simp)]; exact hkv, hik, id, f, by rw [← this]; exact hh, rfl⟩
 · rename_i c ho
   simp only [ho, Op.operands, Call.operands] at hev
   have eargs : ∀ y ∈ c.args, s'.ev y = s.ev y := fun y hy => hev y (by simp only [Array.mem_append]; exact .inr hy)
   have emap : c.args.toList.map s'.ev = c.args.toList.map s.ev := List.map_congr_left fun p hp => eargs p (by simpa using hp)
   split at h
   · rcases h with ⟨hb, x, hx, t, ht, E, hD, n, hn, rfl⟩ | ⟨hb, x, y, hxy, t, t2, htt, E, hD, E2, hD2, hz1, hz2, ys, hys, hyl, h⟩ | ⟨vs, hvs, z, hz, rfl⟩
     · exact .inl ⟨hb, x, hx, t, ht, E, hD, n, by rw [eargs x (by simp [hx])]; exact hn, rfl⟩
     · have e1 := eargs x (by simp [hxy])
       have e2 := eargs y (by simp [hxy])
       have hry : qM (n4 (s.ev y)) s.h s'.h := by
         rcases h with ⟨cl, es, _, _, rfl⟩ | ⟨es, _, _, _, _, rfl⟩ | ⟨id, off, n, _, r, _, _, _, _, _, _, rfl⟩
         · exact ha
         · exact ha
         · exact fun p hp => ha p (List.mem_cons_of_mem _ hp)
       have g2 : qI s' E.size (s.ev y) := mN hz2 (a := none) fun id off n e => by rw [e] at hry; exact hry (id, none, false) (by simp [n4])
       refine .inr (.inl ⟨hb, x, y, hxy, t, t2, htt, E, hD, E2, hD2, ?_, by rw [e2]; exact g2, ys, by rw [e2]; exact a9k hys hry, hyl, ?_⟩)
       · rw [e1]
         rcases h with ⟨cl, es, hx, _, rfl⟩ | ⟨es, hx, _, _, _, rfl⟩ | ⟨id, off, n, hx, r, _, _, _, _, _, _, rfl⟩
         · rw [hx] at hz1 ⊢; exact hz1
         · rw [hx] at hz1 ⊢; exact hz1
         · rw [hx] at hz1 ⊢
           have := ha (id, none, true) (by simp)
           simp only [U9] at this
           obtain ⟨r2, q1, q2⟩ := hz1
           exact ⟨r2, by rw [← this]; exact q1, q2⟩
       · rw [e1, e2]
         rcases h with h | h | ⟨id, off, n, hx, r, hr, h1, h2, h3, h4, h5, rfl⟩
         · exact .inl h
         · exact .inr (.inl h)
         · have := ha (id, none, true) (by simp)
           simp only [U9] at this
           exact .inr (.inr ⟨id, off, n, hx, r, by rw [← this]; exact hr, h1, h2, h3, h4, h5, rfl⟩)
     · refine .inr (.inr ⟨vs, ?_, z, hz, rfl⟩)
       rw [← hvs]
       have : ∀ l : List Operand, (∀ y ∈ l, s'.ev y = s.ev y) → l.mapM (fun x => (s'.ev x).V7) = l.mapM fun x => (s.ev x).V7 := by
         intro l
         induction l with
         | nil => intro _; rfl
         | cons y l ih => intro hl; simp only [List.mapM_cons, hl y (by simp), ih fun z hz => hl z (by simp [hz])]
       exact this _ fun y hy => eargs y (by simpa using hy)
   · rename_i fv hfv
     rcases h with h | ⟨f, M7, hf, id, r, ys, cs, cs', val, C, hx, hl, hes, hfro, hcs, gD, hpl, hpl', hval, rfl⟩
     case inr =>
       have hag := ha (id, some (0, 0, cs.length), true) (by simp)
       simp only [hl] at hag
       obtain ⟨r', q1, q2, q3, q4⟩ := bF hag
       rw [q1] at hag
       have q5 := hag.2.2.2
       refine .inr ⟨f, M7, by rw [hev fv (by simp [hfv])]; exact hf, id, r', ys, cs, cs', val, by rw [q2]; exact C, by rw [emap]; exact hx, q1, by rw [q4]; exact hes, by rw [q3]; exact hfro, fun j hj => ?_, gD, hpl, hpl', hval, rfl⟩
       have := q5 j (Nat.zero_le _) hj
       unfold lW at this
       rw [← this]; exact hcs j hj
     refine .inl ?_
     obtain ⟨f, M7, hf, n, xs, hxs, y, rows, C, hrl, lend, hlend, rfl⟩ := h
     simp only at ha
     have hids := a71 ha
     have hfz : (((c.args.toList.map s.ev) ++ M7).mapM (D8 s'.h n)) = ((c.args.toList.map s.ev) ++ M7).mapM (D8 s.h n) ∧ ((c.args.toList.map s.ev) ++ M7).flatMap (a8 s'.h n) = ((c.args.toList.map s.ev) ++ M7).flatMap (a8 s.h n) := by
       generalize (c.args.toList.map s.ev) ++ M7 = l at hids
       clear hxs ha C
       induction l with
       | nil => simp
       | cons a l ih =>
         have h1 := a8t n a fun p hp => hids p (by simp only [List.flatMap_cons, List.mem_append]; exact .inl hp)
         have h2 := ih fun p hp => hids p (by simp only [List.flatMap_cons, List.mem_append]; exact .inr hp)
         simp only [List.mapM_cons, List.flatMap_cons, h1.1, h1.2, h2.1, h2.2, and_self]
     refine ⟨f, M7, by rw [hev fv (by simp [hfv])]; exact hf, n, xs, ?_, y, rows, C, hrl, lend, hlend, ?_⟩
     · rw [emap, hfz.1]; exact hxs
     · rw [emap, hfz.2]
   · exact h
 · exact h
theorem b6x [j5 P] (h : ex P o s nid fx) : (∀ id i k cs, fx.wr = some (id, i, k, cs) → (id, none, true) ∈ fx.fp ∨ (id, some (i, k, k + cs.length), true) ∈ fx.fp) ∧ (∀ p ∈ fx.fro, (p.1, none, true) ∈ fx.fp) ∧ (∀ id, fx.kill = some id → (id, none, true) ∈ fx.fp) ∧ (fx.wr ≠ none → fx.fro = [] ∧ fx.kill = none) := by
 unfold ex at h
 split at h
 · subst h; simp
 · subst h; simp
 · obtain ⟨_, rfl⟩ := h; simp
 · obtain ⟨_, _, rfl⟩ := h; simp
 · obtain ⟨_, _, rfl⟩ := h; simp
 · obtain ⟨_, _, rfl⟩ := h; simp
 · obtain ⟨_, _, _, _, _, _, _, rfl⟩ := h; simp
 · obtain ⟨_, _, _, _, _, rfl⟩ := h; simp
 · obtain ⟨_, _, _, _, _, _, rfl⟩ := h; simp
 · obtain ⟨T, _, cs, _, hl, _, id, i, k, ha, _, _, _, _, _, rfl⟩ := h
   refine ⟨?_, by simp, by simp, by simp⟩
   intro id' i' k' cs' he
   simp only [Option.some.injEq, Prod.mk.injEq] at he
   obtain ⟨rfl, rfl, rfl, rfl⟩ := he
   rcases ha with e | e <;> rw [e]
   · exact .inr (by simp [n8, hl])
   · exact .inl (by simp [n8])
 · rcases h with ⟨_, _, _, _, _, _, rfl⟩ | ⟨_, _, _, _, _, rfl⟩ <;> simp
 · obtain ⟨_, _, _, _, rfl⟩ := h; simp
 · obtain ⟨_, _, _, _, rfl⟩ := h; simp
 · obtain ⟨_, _, _, rfl⟩ := h; simp
 · obtain ⟨_, _, _, _, _, _, _, _, _, _, rfl⟩ := h; simp
 · rcases h with ⟨_, _, _, _, _, _, _, _, _, _, _, rfl⟩ | ⟨_, _, _, _, _, _, _, _, _, _, rfl⟩ <;> simp
 · obtain ⟨_, _, _, _, _, _, rfl⟩ := h; simp
 · obtain ⟨_, _, _, _, _, _, _, _, rfl⟩ := h; simp
 · obtain ⟨_, _, _, _, _, _, _, _, rfl⟩ := h; simp
 · rcases h with ⟨_, _, _, _, _, _, _, _, _, _, _, _, rfl⟩ | ⟨_, _, _, _, _, _, rfl⟩ <;> simp
 · obtain ⟨_, _, _, _, rfl⟩ := h; simp
 · obtain ⟨_, _, _, _, _, _, _, _, _, _, _, rfl⟩ := h; simp
 · split at h
   · rcases h with ⟨_, _, _, _, _, _, _, _, _, rfl⟩ | ⟨_, _, _, _, _, _, _, _, _, _, _, _, _, _, _, _, h⟩ | ⟨_, _, _, _, rfl⟩
     · simp
     · rcases h with ⟨_, _, _, _, rfl⟩ | ⟨_, _, _, _, _, rfl⟩ | ⟨id, _, _, _, r, hr, _, _, _, _, _, rfl⟩
       · simp
       · simp
       · simp
     · simp
   · rcases h with ⟨_, _, _, _, _, _, _, _, _, hl, lend, _, rfl⟩ | ⟨_, _, _, id, r, _, cs, cs', _, _, _, _, _, _, _, gD, _, _, _, rfl⟩
     · refine ⟨by simp, ?_, by simp, by simp⟩
       intro p hp
       cases lend with
       | false => exact List.mem_map.2 ⟨p, hp, rfl⟩
       | true => cases hp
     · refine ⟨?_, by simp, by simp, by simp⟩
       intro id' i' k' cs2 he
       simp only [Option.some.injEq, Prod.mk.injEq] at he
       obtain ⟨rfl, rfl, rfl, rfl⟩ := he
       exact .inr (by simp [gD])
   · cases h
 · cases h
end
end
abbrev wV := Nat × Option (Nat × Nat × Nat) × Bool
def a0S : Option (Nat × Nat × Nat) → Option (Nat × Nat × Nat) → Prop
 | some (i, lo, hi), some (i', lo', hi') => i ≠ i' ∨ hi ≤ lo' ∨ hi' ≤ lo
 | _, _ => False
def fT (n1 : Nat) (f1 : List wV) (n2 : Nat) (f2 : List wV) : Prop :=
 (∀ p ∈ f1, ∀ q ∈ f2, p.1 = q.1 → (p.2.2 = true ∨ q.2.2 = true) → a0S p.2.1 q.2.1) ∧ (∀ p ∈ f1, ¬ (n2 ≤ p.1 ∧ p.1 < n2 + 8)) ∧ (∀ q ∈ f2, ¬ (n1 ≤ q.1 ∧ q.1 < n1 + 8)) ∧ (n1 + 8 ≤ n2 ∨ n2 + 8 ≤ n1)
abbrev qL := Option (Nat × Fx)
def dT : qL → qL → Prop
 | some (n1, f1), some (n2, f2) => fT n1 f1.fp n2 f2.fp
 | _, _ => True
theorem a8j {a b : Option (Nat × Nat × Nat)} (h : a0S a b) : a0S b a := by
 cases a <;> cases b <;> simp only [a0S] at h ⊢
 rcases h with h | h | h
 · exact .inl (Ne.symm h)
 · exact .inr (.inr h)
 · exact .inr (.inl h)
theorem rB {e1 e2 : qL} (h : dT e1 e2) : dT e2 e1 := by
 cases e1 <;> cases e2 <;> simp only [dT] at h ⊢
 obtain ⟨h1, h2, h3, h4⟩ := h
 exact ⟨fun p hp q hq e w => a8j (h1 q hq p hp e.symm w.symm), h3, h2, h4.symm⟩
def wW (fx : Fx) : Prop := (∀ id i k cs, fx.wr = some (id, i, k, cs) → (id, none, true) ∈ fx.fp ∨ (id, some (i, k, k + cs.length), true) ∈ fx.fp) ∧ (∀ p ∈ fx.fro, (p.1, none, true) ∈ fx.fp) ∧ (∀ id, fx.kill = some id → (id, none, true) ∈ fx.fp) ∧ (fx.wr ≠ none → fx.fro = [] ∧ fx.kill = none)
theorem cV {ids : List (Nat × Nat)} {id : Nat} (h : ∀ p ∈ ids, p.1 ≠ id) (m : Nat) : A9 ids id m = m := by
 induction ids generalizing m with
 | nil => rfl
 | cons p ids ih =>
   simp only [A9, List.foldl_cons]
   rw [if_neg (h p (by simp))]
   exact ih (fun q hq => h q (by simp [hq])) m
theorem b5h {fx : Fx} {f : List wV} {n1 n2 : Nat} {id : Nat} {a : Option (Nat × Nat × Nat)} {w : Bool} (hF : wW fx) (hc : fT n1 fx.fp n2 f) (hm : (id, a, w) ∈ f) : ∀ p ∈ fx.fro, p.1 ≠ id := by
 intro p hp e
 have := hc.1 (p.1, none, true) (hF.2.1 p hp) (id, a, w) hm e (.inl rfl)
 exact this
theorem b2P {fx : Fx} {f : List wV} {n1 n2 : Nat} {id : Nat} {a : Option (Nat × Nat × Nat)} {w : Bool} (hF : wW fx) (hc : fT n1 fx.fp n2 f) (hm : (id, a, w) ∈ f) : fx.kill ≠ some id := by
 intro e
 exact hc.1 (id, none, true) (hF.2.2.1 id e) (id, a, w) hm rfl (.inl rfl)
theorem vF (es : List (List AV)) (i k : Nat) (cs : List AV) (j : Nat) : (es.modify i (fun e => u0 e k cs))[j]? = if i = j then (es[j]?).map (fun e => u0 e k cs) else es[j]? := by
 rw [List.getElem?_modify]
 cases es[j]? with
 | none => simp
 | some e => by_cases h : i = j <;> simp [h]
theorem tB {fx : Fx} {f : List wV} {n1 n2 : Nat} {h : Nat → RS} (hF : wW fx) (hl : fx.new.length ≤ 8) (hc : fT n1 fx.fp n2 f) : qM f (fx.heap n1 h) h := by
 rintro ⟨id, a, w⟩ hm
 have hnew := hc.2.2.1 _ hm
 simp only at hnew ⊢
 unfold Fx.heap
 rw [if_neg (by omega), if_neg (b2P hF hc hm)]
 cases hr : h id with
 | live r =>
   simp only
   have hfro : A9 fx.fro id r.fro = r.fro := cV (b5h hF hc hm) _
   cases hw : fx.wr with
   | none =>
     have : fx.row id r = r := by simp only [Fx.row, hw, fK, hfro]
     rw [this]; exact bG _ _
   | some p =>
     obtain ⟨id', i, k, cs⟩ := p
     by_cases he : id' = id
     · subst he
       have hd : ∃ i' lo hi, a = some (i', lo, hi) ∧ (i ≠ i' ∨ k + cs.length ≤ lo ∨ hi ≤ k) := by
         rcases hF.1 _ _ _ _ hw with g | g
         · exact absurd (hc.1 _ g _ hm rfl (.inl rfl)) (by cases a <;> simp [a0S])
         · have := hc.1 _ g _ hm rfl (.inl rfl)
           cases a with
           | none => simp [a0S] at this
           | some q => obtain ⟨i', lo, hi⟩ := q; exact ⟨i', lo, hi, rfl, this⟩
       obtain ⟨i', lo, hi, rfl, hd⟩ := hd
       simp only [Fx.row, hw, fK, if_true, hfro, U9, List.length_modify, true_and]
       intro k' h1 h2
       simp only [lW, vF]
       by_cases hi2 : i = i'
       · subst hi2
         rw [if_pos rfl]
         cases r.es[i]? with
         | none => rfl
         | some e =>
           simp only [Option.map_some, Option.bind_some, lB]
           rw [if_neg (by omega)]
       · rw [if_neg hi2]
     · have : fx.row id r = r := by simp only [Fx.row, hw, fK, if_neg he, hfro]
       rw [this]; exact bG _ _
 | _ => exact bG _ _
theorem a4l (e : List AV) {k k' : Nat} {cs cs' : List AV} (h : k + cs.length ≤ k' ∨ k' + cs'.length ≤ k) : u0 (u0 e k cs) k' cs' = u0 (u0 e k' cs') k cs := by
 apply List.ext_getElem?
 intro j
 simp only [lB, mJ]
 by_cases h1 : k ≤ j ∧ j < k + cs.length
 · rw [if_pos h1, if_neg (by omega), if_pos h1]
 · rw [if_neg h1, if_neg h1]
theorem a9r {fx1 fx2 : Fx} {n1 n2 id : Nat} (h1 : wW fx1) (h2 : wW fx2) (hc : fT n1 fx1.fp n2 fx2.fp) (es : List (List AV)) : fK fx1.wr id (fK fx2.wr id es) = fK fx2.wr id (fK fx1.wr id es) := by
 cases hw1 : fx1.wr with
 | none => rfl
 | some p =>
   cases hw2 : fx2.wr with
   | none => rfl
   | some q =>
     obtain ⟨a, i, k, cs⟩ := p
     obtain ⟨a', i', k', cs'⟩ := q
     simp only [fK]
     by_cases e1 : a = id <;> by_cases e2 : a' = id <;> simp only [e1, e2, if_true, if_false]
     subst e1
     subst e2
     have hd : i ≠ i' ∨ k + cs.length ≤ k' ∨ k' + cs'.length ≤ k := by
       rcases h1.1 _ _ _ _ hw1 with g | g <;> rcases h2.1 _ _ _ _ hw2 with g' | g'
       all_goals
         have := hc.1 _ g _ g' rfl (.inl rfl)
         simp only [a0S] at this
       exact this
     apply List.ext_getElem?
     intro j
     simp only [vF]
     by_cases e1 : i = j <;> by_cases e2 : i' = j <;> simp only [e1, e2, if_true, if_false]
     subst e1
     subst e2
     cases es[i']? with
     | none => rfl
     | some e =>
       simp only [Option.map_some, Option.some.injEq]
       exact (a4l e (by rcases hd with hd | hd | hd; exact absurd rfl hd; exact .inl hd; exact .inr hd)).symm
def a0L (fx : Fx) (id : Nat) (x : RS) : RS :=
 if fx.kill = some id then .gone else match x with
   | .live r => .live (fx.row id r)
   | x => x
theorem eT {fx : Fx} {n id : Nat} (g : Nat → RS) (h : ¬ (n ≤ id ∧ id < n + fx.new.length)) : fx.heap n g id = a0L fx id (g id) := by
 unfold Fx.heap a0L
 rw [if_neg h]
 cases g id <;> rfl
theorem a8x {fx1 fx2 : Fx} {n1 n2 : Nat} {h : Nat → RS} (h1 : wW fx1) (h2 : wW fx2) (l1 : fx1.new.length ≤ 8) (l2 : fx2.new.length ≤ 8) (hc : fT n1 fx1.fp n2 fx2.fp) : fx1.heap n1 (fx2.heap n2 h) = fx2.heap n2 (fx1.heap n1 h) := by
 have hc' : fT n2 fx2.fp n1 fx1.fp := by
   have := rB (e1 := some (n1, fx1)) (e2 := some (n2, fx2)) hc
   exact this
 have key : ∀ {fx1 fx2 : Fx} {n1 n2 : Nat}, wW fx2 → fx1.new.length ≤ 8 → fx2.new.length ≤ 8 → fT n1 fx1.fp n2 fx2.fp → ∀ id, (n1 ≤ id ∧ id < n1 + fx1.new.length) → fx1.heap n1 (fx2.heap n2 h) id = fx2.heap n2 (fx1.heap n1 h) id := by
   intro fx1 fx2 n1 n2 h2 l1 l2 hc id hin
   have hnot : ∀ p ∈ fx2.fp, p.1 ≠ id := fun p hp e => hc.2.2.1 p hp (by rw [e]; omega)
   have e1 : ∀ g, fx1.heap n1 g id = .live (fx1.new.getD (id - n1) ⟨0, [], 0⟩) := fun g => by unfold Fx.heap; rw [if_pos hin]
   rw [e1]
   have hd := hc.2.2.2
   have hk : fx2.kill ≠ some id := fun e => hnot _ (h2.2.2.1 id e) rfl
   rw [eT _ (by omega), e1]
   simp only [a0L, if_neg hk, Fx.row]
   have hfro : ∀ m, A9 fx2.fro id m = m := cV fun p hp e => hnot _ (h2.2.1 p hp) e
   have hwr : ∀ es, fK fx2.wr id es = es := by
     intro es
     cases hw : fx2.wr with
     | none => rfl
     | some p =>
       obtain ⟨a, i, k, cs⟩ := p
       simp only [fK]
       rw [if_neg]
       intro e
       rcases h2.1 _ _ _ _ hw with g | g <;> exact hnot _ g e
   simp only [hfro, hwr]
 funext id
 by_cases c1 : n1 ≤ id ∧ id < n1 + fx1.new.length
 · exact key h2 l1 l2 hc id c1
 · by_cases c2 : n2 ≤ id ∧ id < n2 + fx2.new.length
   · exact (key h1 l2 l1 hc' id c2).symm
   · rw [eT _ c1, eT _ c2, eT _ c2, eT _ c1]
     by_cases k1 : fx1.kill = some id <;> by_cases k2 : fx2.kill = some id
     · simp only [a0L, if_pos k1, if_pos k2]
     · simp only [a0L, if_pos k1, if_neg k2]
     · simp only [a0L, if_neg k1, if_pos k2]
     · simp only [a0L, if_neg k1, if_neg k2]
       cases h id with
       | live r =>
         simp only [Fx.row, a9r h1 h2 hc]
         congr 2
         by_cases hx : ∃ p ∈ fx1.fro, p.1 = id
         · obtain ⟨p, hp, e⟩ := hx
           have : ∀ q ∈ fx2.fro, q.1 ≠ id := fun q hq e' => hc.1 _ (h1.2.1 p hp) _ (h2.2.1 q hq) (by rw [e, e']) (.inl rfl)
           rw [cV this, cV this]
         · have : ∀ q ∈ fx1.fro, q.1 ≠ id := fun q hq e' => hx ⟨q, hq, e'⟩
           rw [cV this, cV this]
       | _ => rfl
section
def bQ (o : Oper) (e : qL) (s : St) : St :=
 match e with
 | some (nid, fx) => s.dI o.dst nid fx
 | none => s.put o.dst AV.kC
def gA (ops : Array Oper) (o : Oper) (s : St) : Option Bool :=
 match o.guard with
 | none => some true
 | some (j, want) => match (ops[j]?).bind (·.dst) with
   | some d => match s.t d with
     | .v (.bool b) => some (b == want)
     | .v (.tuple cs) => if cs.isEmpty = true then some false else none
     | _ => none
   | none => none
def YE (P : Program) [j5 P] (ops : Array Oper) (o : Oper) (s : St) (e : qL) : Prop :=
 P9 s o.dst ∧ match e with
   | some (nid, fx) => gA ops o s = some true ∧ ex P o s nid fx ∧ ∀ k, k < 8 → s.h (nid + k) = .free
   | none => gA ops o s = some false
theorem b44 (o : Oper) (e : qL) (s : St) : (bQ o e s).n = s.n := by
 cases e with
 | none => cases h : o.dst <;> simp [bQ, St.put, h]
 | some p => cases h : o.dst <;> simp [bQ, St.dI, St.put, h]
theorem zO {o o' : Oper} {e : qL} {s : St} : P9 (bQ o e s) o'.dst ↔ P9 s o'.dst := by
 cases o'.dst <;> simp [P9, b44]
theorem a9V {o : Oper} {e : qL} {s : St} {t : Tmp} (h : o.dst ≠ some t) : (bQ o e s).t t = s.t t := by
 cases e with
 | none =>
   simp only [bQ, St.put]
   cases hd : o.dst with
   | none => rfl
   | some d => simp only; rw [if_neg]; intro e; apply h; rw [hd, e]
 | some p =>
   simp only [bQ, St.dI, St.put]
   cases hd : o.dst with
   | none => rfl
   | some d => simp only; rw [if_neg]; intro e; apply h; rw [hd, e]
theorem rU {ops : Array Oper} {o o' : Oper} {e : qL} {s : St} (h : ∀ d, o.dst = some d → d ∉ o'.looksAt ops) : ∀ x ∈ o'.op.operands, (bQ o e s).ev x = s.ev x := by
 intro x hx
 cases x with
 | tmp t =>
   simp only [St.ev]
   refine a9V fun hd => h t hd ?_
   exact List.mem_append_left _ (List.mem_filterMap.2 ⟨.tmp t, by simpa using hx, rfl⟩)
 | _ => rfl
theorem a0M {ops : Array Oper} {o o' : Oper} {e : qL} {s : St} (h : ∀ d, o.dst = some d → d ∉ o'.looksAt ops) : gA ops o' (bQ o e s) = gA ops o' s := by
 unfold gA
 cases hg : o'.guard with
 | none => rfl
 | some p =>
   obtain ⟨j, want⟩ := p
   simp only
   cases hd : (ops[j]?).bind (·.dst) with
   | none => rfl
   | some d =>
     simp only
     rw [a9V]
     intro e
     exact h d e (by simp [Oper.looksAt, hg, hd])
theorem kY (s : St) (d1 d2 : Option Tmp) (x y : AV) (h : ∀ d, d1 = some d → d2 ≠ some d) : (s.put d1 x).put d2 y = (s.put d2 y).put d1 x := by
 cases d1 with
 | none => rfl
 | some a =>
   cases d2 with
   | none => rfl
   | some b =>
     have hne : a ≠ b := fun e => h a rfl (by rw [e])
     simp only [St.put]
     congr 1
     funext t
     by_cases h1 : t = a
     · have h2 : ¬ t = b := fun e => hne (h1.symm.trans e)
       rw [if_neg h2, if_pos h1, if_pos h1]
     · by_cases h2 : t = b
       · rw [if_pos h2, if_neg h1, if_pos h2]
       · rw [if_neg h2, if_neg h1, if_neg h1, if_neg h2]
section
variable {P : Program} {ops : Array Oper}
theorem b6y [j5 P] {o : Oper} {s : St} {nid : Nat} {fx : Fx} (h : ex P o s nid fx) : wW fx ∧ fx.new.length ≤ 8 := ⟨b6x h, (b0p h).1⟩
def EOK (e : qL) : Prop := match e with
 | some (_, fx) => wW fx ∧ fx.new.length ≤ 8
 | none => True
theorem YE.ok [j5 P] {o : Oper} {s : St} {e : qL} (h : YE P ops o s e) : EOK e := by
 cases e with
 | none => trivial
 | some p => exact b6y h.2.2.1
theorem a4D {fp : List wV} {h h' : Nat → RS} (ha : qM fp h h') : qM fp h' h := by
 intro p hp
 have := ha p hp
 generalize p.2.1 = a at this ⊢
 generalize h p.1 = x at this ⊢
 generalize h' p.1 = y at this ⊢
 cases a with
 | none => exact this.symm
 | some q =>
   cases x <;> cases y <;> simp only [U9] at this ⊢ <;> first | exact this.symm | (cases this; done) | exact ⟨this.1.symm, this.2.1.symm, this.2.2.1.symm, fun k h1 h2 => (this.2.2.2 k h1 h2).symm⟩
theorem YE.before [j5 P] {oi oj : Oper} {s : St} {ei ej : qL} (hei : EOK ei) (hap : ∀ d, oi.dst = some d → d ∉ oj.looksAt ops) (hc : dT ei ej) (h : YE P ops oj (bQ oi ei s) ej) : YE P ops oj s ej := by
 obtain ⟨h1, h2⟩ := h
 refine ⟨zO.1 h1, ?_⟩
 cases ej with
 | none => simp only at h2 ⊢; rw [a0M hap] at h2; exact h2
 | some p =>
   obtain ⟨n2, f2⟩ := p
   simp only at h2 ⊢
   obtain ⟨g1, g2, g3⟩ := h2
   rw [a0M hap] at g1
   cases ei with
   | none =>
     refine ⟨g1, nF (s := bQ oi none s) (fun x hx => (rU hap x hx).symm) ?_ g2, ?_⟩
     · intro p hp
       have : (bQ oi none s).h = s.h := by simp only [bQ, St.put]; cases oi.dst <;> rfl
       rw [this]; exact bG _ _
     · intro k hk
       have : (bQ oi none s).h = s.h := by simp only [bQ, St.put]; cases oi.dst <;> rfl
       rw [← this]; exact g3 k hk
   | some q =>
     obtain ⟨n1, f1⟩ := q
     refine ⟨g1, nF (s := bQ oi (some (n1, f1)) s) (fun x hx => (rU hap x hx).symm) ?_ g2, ?_⟩
     · exact tB hei.1 hei.2 hc
     · intro k hk
       have := g3 k hk
       simp only [bQ, St.dI] at this
       by_cases hin : n1 ≤ n2 + k ∧ n2 + k < n1 + f1.new.length
       · have := hc.2.2.2; have := hei.2; omega
       · rw [eT _ hin] at this
         unfold a0L at this
         split at this
         · cases this
         · split at this
           · cases this
           · exact this
theorem YE.behind [j5 P] {oi oj : Oper} {s : St} {ei ej : qL} (hej : EOK ej) (hap : ∀ d, oj.dst = some d → d ∉ oi.looksAt ops) (hc : dT ei ej) (h : YE P ops oi s ei) : YE P ops oi (bQ oj ej s) ei := by
 obtain ⟨h1, h2⟩ := h
 refine ⟨zO.2 h1, ?_⟩
 have hc' := rB hc
 cases ei with
 | none => simp only at h2 ⊢; rw [a0M hap]; exact h2
 | some p =>
   obtain ⟨n1, f1⟩ := p
   simp only at h2 ⊢
   obtain ⟨g1, g2, g3⟩ := h2
   rw [a0M hap]
   cases ej with
   | none =>
     have hh : (bQ oj none s).h = s.h := by simp only [bQ, St.put]; cases oj.dst <;> rfl
     refine ⟨g1, nF (s := s) (rU hap) (fun p hp => by rw [hh]; exact bG _ _) g2, fun k hk => by rw [hh]; exact g3 k hk⟩
   | some q =>
     obtain ⟨n2, f2⟩ := q
     refine ⟨g1, nF (s := s) (rU hap) (a4D (tB hej.1 hej.2 hc')) g2, fun k hk => ?_⟩
     simp only [bQ, St.dI]
     have hin : ¬ (n2 ≤ n1 + k ∧ n1 + k < n2 + f2.new.length) := by have := hc.2.2.2; have := hej.2; omega
     rw [eT _ hin, g3 k hk]
     unfold a0L
     rw [if_neg]
     intro e
     exact hc.2.2.1 _ (hej.1.2.2.1 _ e) (by simp only; omega)
theorem a75 {oi oj : Oper} {s : St} {ei ej : qL} (hei : EOK ei) (hej : EOK ej) (hd : ∀ d, oi.dst = some d → oj.dst ≠ some d) (hc : dT ei ej) : bQ oj ej (bQ oi ei s) = bQ oi ei (bQ oj ej s) := by
 cases ei with
 | none =>
   cases ej with
   | none => exact kY _ _ _ _ _ hd
   | some q =>
     obtain ⟨n2, f2⟩ := q
     have := kY s oi.dst oj.dst AV.kC f2.val hd
     have hh : (s.put oi.dst AV.kC).h = s.h := by simp only [St.put]; cases oi.dst <;> rfl
     simp only [bQ, St.dI, hh]
     have e1 : ({ (s.put oi.dst AV.kC).put oj.dst f2.val with h := f2.heap n2 s.h } : St) = { (s.put oj.dst f2.val).put oi.dst AV.kC with h := f2.heap n2 s.h } := by rw [this]
     refine e1.trans ?_
     cases oi.dst <;> rfl
 | some p =>
   obtain ⟨n1, f1⟩ := p
   cases ej with
   | none =>
     have := kY s oi.dst oj.dst f1.val AV.kC hd
     have hh : (s.put oj.dst AV.kC).h = s.h := by simp only [St.put]; cases oj.dst <;> rfl
     simp only [bQ, St.dI, hh]
     have e1 : ({ (s.put oj.dst AV.kC).put oi.dst f1.val with h := f1.heap n1 s.h } : St) = { (s.put oi.dst f1.val).put oj.dst AV.kC with h := f1.heap n1 s.h } := by rw [this]
     refine Eq.trans ?_ e1.symm
     cases oj.dst <;> rfl
   | some q =>
     obtain ⟨n2, f2⟩ := q
     have h1 := kY s oi.dst oj.dst f1.val f2.val hd
     have h2 := a8x (h := s.h) hei.1 hej.1 hei.2 hej.2 hc
     simp only [bQ, St.dI, St.b3X]
     rw [h1, h2]
def a74 (P : Program) [j5 P] (ops : Array Oper) (E : Nat → qL) (Q : St → Prop) : Nat → Array Bool → St → Prop
 | 0, listed, s => Region.ready .any ops listed = [] ∧ Q s
 | fuel + 1, listed, s => (Region.ready .any ops listed = [] → Q s) ∧
   ∀ i ∈ Region.ready .any ops listed, ∃ o, ops[i]? = some o ∧ YE P ops o s (E i) ∧ a74 P ops E Q fuel (listed.setIfInBounds i true) (bQ o (E i) s)
def iQ (ops : Array Oper) (listed : Array Bool) : Prop := ∀ k, listed.getD k false = true → ∀ o, ops[k]? = some o → ∀ e ∈ o.after, Region.binds .any e = true → listed.getD e.on false = true
theorem lX {listed : Array Bool} {i : Nat} (hc : iQ ops listed) (hi : i ∈ Region.ready .any ops listed) : iQ ops (listed.setIfInBounds i true) := by
 intro k hk o ho e he hb
 by_cases hki : k = i
 · subst hki
   obtain ⟨_, o', ho', hall⟩ := mem_ready.1 hi
   rw [ho] at ho'
   cases ho'
   exact getD_set_true (hall e he hb)
 · rw [getD_set_ne false (Ne.symm hki)] at hk
   exact getD_set_true (hc k hk o ho e he hb)
theorem a4G [j5 P] {E : Nat → qL} {Q : St → Prop} {D : Nat → Nat → Prop} (hD : ∀ listed, iQ ops listed → ∀ k, listed.getD k false = true → ∀ i, D i k → listed.getD i false = true) (hD1 : ∀ i j o, ops[j]? = some o → D i j → ∃ e ∈ o.after, Region.binds .any e = true ∧ (e.on = i ∨ D i e.on))
   {i : Nat} {oi : Oper} (hi : ops[i]? = some oi) :
   ∀ (fuel : Nat) (listed : Array Bool) (s : St), iQ ops listed →
     (∀ j oj, ops[j]? = some oj → j ≠ i → listed.getD j true = false → (∀ e ∈ oj.after, Region.binds .any e = true → e.on ≠ i) → oi.apart ops oj = true) →
     (∀ j oj, ops[j]? = some oj → j ≠ i → listed.getD j true = false → ¬ D i j → dT (E i) (E j)) →
     i ∈ Region.ready .any ops listed → YE P ops oi s (E i) →
     a74 P ops E Q fuel (listed.setIfInBounds i true) (bQ oi (E i) s) → a74 P ops E Q (fuel + 1) listed s := by
 intro fuel
 induction fuel with
 | zero =>
   intro listed s _ _ _ hr hy H
   refine ⟨fun h => (by rw [h] at hr; cases hr), fun j hj => ?_⟩
   by_cases hji : j = i
   · subst hji; exact ⟨oi, hi, hy, H⟩
   · have := ready_mono hj hji
     rw [H.1] at this
     cases this
 | succ fuel ih =>
   intro listed s gD hfree hmem hr hy H
   refine ⟨fun h => (by rw [h] at hr; cases hr), fun j hj => ?_⟩
   by_cases hji : j = i
   · subst hji; exact ⟨oi, hi, hy, H⟩
   · obtain ⟨oj, hoj, hyj, hrest⟩ := H.2 j (ready_mono hj hji)
     obtain ⟨hjun, oj', hoj', hall⟩ := mem_ready.1 hj
     rw [hoj] at hoj'
     cases hoj'
     have hiun := (mem_ready.1 hr).1
     have hun : listed.getD i false = false := by
       rcases Nat.lt_or_ge i listed.size with h' | h'
       · simp [h'] at hiun ⊢; exact hiun
       · simp [Array.getElem?_eq_none h'] at hiun
     have hnot : ∀ e ∈ oj.after, Region.binds .any e = true → e.on ≠ i := fun e he hb heq => by
       have h1 := hall e he hb
       rw [heq, hun] at h1
       cases h1
     have hnD : ¬ D i j := by
       intro hd
       obtain ⟨e, he, hb, h1⟩ := hD1 i j oj hoj hd
       rcases h1 with h1 | h1
       · exact hnot e he hb h1
       · have := hD listed gD e.on (hall e he hb) i h1
         rw [hun] at this
         cases this
     obtain ⟨a1, a2, a3⟩ := Oper.apart_spec (hfree j oj hoj hji hjun hnot)
     have hcf := hmem j oj hoj hji hjun hnD
     have hyj' : YE P ops oj s (E j) := YE.before hy.ok a1 hcf hyj
     refine ⟨oj, hoj, hyj', ?_⟩
     refine ih (listed.setIfInBounds j true) _ (lX gD hj) ?_ ?_ (ready_mono hr (Ne.symm hji)) (YE.behind hyj.ok a3 hcf hy) ?_
     · intro k ok hk hki hku hno
       refine hfree k ok hk hki ?_ hno
       by_cases hjk : j = k
       · subst hjk; exact hjun
       · rw [getD_set_ne true hjk] at hku; exact hku
     · intro k ok hk hki hku hno
       refine hmem k ok hk hki ?_ hno
       by_cases hjk : j = k
       · subst hjk; exact hjun
       · rw [getD_set_ne true hjk] at hku; exact hku
     · rw [Array.setIfInBounds_comm _ _ hji, ← a75 hy.ok hyj.ok a2 hcf]
       exact hrest
end
end
section
def vC (acc : List Nat) (o : Oper) : Nat := o.after.toList.foldl (fun s e => if Region.binds .any e then s ||| 2 ^ e.on ||| acc.getD e.on 0 else s) 0
def V1 : List Oper → List Nat → List Nat
 | [], acc => acc
 | o :: l, acc => V1 l (acc ++ [vC acc o])
theorem a5D {acc : List Nat} {o : Oper} {i : Nat} (h : (vC acc o).testBit i = true) : ∃ e ∈ o.after, Region.binds .any e = true ∧ (e.on = i ∨ (acc.getD e.on 0).testBit i = true) := by
 have key : ∀ (l : List Edge) (s : Nat), (l.foldl (fun s e => if Region.binds .any e then s ||| 2 ^ e.on ||| acc.getD e.on 0 else s) s).testBit i = true → s.testBit i = true ∨ ∃ e ∈ l, Region.binds .any e = true ∧ (e.on = i ∨ (acc.getD e.on 0).testBit i = true) := by
   intro l
   induction l with
   | nil => intro s h; exact .inl h
   | cons e l ih =>
     intro s h
     simp only [List.foldl_cons] at h
     rcases ih _ h with h1 | ⟨e', h1, h2⟩
     · split at h1
       · rename_i hb
         simp only [Nat.testBit_or, Bool.or_eq_true, Nat.testBit_two_pow, decide_eq_true_eq] at h1
         rcases h1 with (h1 | h1) | h1
         · exact .inl h1
         · exact .inr ⟨e, by simp, hb, .inl h1⟩
         · exact .inr ⟨e, by simp, hb, .inr h1⟩
       · exact .inl h1
     · exact .inr ⟨e', by simp [h1], h2⟩
 rcases key _ _ h with h | ⟨e, h1, h2⟩
 · simp at h
 · exact ⟨e, by simpa using h1, h2⟩
theorem vD : ∀ (l : List Oper) (acc : List Nat), (V1 l acc).take acc.length = acc ∧ (V1 l acc).length = acc.length + l.length ∧ ∀ (i : Nat) o, l[i]? = some o → (V1 l acc)[acc.length + i]? = some (vC ((V1 l acc).take (acc.length + i)) o) := by
 intro l
 induction l with
 | nil => intro acc; simp [V1]
 | cons o l ih =>
   intro acc
   obtain ⟨h1, h2, h3⟩ := ih (acc ++ [vC acc o])
   simp only [List.length_append, List.length_singleton] at h1 h2 h3
   simp only [V1]
   have ht : (V1 l (acc ++ [vC acc o])).take acc.length = acc := by
     have := congrArg (List.take acc.length) h1
     rw [List.take_take, Nat.min_eq_left (by omega)] at this
     rw [this]; simp
   refine ⟨ht, by rw [h2]; simp; omega, fun i o' ho => ?_⟩
   cases i with
   | zero =>
     simp at ho
     subst ho
     rw [Nat.add_zero, ht]
     have := congrArg (fun l => l[acc.length]?) h1
     simp only [List.getElem?_take] at this
     rw [if_pos (by omega)] at this
     rw [this]; simp
   | succ i =>
     simp at ho
     have := h3 i o' ho
     rw [show acc.length + (i + 1) = acc.length + 1 + i from by omega]
     exact this
def rO (tab : List Nat) (i j : Nat) : Prop := (tab.getD j 0).testBit i = true
theorem b5a {l : List Oper} {i j : Nat} {o : Oper} (ho : l[j]? = some o) (h : rO (V1 l []) i j) : ∃ e ∈ o.after, Region.binds .any e = true ∧ (e.on = i ∨ (e.on < j ∧ rO (V1 l []) i e.on)) := by
 obtain ⟨_, h2, h3⟩ := vD l []
 have := h3 j o ho
 simp only [List.length_nil, Nat.zero_add] at this
 unfold rO at h
 rw [List.getD_eq_getElem?_getD, this, Option.getD_some] at h
 obtain ⟨e, he, hb, h4⟩ := a5D h
 refine ⟨e, he, hb, ?_⟩
 rcases h4 with h4 | h4
 · exact .inl h4
 · refine .inr ?_
   rw [List.getD_eq_getElem?_getD, List.getElem?_take] at h4
   split at h4
   · rename_i hlt
     exact ⟨hlt, by unfold rO; rw [List.getD_eq_getElem?_getD]; exact h4⟩
   · simp at h4
theorem b6s {l : List Oper} {listed : Array Bool} (hc : iQ l.toArray listed) : ∀ k, listed.getD k false = true → ∀ i, rO (V1 l []) i k → listed.getD i false = true := by
 intro k
 induction k using Nat.strongRecOn with
 | _ k ih =>
   intro hk i hd
   cases ho : l[k]? with
   | none =>
     obtain ⟨_, h2, _⟩ := vD l []
     unfold rO at hd
     rw [List.getD_eq_getElem?_getD, List.getElem?_eq_none (by rw [h2]; simpa using ho)] at hd
     simp at hd
   | some o =>
     obtain ⟨e, he, hb, h1⟩ := b5a ho hd
     have hl := hc k hk o (by simpa using ho) e he hb
     rcases h1 with rfl | ⟨hlt, h1⟩
     · exact hl
     · exact ih e.on hlt hl i h1
section
variable {P : Program}
def rM (P : Program) [j5 P] (ops : Array Oper) : List Oper → St → List qL → St → Prop
 | [], s, [], s' => s = s'
 | o :: l, s, e :: es, s' => YE P ops o s e ∧ rM P ops l (bQ o e s) es s'
 | _, _, _, _ => False
theorem tE [j5 P] {L : List Oper} {E : Nat → qL} {Q : St → Prop} (hmem : ∀ i j, i < j → j < L.length → ¬ rO (V1 L []) i j → dT (E i) (E j)) :
   ∀ (l : List Oper) (k : Nat) (listed : Array Bool) (s s' : St) (es : List qL), (∀ j, l[j]? = L.toArray[k + j]?) → iQ L.toArray listed → (∀ j, listed.getD j true = false → k ≤ j) → Region.lexFrom .any L.toArray l.length k listed = true →
     (∀ j : Nat, j < es.length → E (k + j) = es.getD j none) → rM P L.toArray l s es s' → Q s' → a74 P L.toArray E Q l.length listed s
 | [], k, listed, s, s', es, _, _, _, hB, _, hR, hQ => by
   cases es with
   | nil => simp only [rM] at hR; subst hR; exact ⟨by simpa [Region.lexFrom] using hB, hQ⟩
   | cons e es => simp [rM] at hR
 | o :: l, k, listed, s, s', es, hl, gD, hlist, hB, hE, hR, hQ => by
   have h0 : L.toArray[k]? = some o := by simpa using (hl 0).symm
   simp only [List.length_cons, Region.lexFrom, Bool.and_eq_true] at hB
   obtain ⟨⟨hr, hf⟩, hB'⟩ := hB
   cases es with
   | nil => simp [rM] at hR
   | cons e es =>
     obtain ⟨hy, hR⟩ := hR
     have hEk : E k = e := by simpa using hE 0 (by simp)
     have hr' : k ∈ Region.ready .any L.toArray listed := by simpa using hr
     refine a4G (D := rO (V1 L [])) (fun listed hc k hk i hd => b6s hc k hk i hd) (fun i j o ho hd => ?_) h0 l.length listed s gD (Region.free_spec h0 hf) ?_ hr' (by rw [hEk]; exact hy) ?_
     · obtain ⟨e, he, hb, h1⟩ := b5a (by simpa using ho) hd
       exact ⟨e, he, hb, h1.imp id (·.2)⟩
     · intro j oj hj hne hun hnd
       have hkj := hlist j hun
       have hjl : j < L.length := by simpa using (Array.getElem?_eq_some_iff.1 hj).1
       exact hmem k j (by omega) hjl hnd
     · rw [hEk]
       refine tE hmem l (k + 1) _ _ s' es (fun j => by have := hl (j + 1); simpa [Nat.add_assoc, Nat.add_comm 1 j] using this) (lX gD hr') ?_ hB' ?_ hR hQ
       · intro j hj
         by_cases hjk : k = j
         · subst hjk
           have hlt : k < listed.size := by
             have h1 := (mem_ready.1 hr').1
             rcases Nat.lt_or_ge k listed.size with h' | h'
             · exact h'
             · simp [Array.getElem?_eq_none h'] at h1
           simp [hlt] at hj
         · rw [getD_set_ne true hjk] at hj
           have := hlist j hj
           omega
       · intro j hj
         have := hE (j + 1) (by simp; omega)
         simp only [List.getD_cons_succ] at this
         rw [← this]; congr 1; omega
section
variable {G : Gh} {M0 : Nat → Nat → Prop} {w0 : World} {s : St} {ρ : Nat → Option (Nat × Nat × Nat)} {a : Act} {w : World} {Q' : Exit → Act → World → Prop} {ops : Array Oper}
theorem a64 (R : Rel G M0 w0 s ρ a w) {o : Oper} {b : Bool} (h : gA ops o s = some b) : Region.wanted o (yielded ops a.tmps) = b := by
 unfold gA at h
 unfold Region.wanted
 cases hg : o.guard with
 | none => rw [hg] at h; simpa using h
 | some p =>
   obtain ⟨j, want⟩ := p
   rw [hg] at h
   simp only at h ⊢
   split at h
   · rename_i d hd
     split at h
     · rename_i c hc
       cases h
       have := R.tm d
       rw [hc] at this
       have := this.X5
       have hy : yielded ops a.tmps j = some c := by
         unfold yielded
         rw [hd]
         simp only [Option.bind_some]
         by_cases hlt : d < a.tmps.size
         · simp [hlt] at this ⊢
           rw [this]
         · simp [hlt, undef] at this
       rw [hy]
       rfl
     · rename_i cs ht
       split at h
       · rename_i he
         cases h
         have e : cs = #[] := Array.isEmpty_iff.1 he
         subst e
         have hy : yielded ops a.tmps j = none := by
           have := R.tm d
           rw [ht] at this
           have := this.X5
           unfold yielded
           rw [hd]
           simp only [Option.bind_some]
           by_cases hlt : d < a.tmps.size
           · simp [hlt] at this ⊢
             rw [this]
           · simp [hlt]
         rw [hy]
         rfl
       · cases h
     · cases h
   · cases h
theorem a4H [j5 P] (m : Option Nat) (hgl : j5.ok P w0) {E : Nat → qL} {Q : St → Prop} (hQ : ∀ s' ρ' a' w', Q s' → Rel G M0 w0 s' ρ' a' w' → Q' .normal a' w') :
   ∀ (fuel : Nat) (listed : Array Bool) (s : St) (ρ : Nat → Option (Nat × Nat × Nat)) (a : Act) (w : World), Rel G M0 w0 s ρ a w → a74 P ops E Q fuel listed s → wpAnyIn (bY m) 0 P .any ops Q' fuel listed a w := by
 intro fuel
 induction fuel with
 | zero => intro listed s ρ a w R h; exact ⟨h.1, hQ _ _ _ _ h.2 R⟩
 | succ fuel ih =>
   intro listed s ρ a w R h
   refine ⟨fun h0 => hQ _ _ _ _ (h.1 h0) R, fun i hi => ?_⟩
   obtain ⟨o, ho, hy, hrest⟩ := h.2 i hi
   obtain ⟨hd, hy⟩ := hy
   unfold wpOpIn
   rw [ho]
   simp only
   cases hE : E i with
   | none =>
     rw [hE] at hy hrest
     simp only at hy
     rw [a64 R hy, if_neg (by simp)]
     exact ⟨fun f _ => jT m f, ih _ _ _ _ _ (R.pure hd (.v _)) hrest⟩
   | some p =>
     obtain ⟨nid, fx⟩ := p
     rw [hE] at hy hrest
     simp only at hy
     rw [a64 R hy.1, if_pos rfl]
     exact bT m (iR hy.2.1) (nG hgl R hd hy.2.2 hy.2.1 fun ρ' a' w' R' => ih _ _ _ _ _ R' hrest)
theorem a49 [j5 P] (m : Option Nat) (hgl : j5.ok P w0) {id : Nat} {L : List Oper} {es : List qL} {s' : St} (hm : P.follows .mixedOrders = true) (R : Rel G M0 w0 s ρ a w) (hB : Region.lexB .any L.toArray = true)
   (hmem : ∀ i j, i < j → j < L.length → ¬ rO (V1 L []) i j → dT (es.getD i none) (es.getD j none)) (hR : rM P L.toArray L s es s') (hQ : ∀ ρ' a' w', Rel G M0 w0 s' ρ' a' w' → Q' .normal a' w') : (Code.region id L.toArray true).wpIn (bY m) 0 P Q' a w := by
 simp only [Region.lexB, Bool.and_eq_true] at hB
 refine wpIn_region_any hm ?_
 refine a4H m hgl (E := fun i => es.getD i none) (Q := fun t => t = s') (fun s1 ρ' a' w' e R' => by subst e; exact hQ _ _ _ R') _ _ s ρ a w.drew R.drew ?_
 have aO : L.toArray.size = L.length := by simp
 rw [aO] at hB ⊢
 refine tE hmem L 0 _ s s' es (by simp) ?_ (fun j _ => Nat.zero_le _) hB.2 (fun j hj => by simp) hR rfl
 intro k hk
 exfalso
 simp only [Array.getD_eq_getD_getElem?, Array.getElem?_replicate] at hk
 split at hk <;> simp at hk
end
end
end
section
abbrev rL := List (Option (Nat × List wV))
def b0i : Option (Nat × Nat × Nat) → Option (Nat × Nat × Nat) → Bool
 | some (i, lo, hi), some (i', lo', hi') => i != i' || Nat.ble hi lo' || Nat.ble hi' lo
 | _, _ => false
def b0g : Option (Nat × List wV) → Option (Nat × List wV) → Bool
 | some (n1, f1), some (n2, f2) => f1.all (fun p => f2.all fun q => p.1 != q.1 || !(p.2.2 || q.2.2) || b0i p.2.1 q.2.1) && f1.all (fun p => !(Nat.ble n2 p.1 && Nat.blt p.1 (n2 + 8))) &&
     f2.all (fun p => !(Nat.ble n1 p.1 && Nat.blt p.1 (n1 + 8))) && (Nat.ble (n1 + 8) n2 || Nat.ble (n2 + 8) n1)
 | _, _ => true
def gB (tab : List Nat) (log : rL) : Bool := (List.range log.length).all fun j => (List.range j).all fun i => (tab.getD j 0).testBit i || b0g (log.getD i none) (log.getD j none)
def bR (e : qL) : Option (Nat × List wV) := e.map fun p => (p.1, p.2.fp)
theorem b0j {a b : Option (Nat × Nat × Nat)} (h : b0i a b = true) : a0S a b := by
 cases a <;> cases b <;> simp only [b0i, a0S] at h ⊢ <;> try (cases h; done)
 simp at h
 omega
theorem a2Y {e1 e2 : qL} (h : b0g (bR e1) (bR e2) = true) : dT e1 e2 := by
 cases e1 <;> cases e2 <;> simp only [dT]
 rename_i p q
 obtain ⟨n1, f1⟩ := p
 obtain ⟨n2, f2⟩ := q
 simp only [bR, Option.map_some, b0g, Bool.and_eq_true, List.all_eq_true, Bool.or_eq_true, Bool.not_eq_true', Bool.and_eq_false_iff] at h
 obtain ⟨⟨⟨h1, h2⟩, h3⟩, h4⟩ := h
 refine ⟨fun p hp q hq e w => ?_, fun p hp hh => ?_, fun p hp hh => ?_, ?_⟩
 · have := h1 p hp q hq
   rcases this with (h | h) | h
   · simp [e] at h
   · rcases w with w | w <;> simp [w] at h
   · exact b0j h
 · have := h2 p hp
   rcases this with h | h
   · rw [Nat.ble_eq_true_of_le hh.1] at h; cases h
   · have h5 : Nat.blt p.1 (n2 + 8) = true := by rw [Nat.blt_eq]; exact hh.2
     rw [h5] at h; cases h
 · have := h3 p hp
   rcases this with h | h
   · rw [Nat.ble_eq_true_of_le hh.1] at h; cases h
   · have h5 : Nat.blt p.1 (n1 + 8) = true := by rw [Nat.blt_eq]; exact hh.2
     rw [h5] at h; cases h
 · rcases h4 with h | h
   · exact .inl (Nat.le_of_ble_eq_true h)
   · exact .inr (Nat.le_of_ble_eq_true h)
def jO (P : Program) [j5 P] (rest : LS → rL → (LS → Prop) → Prop) (d : Option Tmp) (s : LS) (log : rL) (N : LS → Prop) (f : FuncId) (xs : List AV) : Prop :=
 (∃ n ys, xs.mapM (D8 (LS.hf s.h) n) = some ys ∧ ∃ y rows, e8 P f ys y rows ∧ (rows s.nx).length ≤ 8 ∧
   ∃ lend : Bool, (lend = true → rows s.nx = [] ∧ (y s.nx).flat = true) ∧
   rest (s.dI d { val := y s.nx, fp := (xs.flatMap (a8 (LS.hf s.h) n)).map (fun p => (p.1, none, !lend)), fro := if lend then [] else xs.flatMap (a8 (LS.hf s.h) n), new := rows s.nx })
     (log ++ [some (s.nx, (xs.flatMap (a8 (LS.hf s.h) n)).map (fun p => (p.1, none, !lend)))]) N) ∨
 ∃ fx, a60 P f xs (LS.hf s.h) fx ∧ rest (s.dI d fx) (log ++ [some (s.nx, fx.fp)]) N
def A2 (P : Program) [j5 P] (rest : LS → rL → (LS → Prop) → Prop) (d : Option Tmp) (s : LS) (log : rL) (N : LS → Prop) (fv : AV) (xs : List AV) : Prop :=
 match fv with
 | .fn f M7 => jO P rest d s log N f (xs ++ M7)
 | _ => False
def a5b (rest : LS → rL → (LS → Prop) → Prop) (d : Option Tmp) (s : LS) (log : rL) (N : LS → Prop) : Option (Prop × Fx) → Prop
 | some (c, fx) => c ∧ rest (s.dI d fx) (log ++ [some (s.nx, fx.fp)]) N
 | none => False
def Z3 (P : Program) [j5 P] (rest : LS → rL → (LS → Prop) → Prop) (d : Option Tmp) (op : Op) (s : LS) (log : rL) (N : LS → Prop) : Prop :=
 match op with
 | .call c => match c.callee with
   | .value fv => A2 P rest d s log N (LS.ev s.t fv) (c.args.toList.map (LS.ev s.t))
   | _ => a5b rest d s log N (w6 P op s.t s.h s.nx)
 | op => a5b rest d s log N (w6 P op s.t s.h s.nx)
def gdT (P : Program) [j5 P] (rest : LS → rL → (LS → Prop) → Prop) (d : Option Tmp) (op : Op) (s : LS) (log : rL) (N : LS → Prop) (want : Bool) (g : Tmp) (b : Bool) : Prop :=
 (b = want → V0 s d ∧ Z3 P rest d op (s.put (some g) (.v (.bool want))) log N) ∧ (b = (!want) → V0 s d ∧ rest ((s.put (some g) (.v (.bool (!want)))).put d AV.kC) (log ++ [none]) N)
def gdD (P : Program) [j5 P] (rest : LS → rL → (LS → Prop) → Prop) (d : Option Tmp) (op : Op) (s : LS) (log : rL) (N : LS → Prop) (want : Bool) (g : Tmp) : AV → Prop
 | .v (.bool b) => gdT P rest d op s log N want g b
 | .v (.tuple cs) => cs.isEmpty = true ∧ V0 s d ∧ rest (s.put d AV.kC) (log ++ [none]) N
 | _ => False
section
variable {P : Program} {rest : LS → rL → (LS → Prop) → Prop} {d : Option Tmp} {op : Op} {s : LS} {log : rL} {N : LS → Prop} {g : Tmp}
theorem b3L [j5 P] {want : Bool} {b : Bool} : gdD P rest d op s log N want g (.v (.bool b)) = gdT P rest d op s log N want g b := rfl
theorem a7a [j5 P] {want : Bool} : gdD P rest d op s log N want g AV.kC = (V0 s d ∧ rest (s.put d AV.kC) (log ++ [none]) N) := by simp [gdD, AV.kC, undef]
theorem b0D [j5 P] : gdT P rest d op s log N true g true = (V0 s d ∧ Z3 P rest d op (s.put (some g) (.v (.bool true))) log N) := by simp [gdT]
theorem b0A [j5 P] : gdT P rest d op s log N false g false = (V0 s d ∧ Z3 P rest d op (s.put (some g) (.v (.bool false))) log N) := by simp [gdT]
theorem b0C [j5 P] : gdT P rest d op s log N true g false = (V0 s d ∧ rest ((s.put (some g) (.v (.bool false))).put d AV.kC) (log ++ [none]) N) := by simp [gdT]
theorem b0B [j5 P] : gdT P rest d op s log N false g true = (V0 s d ∧ rest ((s.put (some g) (.v (.bool true))).put d AV.kC) (log ++ [none]) N) := by simp [gdT]
theorem b3P [j5 P] {p : Prop} [Decidable p] : gdT P rest d op s log N true g (decide p) = ((p → V0 s d ∧ Z3 P rest d op (s.put (some g) (.v (.bool true))) log N) ∧ (¬ p → V0 s d ∧ rest ((s.put (some g) (.v (.bool false))).put d AV.kC) (log ++ [none]) N)) := by simp [gdT]
theorem b3O [j5 P] {p : Prop} [Decidable p] : gdT P rest d op s log N false g (decide p) = ((p → V0 s d ∧ rest ((s.put (some g) (.v (.bool true))).put d AV.kC) (log ++ [none]) N) ∧ (¬ p → V0 s d ∧ Z3 P rest d op (s.put (some g) (.v (.bool false))) log N)) := by
 simp only [gdT, decide_eq_false_iff_not, Bool.not_false, decide_eq_true_eq]
 exact propext And.comm
theorem a5k [j5 P] {b : Bool} (h1 : b = true → V0 s d ∧ Z3 P rest d op (s.put (some g) (.v (.bool true))) log N) (h2 : b = false → V0 s d ∧ rest ((s.put (some g) (.v (.bool false))).put d AV.kC) (log ++ [none]) N) : gdT P rest d op s log N true g b := ⟨h1, h2⟩
theorem a5j [j5 P] {b : Bool} (h1 : b = false → V0 s d ∧ Z3 P rest d op (s.put (some g) (.v (.bool false))) log N) (h2 : b = true → V0 s d ∧ rest ((s.put (some g) (.v (.bool true))).put d AV.kC) (log ++ [none]) N) : gdT P rest d op s log N false g b := ⟨h1, h2⟩
end
def oI (P : Program) [j5 P] (ops : List (Option Tmp)) (mk : List Nat) : List Oper → LS → rL → (LS → Prop) → Prop
 | [], s, log, N => gB mk log = true ∧ N s
 | o :: rest, s, log, N => match o.guard with
   | none => V0 s o.dst ∧ Z3 P (oI P ops mk rest) o.dst o.op s log N
   | some (j, want) => match ops.getD j none with
     | some g => gdD P (oI P ops mk rest) o.dst o.op s log N want g (LS.tf s.t g)
     | none => False
section
variable {P : Program}
theorem zV [j5 P] {ops : List Oper} {rest : List Oper} {o : Oper} {s : LS} {log : rL} {N : LS → Prop} (hok : s.ok) (hd : V0 s o.dst) (hg : gA ops.toArray o s.n9 = some true)
   (ih : ∀ s log N, s.ok → oI P (aK ops) (V1 ops []) rest s log N → ∃ es s', es.length = rest.length ∧ rM P ops.toArray rest s.n9 es s'.n9 ∧ gB (V1 ops []) (log ++ es.map bR) = true ∧ N s' ∧ s'.ok)
   (h : Z3 P (oI P (aK ops) (V1 ops []) rest) o.dst o.op s log N) :
   ∃ es s', es.length = rest.length + 1 ∧ rM P ops.toArray (o :: rest) s.n9 es s'.n9 ∧ gB (V1 ops []) (log ++ es.map bR) = true ∧ N s' ∧ s'.ok := by
 have fin : ∀ fx, ex P o s.n9 s.nx fx → oI P (aK ops) (V1 ops []) rest (s.dI o.dst fx) (log ++ [some (s.nx, fx.fp)]) N →
     ∃ es s', es.length = rest.length + 1 ∧ rM P ops.toArray (o :: rest) s.n9 es s'.n9 ∧ gB (V1 ops []) (log ++ es.map bR) = true ∧ N s' ∧ s'.ok := by
   intro fx hx h
   obtain ⟨h1, h2⟩ := tF hok (dX hd) hx
   obtain ⟨es, s', g1, g2, g3, g4, g5⟩ := ih _ _ _ h2 h
   refine ⟨some (s.nx, fx) :: es, s', by simp [g1], ⟨⟨dX hd, hg, hx, fun k _ => LS.free hok (by omega)⟩, ?_⟩, ?_, g4, g5⟩
   · rw [h1] at g2; exact g2
   · simpa [bR] using g3
 have fin2 : a5b (oI P (aK ops) (V1 ops []) rest) o.dst s log N (w6 P o.op s.t s.h s.nx) →
     ∃ es s', es.length = rest.length + 1 ∧ rM P ops.toArray (o :: rest) s.n9 es s'.n9 ∧ gB (V1 ops []) (log ++ es.map bR) = true ∧ N s' ∧ s'.ok := by
   intro h
   cases hst : w6 P o.op s.t s.h s.nx with
   | none => rw [hst] at h; exact h.elim
   | some p =>
     obtain ⟨c, fx⟩ := p
     rw [hst] at h
     exact fin fx (rK hst h.1) h.2
 unfold Z3 at h
 split at h
 · rename_i c ho
   split at h
   · rename_i fv hfv
     unfold A2 at h
     split at h
     · rename_i f M7 hf
       have e : s.n9.ev = LS.ev s.t := funext fun x => LS.lL s x
       rcases h with ⟨n, ys, h1, y, rows, h2, h3, lend, hlend, h4⟩ | ⟨fx, hX, h4⟩
       · refine fin _ ?_ h4
         unfold ex
         rw [ho]
         simp only [hfv]
         rw [e]
         exact .inl ⟨f, M7, hf, n, ys, h1, y, rows, h2, h3, lend, hlend, rfl⟩
       · refine fin fx ?_ h4
         unfold ex
         rw [ho]
         simp only [hfv]
         rw [e]
         exact .inr ⟨f, M7, hf, hX⟩
     · exact h.elim
   · exact fin2 h
 · exact fin2 h
theorem wC [j5 P] {ops : List Oper} : ∀ (l : List Oper) (s : LS) (log : rL) (N : LS → Prop), s.ok → oI P (aK ops) (V1 ops []) l s log N →
   ∃ es s', es.length = l.length ∧ rM P ops.toArray l s.n9 es s'.n9 ∧ gB (V1 ops []) (log ++ es.map bR) = true ∧ N s' ∧ s'.ok := by
 intro l
 induction l with
 | nil => intro s log N hok h; exact ⟨[], s, rfl, rfl, by simpa using h.1, h.2, hok⟩
 | cons o rest ih =>
   intro s log N hok h
   simp only [oI, a0y] at h
   split at h
   · rename_i hg
     exact zV hok h.1 (by unfold gA; rw [hg]) ih h.2
   · rename_i j want hg
     split at h
     · rename_i g hg2
       unfold gdD at h
       split at h
       · rename_i b hb
         unfold gdT at h
         have hgA : gA ops.toArray o s.n9 = some (b == want) := by
           unfold gA
           rw [hg]
           simp only [List.getElem?_toArray, hg2]
           have : s.n9.t g = .v (.bool b) := hb
           rw [this]
         by_cases hbw : b = want
         · obtain ⟨h1, h2⟩ := h.1 hbw
           rw [oC (by rw [hb, hbw])] at h2
           exact zV hok h1 (by rw [hgA, hbw]; simp) ih h2
         · have hbn : b = !want := by cases b <;> cases want <;> simp_all
           obtain ⟨h1, h2⟩ := h.2 hbn
           rw [oC (by rw [hb, hbn])] at h2
           have hok' : (s.put o.dst AV.kC).ok := by cases hd : o.dst <;> exact hok
           obtain ⟨es, s', g1, g2, g3, g4, g5⟩ := ih _ _ _ hok' h2
           refine ⟨none :: es, s', by simp [g1], ⟨⟨dX h1, ?_⟩, ?_⟩, ?_, g4, g5⟩
           · simp only [hgA, hbn]; cases want <;> rfl
           · rw [LS.fA (dX h1)] at g2; exact g2
           · simpa [bR] using g3
       · rename_i cs hb
         obtain ⟨h0, h1, h2⟩ := h
         have hgA : gA ops.toArray o s.n9 = some false := by
           unfold gA
           rw [hg]
           simp only [List.getElem?_toArray, hg2]
           have : s.n9.t g = .v (.tuple cs) := hb
           rw [this]
           simp [h0]
         have hok' : (s.put o.dst AV.kC).ok := by cases hd : o.dst <;> exact hok
         obtain ⟨es, s', g1, g2, g3, g4, g5⟩ := ih _ _ _ hok' h2
         refine ⟨none :: es, s', by simp [g1], ⟨⟨dX h1, hgA⟩, ?_⟩, ?_, g4, g5⟩
         · rw [LS.fA (dX h1)] at g2; exact g2
         · simpa [bR] using g3
       · exact h.elim
     · exact h.elim
theorem a6R {md : Bool} [j5 P] {id : Nat} {l : List Oper} {k : List KF} {s : LS} {K : Exit → LS → Prop} (hm : P.follows .mixedOrders = true) (hB : Region.lexB .any l.toArray = true)
   (h : ∀ N : LS → Prop, (∀ s, X6 (md := md) P K k .normal s → N s) → ∀ mk, V1 l [] = mk → oI P (aK l) mk l s [] N) : AK (md := md) P (.region id l.toArray true) k s K := by
 intro m hmm G M0 w0 ρ a w Q hg R hQ
 obtain ⟨es, s', h1, h2, h3, h4, h5⟩ := wC l s [] _ R.2 (h _ (fun _ k => k) _ rfl)
 refine a49 m hg hm R.1 hB ?_ h2 fun ρ' a' w' R' => hQ [] _ _ _ _ _ .nil h4 (by rw [bI]; exact ⟨R', h5⟩)
 intro i j hij hj hnd
 simp only [List.nil_append, gB, List.length_map, List.all_eq_true, List.mem_range, Bool.or_eq_true] at h3
 rcases h3 j (by omega) i hij with g | g
 · exact absurd g hnd
 · have e : ∀ i, i < es.length → (es.map bR).getD i none = bR (es.getD i none) := by
     intro i hi
     simp [List.getD_eq_getElem?_getD, hi]
   rw [e i (by omega), e j (by omega)] at g
   exact a2Y g
end
section
variable {P : Program} {ops : List (Option Tmp)} {mk : List Nat} {s : LS} {log : rL} {N : LS → Prop}
theorem a4f [j5 P] : oI P ops mk [] s log N = (gB mk log = true ∧ N s) := rfl
theorem a0u [j5 P] {o : Oper} {rest : List Oper} : oI P ops mk (o :: rest) s log N = (match o.guard with
   | none => V0 s o.dst ∧ Z3 P (oI P ops mk rest) o.dst o.op s log N
   | some (j, want) => match ops.getD j none with
     | some g => gdD P (oI P ops mk rest) o.dst o.op s log N want g (LS.tf s.t g)
     | none => False) := rfl
theorem a0P [j5 P] {rest : LS → rL → (LS → Prop) → Prop} {d : Option Tmp} {f : FuncId} {xs ys : List AV} {y : AV} (C : e8 P f ys (fun _ => y) (fun _ => []))
   (h1 : xs.mapM (D8 (LS.hf s.h) 6) = some ys) (h2 : xs.flatMap (a8 (LS.hf s.h) 6) = []) (h : rest (s.dI d ⟨y, [], none, [], none, []⟩) (log ++ [some (s.nx, [])]) N) : jO P rest d s log N f xs :=
 .inl ⟨6, ys, h1, _, _, C, Nat.zero_le 8, false, (fun h => nomatch h), by rw [h2]; exact h⟩
theorem V5 [j5 P] {rest : LS → rL → (LS → Prop) → Prop} {d : Option Tmp} {f : FuncId} {xs ys : List AV} {y : Nat → AV} {rows : Nat → List Row} (C : e8 P f ys y rows) {ids : List (Nat × Nat)}
   (h1 : xs.mapM (D8 (LS.hf s.h) 6) = some ys) (h2 : xs.flatMap (a8 (LS.hf s.h) 6) = ids) (hr : (rows s.nx).length ≤ 8)
   (h : rest (s.dI d ⟨y s.nx, ids.map (fun p => (p.1, none, true)), none, ids, none, rows s.nx⟩) (log ++ [some (s.nx, ids.map (fun p => (p.1, none, true)))]) N) : jO P rest d s log N f xs :=
 .inl ⟨6, ys, h1, _, _, C, hr, false, (fun h => nomatch h), by rw [h2]; exact h⟩
theorem X3 [j5 P] {rest : LS → rL → (LS → Prop) → Prop} {d : Option Tmp} {f : FuncId} {xs ys : List AV} {y : AV} (C : e8 P f ys (fun _ => y) (fun _ => [])) (hy : y.flat = true) {ids : List (Nat × Nat)}
   (h1 : xs.mapM (D8 (LS.hf s.h) 6) = some ys) (h2 : xs.flatMap (a8 (LS.hf s.h) 6) = ids)
   (h : rest (s.dI d ⟨y, ids.map (fun p => (p.1, none, false)), none, [], none, []⟩) (log ++ [some (s.nx, ids.map (fun p => (p.1, none, false)))]) N) : jO P rest d s log N f xs :=
 .inl ⟨6, ys, h1, _, _, C, Nat.zero_le 8, true, (fun _ => ⟨rfl, hy⟩), by rw [h2]; exact h⟩
theorem iO [j5 P] {rest : LS → rL → (LS → Prop) → Prop} {d : Option Tmp} {f : FuncId} {xs : List AV} {y : AV} (C : e8 P f xs (fun _ => y) (fun _ => []))
   (hx : xs.all (AV.fixed 6) = true) (h : rest (s.dI d ⟨y, [], none, [], none, []⟩) (log ++ [some (s.nx, [])]) N) : jO P rest d s log N f xs :=
 a0P C (eX (fun x hx => (kN _ 6 x hx).1) _ hx) (bJ (fun x hx => (kN _ 6 x hx).2) _ hx) h
end
theorem b3V (x : Value) : AV.one (.v x) = x.oneCell' := rfl
theorem a3R : AV.one .dead = false := rfl
theorem a7r (cs : List AV) : AV.one (.agg cs) = false := rfl
theorem a7x (cs : List AV) : AV.one (.Q8 cs) = false := rfl
theorem a3Q : AV.one .T0 = true := rfl
theorem a7t (c : Bool) (es : List (List AV)) : AV.one (.b7 c es) = true := rfl
theorem a7s (es : List (List AV)) (i k : Nat) : AV.one (.aP es i k) = true := rfl
theorem a7u (id off n : Nat) : AV.one (.own id off n) = true := rfl
theorem a7v (id i k : Nat) : AV.one (.ptr id i k) = true := rfl
theorem a7w (id i k : Nat) : AV.one (.dV id i k) = true := rfl
theorem b1s (f : FuncId) (cs : List AV) : AV.one (.fn f cs) = true := rfl
structure Z7 (p : Prop) : Prop where
 out : p
end
end Go.Ab
end
section
namespace Go.Proofs.YtfccigmfcpimgaaDoor
open Go.Ab
def T3 : TI := ⟨1, false, 8, [(.int .i64 0)]⟩
theorem a6p : T3.size = 1 := rfl
theorem a9F : T3.agg = false := rfl
theorem a10 : T3.bytes = 8 := rfl
theorem a6q : T3.zero.map AV.I5 = [.v (.int .i64 0)] := rfl
theorem b6T : ti Tryd.prog 3 = some T3 := by kernel_rfl
def T4 : TI := ⟨1, false, 1, [(.bool false)]⟩
theorem a6s : T4.size = 1 := rfl
theorem a9G : T4.agg = false := rfl
theorem a13 : T4.bytes = 1 := rfl
theorem a6t : T4.zero.map AV.I5 = [.v (.bool false)] := rfl
theorem b6U : ti Tryd.prog 4 = some T4 := by kernel_rfl
def T5 : TI := ⟨1, false, 1, [(.int .u8 0)]⟩
theorem a6z : T5.size = 1 := rfl
theorem a9H : T5.agg = false := rfl
theorem a2e : T5.bytes = 1 := rfl
theorem a6A : T5.zero.map AV.I5 = [.v (.int .u8 0)] := rfl
theorem b6V : ti Tryd.prog 5 = some T5 := by kernel_rfl
def T9 : TI := ⟨1, false, 16, [(.string ⟨#[]⟩)]⟩
theorem a6L : T9.size = 1 := rfl
theorem a9I : T9.agg = false := rfl
theorem a2z : T9.bytes = 16 := rfl
theorem a6M : T9.zero.map AV.I5 = [.v (.string ⟨#[]⟩)] := rfl
theorem b6W : ti Tryd.prog 9 = some T9 := by kernel_rfl
def T21 : TI := ⟨1, false, 4, [(.int .i32 0)]⟩
theorem a1C : T21.size = 1 := rfl
theorem a6d : T21.agg = false := rfl
theorem yB : T21.bytes = 4 := rfl
theorem a1D : T21.zero.map AV.I5 = [.v (.int .i32 0)] := rfl
theorem b4q : ti Tryd.prog 21 = some T21 := by kernel_rfl
def T22 : TI := ⟨1, false, 24, [(.slice none 0 0)]⟩
theorem a1E : T22.size = 1 := rfl
theorem a6e : T22.agg = false := rfl
theorem yC : T22.bytes = 24 := rfl
theorem a1F : T22.zero.map AV.I5 = [.b7 true []] := rfl
theorem b4r : ti Tryd.prog 22 = some T22 := by kernel_rfl
def T24 : TI := ⟨1, true, 24, [(.slice none 0 0)]⟩
theorem a1G : T24.size = 1 := rfl
theorem a6f : T24.agg = true := rfl
theorem yD : T24.bytes = 24 := rfl
theorem a1H : T24.zero.map AV.I5 = [.b7 true []] := rfl
theorem b4s : ti Tryd.prog 24 = some T24 := by kernel_rfl
def T26 : TI := ⟨3, true, 3, [(.int .u8 0), (.int .u8 0), (.int .u8 0)]⟩
theorem a1I : T26.size = 3 := rfl
theorem a6g : T26.agg = true := rfl
theorem yE : T26.bytes = 3 := rfl
theorem a1J : T26.zero.map AV.I5 = [.v (.int .u8 0), .v (.int .u8 0), .v (.int .u8 0)] := rfl
theorem b4t : ti Tryd.prog 26 = some T26 := by kernel_rfl
def T27 : TI := ⟨6, true, 6, [(.int .u8 0), (.int .u8 0), (.int .u8 0), (.int .u8 0), (.int .u8 0), (.int .u8 0)]⟩
theorem a1K : T27.size = 6 := rfl
theorem a6h : T27.agg = true := rfl
theorem yF : T27.bytes = 6 := rfl
theorem a1L : T27.zero.map AV.I5 = [.v (.int .u8 0), .v (.int .u8 0), .v (.int .u8 0), .v (.int .u8 0), .v (.int .u8 0), .v (.int .u8 0)] := rfl
theorem b4u : ti Tryd.prog 27 = some T27 := by kernel_rfl
def T28 : TI := ⟨1, false, 2, [(.int .u16 0)]⟩
theorem a1M : T28.size = 1 := rfl
theorem a6i : T28.agg = false := rfl
theorem yG : T28.bytes = 2 := rfl
theorem a1N : T28.zero.map AV.I5 = [.v (.int .u16 0)] := rfl
theorem b4v : ti Tryd.prog 28 = some T28 := by kernel_rfl
def T30 : TI := ⟨1, false, 24, [(.slice none 0 0)]⟩
theorem a1O : T30.size = 1 := rfl
theorem a6j : T30.agg = false := rfl
theorem yH : T30.bytes = 24 := rfl
theorem a1P : T30.zero.map AV.I5 = [.b7 true []] := rfl
theorem b4w : ti Tryd.prog 30 = some T30 := by kernel_rfl
def T31 : TI := ⟨1, false, 24, [(.slice none 0 0)]⟩
theorem a1Q : T31.size = 1 := rfl
theorem a6k : T31.agg = false := rfl
theorem yI : T31.bytes = 24 := rfl
theorem a1R : T31.zero.map AV.I5 = [.b7 true []] := rfl
theorem b4x : ti Tryd.prog 31 = some T31 := by kernel_rfl
def T32 : TI := ⟨1, false, 24, [(.slice none 0 0)]⟩
theorem a1S : T32.size = 1 := rfl
theorem a6l : T32.agg = false := rfl
theorem yJ : T32.bytes = 24 := rfl
theorem a1T : T32.zero.map AV.I5 = [.b7 true []] := rfl
theorem b4y : ti Tryd.prog 32 = some T32 := by kernel_rfl
def T34 : TI := ⟨8, true, 112, [(.int .i64 0), (.int .i64 0), (.int .i64 0), (.int .i64 0), (.int .i64 0), (.slice none 0 0), (.slice none 0 0), (.slice none 0 0)]⟩
theorem a1U : T34.size = 8 := rfl
theorem a6m : T34.agg = true := rfl
theorem yK : T34.bytes = 112 := rfl
theorem a1V : T34.zero.map AV.I5 = [.v (.int .i64 0), .v (.int .i64 0), .v (.int .i64 0), .v (.int .i64 0), .v (.int .i64 0), .b7 true [], .b7 true [], .b7 true []] := rfl
theorem b4z : ti Tryd.prog 34 = some T34 := by kernel_rfl
def T36 : TI := ⟨1, false, 24, [(.slice none 0 0)]⟩
theorem a1W : T36.size = 1 := rfl
theorem a6n : T36.agg = false := rfl
theorem yL : T36.bytes = 24 := rfl
theorem a1X : T36.zero.map AV.I5 = [.b7 true []] := rfl
theorem b4A : ti Tryd.prog 36 = some T36 := by kernel_rfl
def T38 : TI := ⟨2, true, 48, [(.slice none 0 0), (.slice none 0 0)]⟩
theorem a1Y : T38.size = 2 := rfl
theorem a6o : T38.agg = true := rfl
theorem yM : T38.bytes = 48 := rfl
theorem a1Z : T38.zero.map AV.I5 = [.b7 true [], .b7 true []] := rfl
theorem b4B : ti Tryd.prog 38 = some T38 := by kernel_rfl
def T47 : TI := ⟨1, false, 24, [(.slice none 0 0)]⟩
theorem a11 : T47.size = 1 := rfl
theorem a6r : T47.agg = false := rfl
theorem yN : T47.bytes = 24 := rfl
theorem a12 : T47.zero.map AV.I5 = [.b7 true []] := rfl
theorem b4C : ti Tryd.prog 47 = some T47 := by kernel_rfl
def T50 : TI := ⟨1, false, 24, [(.slice none 0 0)]⟩
theorem a14 : T50.size = 1 := rfl
theorem a6u : T50.agg = false := rfl
theorem yO : T50.bytes = 24 := rfl
theorem a15 : T50.zero.map AV.I5 = [.b7 true []] := rfl
theorem b4D : ti Tryd.prog 50 = some T50 := by kernel_rfl
def T52 : TI := ⟨2, true, 2, [(.int .u8 0), (.int .u8 0)]⟩
theorem a16 : T52.size = 2 := rfl
theorem a6v : T52.agg = true := rfl
theorem yP : T52.bytes = 2 := rfl
theorem a17 : T52.zero.map AV.I5 = [.v (.int .u8 0), .v (.int .u8 0)] := rfl
theorem b4E : ti Tryd.prog 52 = some T52 := by kernel_rfl
def T55 : TI := ⟨1, false, 24, [(.slice none 0 0)]⟩
theorem a18 : T55.size = 1 := rfl
theorem a6w : T55.agg = false := rfl
theorem yQ : T55.bytes = 24 := rfl
theorem a19 : T55.zero.map AV.I5 = [.b7 true []] := rfl
theorem b4F : ti Tryd.prog 55 = some T55 := by kernel_rfl
def T57 : TI := ⟨1, false, 24, [(.slice none 0 0)]⟩
theorem a2a : T57.size = 1 := rfl
theorem a6x : T57.agg = false := rfl
theorem yR : T57.bytes = 24 := rfl
theorem a2b : T57.zero.map AV.I5 = [.b7 true []] := rfl
theorem b4G : ti Tryd.prog 57 = some T57 := by kernel_rfl
def T59 : TI := ⟨3, true, 24, [(.int .i64 0), (.int .i64 0), (.int .i32 0)]⟩
theorem a2c : T59.size = 3 := rfl
theorem a6y : T59.agg = true := rfl
theorem yS : T59.bytes = 24 := rfl
theorem a2d : T59.zero.map AV.I5 = [.v (.int .i64 0), .v (.int .i64 0), .v (.int .i32 0)] := rfl
theorem b4H : ti Tryd.prog 59 = some T59 := by kernel_rfl
def T60 : TI := ⟨2, true, 16, [(.int .i64 0), (.int .i64 0)]⟩
theorem a2f : T60.size = 2 := rfl
theorem a6B : T60.agg = true := rfl
theorem yT : T60.bytes = 16 := rfl
theorem a2g : T60.zero.map AV.I5 = [.v (.int .i64 0), .v (.int .i64 0)] := rfl
theorem b4I : ti Tryd.prog 60 = some T60 := by kernel_rfl
def T62 : TI := ⟨13, true, 104, [(.int .i64 0), (.int .i64 0), (.int .i64 0), (.int .i64 0), (.int .i32 0), (.int .i64 0), (.int .i64 0), (.int .i32 0), (.int .i64 0), (.int .i64 0), (.int .i32 0), (.int .i64 0), (.int .i64 0)]⟩
theorem a2h : T62.size = 13 := rfl
theorem a6C : T62.agg = true := rfl
theorem yU : T62.bytes = 104 := rfl
theorem a2i : T62.zero.map AV.I5 = [.v (.int .i64 0), .v (.int .i64 0), .v (.int .i64 0), .v (.int .i64 0), .v (.int .i32 0), .v (.int .i64 0), .v (.int .i64 0), .v (.int .i32 0), .v (.int .i64 0), .v (.int .i64 0), .v (.int .i32 0), .v (.int .i64 0), .v (.int .i64 0)] := rfl
theorem b4J : ti Tryd.prog 62 = some T62 := by kernel_rfl
def T64 : TI := ⟨14, true, 128, [(.slice none 0 0), (.int .i64 0), (.int .i64 0), (.int .i64 0), (.int .i64 0), (.int .i32 0), (.int .i64 0), (.int .i64 0), (.int .i32 0), (.int .i64 0), (.int .i64 0), (.int .i32 0), (.int .i64 0), (.int .i64 0)]⟩
theorem a2j : T64.size = 14 := rfl
theorem a6D : T64.agg = true := rfl
theorem yV : T64.bytes = 128 := rfl
theorem a2k : T64.zero.map AV.I5 = [.b7 true [], .v (.int .i64 0), .v (.int .i64 0), .v (.int .i64 0), .v (.int .i64 0), .v (.int .i32 0), .v (.int .i64 0), .v (.int .i64 0), .v (.int .i32 0), .v (.int .i64 0), .v (.int .i64 0), .v (.int .i32 0), .v (.int .i64 0), .v (.int .i64 0)] := rfl
theorem b4K : ti Tryd.prog 64 = some T64 := by kernel_rfl
def T67 : TI := ⟨15, true, 120, [(.int .i64 0), (.int .i64 0), (.int .i64 0), (.int .i64 0), (.int .i64 0), (.int .i32 0), (.int .i64 0), (.int .i64 0), (.int .i32 0), (.int .i64 0), (.int .i64 0), (.int .i32 0), (.int .i64 0), (.int .i64 0), (.int .i32 0)]⟩
theorem a2l : T67.size = 15 := rfl
theorem a6E : T67.agg = true := rfl
theorem yW : T67.bytes = 120 := rfl
theorem a2m : T67.zero.map AV.I5 = [.v (.int .i64 0), .v (.int .i64 0), .v (.int .i64 0), .v (.int .i64 0), .v (.int .i64 0), .v (.int .i32 0), .v (.int .i64 0), .v (.int .i64 0), .v (.int .i32 0), .v (.int .i64 0), .v (.int .i64 0), .v (.int .i32 0), .v (.int .i64 0), .v (.int .i64 0), .v (.int .i32 0)] := rfl
theorem b4L : ti Tryd.prog 67 = some T67 := by kernel_rfl
def T74 : TI := ⟨1, false, 8, [(.pointer none)]⟩
theorem a2n : T74.size = 1 := rfl
theorem a6F : T74.agg = false := rfl
theorem yX : T74.bytes = 8 := rfl
theorem a2o : T74.zero.map AV.I5 = [.v (.pointer none)] := rfl
theorem b4M : ti Tryd.prog 74 = some T74 := by kernel_rfl
def T76 : TI := ⟨10, true, 144, [(.slice none 0 0), (.int .i64 0), (.int .i64 0), (.int .i64 0), (.int .i64 0), (.int .i64 0), (.int .i64 0), (.slice none 0 0), (.slice none 0 0), (.slice none 0 0)]⟩
theorem a2p : T76.size = 10 := rfl
theorem a6G : T76.agg = true := rfl
theorem yY : T76.bytes = 144 := rfl
theorem a2q : T76.zero.map AV.I5 = [.b7 true [], .v (.int .i64 0), .v (.int .i64 0), .v (.int .i64 0), .v (.int .i64 0), .v (.int .i64 0), .v (.int .i64 0), .b7 true [], .b7 true [], .b7 true []] := rfl
theorem b4N : ti Tryd.prog 76 = some T76 := by kernel_rfl
def T81 : TI := ⟨1, false, 24, [(.slice none 0 0)]⟩
theorem a2r : T81.size = 1 := rfl
theorem a6H : T81.agg = false := rfl
theorem yZ : T81.bytes = 24 := rfl
theorem a2s : T81.zero.map AV.I5 = [.b7 true []] := rfl
theorem b4O : ti Tryd.prog 81 = some T81 := by kernel_rfl
def T83 : TI := ⟨1, false, 8, [(.int .u64 0)]⟩
theorem a2t : T83.size = 1 := rfl
theorem a6I : T83.agg = false := rfl
theorem zA : T83.bytes = 8 := rfl
theorem a2u : T83.zero.map AV.I5 = [.v (.int .u64 0)] := rfl
theorem b4P : ti Tryd.prog 83 = some T83 := by kernel_rfl
def T85 : TI := ⟨4, true, 32, [(.int .u64 0), (.int .u64 0), (.int .u64 0), (.int .u64 0)]⟩
theorem a2v : T85.size = 4 := rfl
theorem a6J : T85.agg = true := rfl
theorem zB : T85.bytes = 32 := rfl
theorem a2w : T85.zero.map AV.I5 = [.v (.int .u64 0), .v (.int .u64 0), .v (.int .u64 0), .v (.int .u64 0)] := rfl
theorem b4Q : ti Tryd.prog 85 = some T85 := by kernel_rfl
def T92 : TI := ⟨1, false, 8, [(.int .u64 0)]⟩
theorem a2x : T92.size = 1 := rfl
theorem a6K : T92.agg = false := rfl
theorem zC : T92.bytes = 8 := rfl
theorem a2y : T92.zero.map AV.I5 = [.v (.int .u64 0)] := rfl
theorem b4R : ti Tryd.prog 92 = some T92 := by kernel_rfl
def a9A : TI := ⟨1, false, 24, [(.slice none 0 0)]⟩
theorem xN : a9A.size = 1 := rfl
theorem a1v : a9A.agg = false := rfl
theorem sS : a9A.bytes = 24 := rfl
theorem xO : a9A.zero.map AV.I5 = [.b7 true []] := rfl
theorem b15 : ti Tryd.prog 106 = some a9A := by kernel_rfl
def a7S : TI := ⟨4, true, 40, [(.string ⟨#[]⟩), (.int .i64 0), (.int .i64 0), (.int .i64 0)]⟩
theorem xP : a7S.size = 4 := rfl
theorem a1w : a7S.agg = true := rfl
theorem sT : a7S.bytes = 40 := rfl
theorem xQ : a7S.zero.map AV.I5 = [.v (.string ⟨#[]⟩), .v (.int .i64 0), .v (.int .i64 0), .v (.int .i64 0)] := rfl
theorem b16 : ti Tryd.prog 109 = some a7S := by kernel_rfl
def a7T : TI := ⟨3, true, 24, [(.int .i64 0), (.int .i64 0), (.int .i64 0)]⟩
theorem xR : a7T.size = 3 := rfl
theorem a1x : a7T.agg = true := rfl
theorem sU : a7T.bytes = 24 := rfl
theorem xS : a7T.zero.map AV.I5 = [.v (.int .i64 0), .v (.int .i64 0), .v (.int .i64 0)] := rfl
theorem b17 : ti Tryd.prog 113 = some a7T := by kernel_rfl
def a9B : TI := ⟨64, true, 64, [(.int .u8 0), (.int .u8 0), (.int .u8 0), (.int .u8 0), (.int .u8 0), (.int .u8 0), (.int .u8 0), (.int .u8 0), (.int .u8 0), (.int .u8 0), (.int .u8 0), (.int .u8 0), (.int .u8 0), (.int .u8 0), (.int .u8 0), (.int .u8 0), (.int .u8 0), (.int .u8 0), (.int .u8 0), (.int .u8 0), (.int .u8 0), (.int .u8 0), (.int .u8 0), (.int .u8 0), (.int .u8 0), (.int .u8 0), (.int .u8 0), (.int .u8 0), (.int .u8 0), (.int .u8 0), (.int .u8 0), (.int .u8 0), (.int .u8 0), (.int .u8 0), (.int .u8 0), (.int .u8 0), (.int .u8 0), (.int .u8 0), (.int .u8 0), (.int .u8 0), (.int .u8 0), (.int .u8 0), (.int .u8 0), (.int .u8 0), (.int .u8 0), (.int .u8 0), (.int .u8 0), (.int .u8 0), (.int .u8 0), (.int .u8 0), (.int .u8 0), (.int .u8 0), (.int .u8 0), (.int .u8 0), (.int .u8 0), (.int .u8 0), (.int .u8 0), (.int .u8 0), (.int .u8 0), (.int .u8 0), (.int .u8 0), (.int .u8 0), (.int .u8 0), (.int .u8 0)]⟩
theorem xT : a9B.size = 64 := rfl
theorem a1y : a9B.agg = true := rfl
theorem sV : a9B.bytes = 64 := rfl
theorem xU : a9B.zero.map AV.I5 = [.v (.int .u8 0), .v (.int .u8 0), .v (.int .u8 0), .v (.int .u8 0), .v (.int .u8 0), .v (.int .u8 0), .v (.int .u8 0), .v (.int .u8 0), .v (.int .u8 0), .v (.int .u8 0), .v (.int .u8 0), .v (.int .u8 0), .v (.int .u8 0), .v (.int .u8 0), .v (.int .u8 0), .v (.int .u8 0), .v (.int .u8 0), .v (.int .u8 0), .v (.int .u8 0), .v (.int .u8 0), .v (.int .u8 0), .v (.int .u8 0), .v (.int .u8 0), .v (.int .u8 0), .v (.int .u8 0), .v (.int .u8 0), .v (.int .u8 0), .v (.int .u8 0), .v (.int .u8 0), .v (.int .u8 0), .v (.int .u8 0), .v (.int .u8 0), .v (.int .u8 0), .v (.int .u8 0), .v (.int .u8 0), .v (.int .u8 0), .v (.int .u8 0), .v (.int .u8 0), .v (.int .u8 0), .v (.int .u8 0), .v (.int .u8 0), .v (.int .u8 0), .v (.int .u8 0), .v (.int .u8 0), .v (.int .u8 0), .v (.int .u8 0), .v (.int .u8 0), .v (.int .u8 0), .v (.int .u8 0), .v (.int .u8 0), .v (.int .u8 0), .v (.int .u8 0), .v (.int .u8 0), .v (.int .u8 0), .v (.int .u8 0), .v (.int .u8 0), .v (.int .u8 0), .v (.int .u8 0), .v (.int .u8 0), .v (.int .u8 0), .v (.int .u8 0), .v (.int .u8 0), .v (.int .u8 0), .v (.int .u8 0)] := rfl
theorem b18 : ti Tryd.prog 121 = some a9B := by kernel_rfl
def a9C : TI := ⟨1, false, 4, [(.int .u32 0)]⟩
theorem xV : a9C.size = 1 := rfl
theorem a1z : a9C.agg = false := rfl
theorem sW : a9C.bytes = 4 := rfl
theorem xW : a9C.zero.map AV.I5 = [.v (.int .u32 0)] := rfl
theorem b19 : ti Tryd.prog 136 = some a9C := by kernel_rfl
def a9D : TI := ⟨1, false, 8, [(.int .u64 0)]⟩
theorem xX : a9D.size = 1 := rfl
theorem a1A : a9D.agg = false := rfl
theorem sX : a9D.bytes = 8 := rfl
theorem xY : a9D.zero.map AV.I5 = [.v (.int .u64 0)] := rfl
theorem b2a : ti Tryd.prog 137 = some a9D := by kernel_rfl
def a9E : TI := ⟨1, false, 8, [(.pointer none)]⟩
theorem xZ : a9E.size = 1 := rfl
theorem a1B : a9E.agg = false := rfl
theorem sY : a9E.bytes = 8 := rfl
theorem yA : a9E.zero.map AV.I5 = [.v (.pointer none)] := rfl
theorem b2b : ti Tryd.prog 141 = some a9E := by kernel_rfl
theorem b6P : td Tryd.prog 3 = some (.int .i64) := by kernel_rfl
theorem b6Q : td Tryd.prog 4 = some .other := by kernel_rfl
theorem b6R : td Tryd.prog 5 = some (.int .u8) := by kernel_rfl
theorem b6S : td Tryd.prog 9 = some .str := by kernel_rfl
theorem b3Z : td Tryd.prog 21 = some (.int .i32) := by kernel_rfl
theorem b30 : td Tryd.prog 22 = some (.slice T5) := by kernel_rfl
theorem b31 : td Tryd.prog 24 = some (.struct [(0, T22)]) := by kernel_rfl
theorem b32 : td Tryd.prog 26 = some (.struct [(0, T5), (1, T5), (2, T5)]) := by kernel_rfl
theorem b33 : td Tryd.prog 27 = some (.array 2 T26) := by kernel_rfl
theorem b34 : td Tryd.prog 28 = some (.int .u16) := by kernel_rfl
theorem b35 : td Tryd.prog 30 = some (.slice a7S) := by kernel_rfl
theorem b36 : td Tryd.prog 31 = some (.slice a7T) := by kernel_rfl
theorem b37 : td Tryd.prog 32 = some (.slice T64) := by kernel_rfl
theorem b38 : td Tryd.prog 34 = some (.struct [(0, T3), (1, T3), (2, T3), (3, T3), (4, T3), (5, T30), (6, T31), (7, T32)]) := by kernel_rfl
theorem b39 : td Tryd.prog 36 = some (.slice T47) := by kernel_rfl
theorem b4a : td Tryd.prog 38 = some (.struct [(0, T36), (1, T36)]) := by kernel_rfl
theorem b4b : td Tryd.prog 47 = some (.slice T3) := by kernel_rfl
theorem b4c : td Tryd.prog 50 = some (.slice T26) := by kernel_rfl
theorem b4d : td Tryd.prog 52 = some (.array 2 T5) := by kernel_rfl
theorem b4e : td Tryd.prog 55 = some (.slice T4) := by kernel_rfl
theorem b4f : td Tryd.prog 57 = some (.slice T67) := by kernel_rfl
theorem b4g : td Tryd.prog 59 = some (.struct [(0, T3), (1, T3), (2, T21)]) := by kernel_rfl
theorem b14 : td Tryd.prog 60 = some (.array 2 T3) := by kernel_rfl
theorem b4h : td Tryd.prog 62 = some (.struct [(0, T3), (1, T3), (2, T59), (5, T59), (8, T59), (11, T60)]) := by kernel_rfl
theorem b4i : td Tryd.prog 64 = some (.struct [(0, T57), (1, T62)]) := by kernel_rfl
theorem b4j : td Tryd.prog 67 = some (.struct [(0, T3), (1, T3), (2, T3), (3, T59), (6, T59), (9, T59), (12, T59)]) := by kernel_rfl
theorem b4k : td Tryd.prog 74 = some .other := by kernel_rfl
theorem b4l : td Tryd.prog 76 = some (.struct [(0, T22), (1, T3), (2, T34)]) := by kernel_rfl
theorem b4m : td Tryd.prog 81 = some (.slice T85) := by kernel_rfl
theorem b4n : td Tryd.prog 83 = some (.int .u64) := by kernel_rfl
theorem b4o : td Tryd.prog 85 = some (.array 4 T83) := by kernel_rfl
theorem b4p : td Tryd.prog 92 = some (.int .u64) := by kernel_rfl
theorem b1X : td Tryd.prog 106 = some (.slice T59) := by kernel_rfl
theorem b1Y : td Tryd.prog 109 = some (.struct [(0, T9), (1, T3), (2, T3), (3, T3)]) := by kernel_rfl
theorem b1Z : td Tryd.prog 113 = some (.struct [(0, T3), (1, T3), (2, T3)]) := by kernel_rfl
theorem b10 : td Tryd.prog 121 = some (.array 64 T5) := by kernel_rfl
theorem b11 : td Tryd.prog 136 = some (.int .u32) := by kernel_rfl
theorem b12 : td Tryd.prog 137 = some (.int .u64) := by kernel_rfl
theorem b13 : td Tryd.prog 141 = some .other := by kernel_rfl
theorem b3Q : sD Tryd.prog 4 = true := by kernel_rfl
end Go.Proofs.YtfccigmfcpimgaaDoor
end
section
namespace Go.Ab
open Go.RowKit (Below)
theorem kO (ids : List (Nat × Nat)) (l : List (Nat × RS)) : LS.hf (n6 ids l) = raise ids (LS.hf l) := by
 funext id
 simp only [LS.hf, raise]
 induction l with
 | nil => rfl
 | cons p l ih =>
   obtain ⟨i, x⟩ := p
   simp only [n6, List.lookup_cons]
   by_cases h : (id == i) = true
   · rw [h]
     have : id = i := by simpa using h
     subst this
     cases x <;> rfl
   · have h : (id == i) = false := by simpa using h
     rw [h]; exact ih
theorem a0V {ids : List (Nat × Nat)} {n : Nat} : ∀ {l : List (Nat × RS)}, (∀ p ∈ l, p.1 < n) → ∀ p ∈ n6 ids l, p.1 < n := by
 intro l
 induction l with
 | nil => intro _ p hp; cases hp
 | cons q l ih =>
   intro h p hp
   simp only [n6, List.mem_cons] at hp
   rcases hp with rfl | hp
   · exact h q (List.mem_cons_self ..)
   · exact ih (fun p hp => h p (List.mem_cons_of_mem _ hp)) p hp
theorem Q7 {ids : List (Nat × Nat)} {h : Nat → RS} {id : Nat} {r : Row} (hr : raise ids h id = .live r) : ∃ r0, h id = .live r0 ∧ r = { r0 with fro := A9 ids id r0.fro } := by
 unfold raise at hr
 split at hr
 · rename_i r0 h0; cases hr; exact ⟨r0, h0, rfl⟩
 · rename_i hn; exact absurd hr (hn _)
theorem Q6 {ids : List (Nat × Nat)} {h : Nat → RS} {id : Nat} {x : RS} (hr : raise ids h id = x) (hx : ∀ r, x ≠ .live r) : h id = x := by
 unfold raise at hr
 split at hr
 · exact absurd hr.symm (hx _)
 · exact hr
theorem a4u {s : LS} (d n : Nat) (y : AV) (h : D8 (LS.hf s.h) n (LS.tf s.t d) = some y) : Q9 s ⟨s.t.set d y, n6 (a8 (LS.hf s.h) n (LS.tf s.t d)) s.h, s.nx⟩ := by
 intro G M0 w0 ρ a w ⟨R, hok⟩
 refine ⟨ρ, ?_, a0V hok⟩
 generalize hids : a8 (LS.hf s.h) n (LS.tf s.t d) = ids
 have hH : LS.hf (n6 ids s.h) = raise ids s.n9.h := kO ids s.h
 have hy : u3 (u1 M0 ρ (raise ids s.n9.h)) (fun _ => none) w y (a.tmps.getD d undef) := gS R.toH ids n _ y _ (fun p hp => by rw [← hids]; exact hp) h (R.tm d)
 refine { n := ?_, tm := fun t => ?_, live := fun id r hr => ?_, free := fun id hr => ?_, inj := fun id id' r r' b β β' z z' h1 h2 h3 h4 => ?_, V4 := R.V4, m0 := R.m0, defers := R.defers, oR := fun id k cs hg i x hx => ?_, mQ := fun x u hx => ?_, mR := fun id b q f hm => ?_, iT := R.iT, eG := fun id r p hr hp => ?_, pM := fun id b q f hm => ?_, qE := R.qE }
 · show a.tmps.size = (s.t.set d y).length
   rw [List.length_set]; exact R.n
 · show u3 (u1 M0 ρ (LS.hf (n6 ids s.h))) ρ w (LS.tf (s.t.set d y) t) _
   rw [hH]
   unfold LS.tf
   rw [List.getD_eq_getElem?_getD, List.getElem?_set]
   by_cases ht : d = t
   · subst ht
     by_cases hl : d < s.t.length
     · simp only [hl, if_true, Option.getD_some]; exact hy.up
     · simp only [hl, if_false, if_true, Option.getD_none]; exact .dead _
   · rw [if_neg ht, ← List.getD_eq_getElem?_getD]; exact (R.tm t).raise
 · have hr : LS.hf (n6 ids s.h) id = .live r := hr
   rw [hH] at hr
   obtain ⟨r0, h0, rfl⟩ := Q7 hr
   obtain ⟨b, β, arr, e, l1, l2, l3, l4, l5, l6⟩ := R.live id r0 h0
   refine ⟨b, β, arr, e, l1, l2, l3, l4, l5, fun i j e x u g1 g2 g3 => ?_⟩
   show u3 (u1 M0 ρ (LS.hf (n6 ids s.h))) ρ w x u
   rw [hH]; exact (l6 i j e x u g1 g2 g3).raise
 · have hr : LS.hf (n6 ids s.h) id = .free := hr
   rw [hH] at hr
   exact R.free id (Q6 hr fun r h => by cases h)
 · have h1 : LS.hf (n6 ids s.h) id = .live r := h1
   have h2 : LS.hf (n6 ids s.h) id' = .live r' := h2
   rw [hH] at h1 h2
   obtain ⟨r0, g0, _⟩ := Q7 h1
   obtain ⟨r1, g1, _⟩ := Q7 h2
   exact R.inj id id' r0 r1 b β β' z z' g0 g1 h3 h4
 · have hg : LS.hf (n6 ids s.h) id = .B3 k cs := hg
   rw [hH] at hg
   show u3 (u1 M0 ρ (LS.hf (n6 ids s.h))) ρ w x _
   rw [hH]
   exact (R.oR id k cs (Q6 hg fun r h => by cases h) i x hx).raise
 · show u3 (u1 M0 ρ (LS.hf (n6 ids s.h))) _ w x u
   rw [hH]; exact (R.mQ x u hx).mono (fun _ _ h => h) (fun _ _ _ g1 g2 => ⟨fun g => g1 (J9 g), g2⟩) (fun _ _ h => h)
 · have hm : LS.hf (n6 ids s.h) id = .mp b q f := hm
   rw [hH] at hm
   exact R.mR id b q f (Q6 hm fun r h => by cases h)
 · have hr : LS.hf (n6 ids s.h) id = .live r := hr
   rw [hH] at hr
   obtain ⟨r0, h0, _⟩ := Q7 hr
   exact R.eG id r0 p h0 hp
 · have hm : LS.hf (n6 ids s.h) id = .mp b q f := hm
   rw [hH] at hm
   exact R.pM id b q f (Q6 hm fun r h => by cases h)
theorem oU {md : Bool} {P : Program} [j5 P] {c : Code} {k : List KF} {s : LS} {K : Exit → LS → Prop} (d : Nat) {y : AV} {ids : List (Nat × Nat)} (h : D8 (LS.hf s.h) 6 (LS.tf s.t d) = some y) (hi : a8 (LS.hf s.h) 6 (LS.tf s.t d) = ids)
   (h' : AK (md := md) P c k ⟨s.t.set d y, n6 ids s.h, s.nx⟩ K) : AK (md := md) P c k s K := by
 subst hi
 exact w7 (a4u d 6 y h) h'
theorem o5 (e : List AV) : u0 e 0 [] = e := by cases e <;> rfl
theorem a55 (y : AV) : ∀ (e : List AV) (k : Nat), u0 e k [y] = e.set k y := by
 intro e
 induction e with
 | nil => intro k; rfl
 | cons x e ih =>
   intro k
   cases k with
   | zero => simp [u0, o5]
   | succ k => simp [u0, ih]
theorem b5i (id i k : Nat) (cs : List AV) (l : List (Nat × RS)) (id' : Nat) : LS.hf (L8 id i k cs l) id' = if id' = id then (match LS.hf l id with | .live r => .live { r with es := r.es.modify i (fun e => u0 e k cs) } | x => x) else LS.hf l id' := by
 simp only [LS.hf]
 induction l with
 | nil => simp [L8]
 | cons p l ih =>
   obtain ⟨i0, x⟩ := p
   simp only [L8]
   by_cases h : i0 = id
   · subst h
     simp only [if_true, List.lookup_cons]
     by_cases h2 : id' = i0
     · subst h2; cases x <;> simp
     · have : (id' == i0) = false := by simpa using h2
       rw [this]; simp only [if_neg h2]
       rw [ih, if_neg h2]
   · rw [if_neg h]
     simp only [List.lookup_cons]
     by_cases h2 : id' = i0
     · subst h2
       simp only [beq_self_eq_true, if_neg h, Option.getD_some]
     · have : (id' == i0) = false := by simpa using h2
       rw [this]
       have h3 : (id == i0) = false := by simpa using Ne.symm h
       rw [h3]; exact ih
theorem b5G {id i k : Nat} {cs : List AV} {n : Nat} : ∀ {l : List (Nat × RS)}, (∀ p ∈ l, p.1 < n) → ∀ p ∈ L8 id i k cs l, p.1 < n := by
 intro l
 induction l with
 | nil => intro _ p hp; cases hp
 | cons q l ih =>
   intro h p hp
   obtain ⟨i0, x⟩ := q
   simp only [L8] at hp
   split at hp <;> (simp only [List.mem_cons] at hp; rcases hp with rfl | hp; exact h (i0, x) (List.mem_cons_self ..); exact ih (fun p hp => h p (List.mem_cons_of_mem _ hp)) p hp)
theorem L5 {s : LS} (id i j n : Nat) (x y : AV) {r : Row} (hr : LS.hf s.h id = .live r) (hx : (r.es[i]?).bind (·[j]?) = some x) (h : D8 (LS.hf s.h) n x = some y) : Q9 s ⟨s.t, n6 (a8 (LS.hf s.h) n x) (L8 id i j [y] s.h), s.nx⟩ := by
 intro G M0 w0 ρ a w ⟨R, hok⟩
 refine ⟨ρ, ?_, a0V (b5G hok)⟩
 generalize hids : a8 (LS.hf s.h) n x = ids
 have hH : ∀ id', LS.hf (n6 ids (L8 id i j [y] s.h)) id' = if id' = id then .live ⟨r.sz, r.es.modify i (fun e => e.set j y), A9 ids id r.fro⟩ else raise ids (LS.hf s.h) id' := by
   intro id'
   rw [kO]
   unfold raise
   rw [b5i, hr]
   by_cases h : id' = id
   · subst h; simp [a55]
   · simp [h]
 have hM : ∀ b o, u1 M0 ρ (LS.hf (n6 ids (L8 id i j [y] s.h))) b o → u1 M0 ρ (raise ids (LS.hf s.h)) b o := by
   rintro b o (g | ⟨id', q, β, z, h1, h2, h3⟩)
   · exact .inl g
   · rw [hH] at h1
     split at h1
     · rename_i e
       cases h1
       exact .inr ⟨id, { r with fro := A9 ids id r.fro }, β, z, by unfold raise; rw [hr], by rw [← e]; exact h2, h3⟩
     · exact .inr ⟨id', q, β, z, h1, h2, h3⟩
 have inH : ∀ {x : AV} {u : Value} {ρ' : Nat → Option (Nat × Nat × Nat)}, u3 (u1 M0 ρ (raise ids (LS.hf s.h))) ρ' w x u → u3 (u1 M0 ρ (LS.hf (n6 ids (L8 id i j [y] s.h)))) ρ' w x u := fun hx =>
   hx.mono (fun _ _ h => h) (fun _ _ _ g1 g2 => ⟨fun g => g1 (hM _ _ g), g2⟩) (fun _ _ h => h)
 have up : ∀ {x : AV} {u : Value} {ρ' : Nat → Option (Nat × Nat × Nat)}, u3 (u1 M0 ρ (LS.hf s.h)) ρ' w x u → u3 (u1 M0 ρ (LS.hf (n6 ids (L8 id i j [y] s.h)))) ρ' w x u := fun hx =>
   inH (hx.mono (fun _ _ h => h) (fun _ _ _ g1 g2 => ⟨fun g => g1 (J9 g), g2⟩) (fun _ _ h => h))
 refine { n := R.n, tm := fun t => up (R.tm t), live := fun id' r' hr' => ?_, free := fun id' hr' => ?_, inj := fun id1 id2 r1 r2 b β β' z z' h1 h2 h3 h4 => ?_, V4 := R.V4, m0 := R.m0, defers := R.defers, oR := fun id' k cs hg i' x' hx' => ?_, mQ := fun x u hx => up (R.mQ x u hx), mR := fun id' b q f hm => ?_, iT := R.iT, eG := fun id' r' p hr' hp => ?_, pM := fun id' b q f hm => ?_, qE := R.qE }
 · have hr' : LS.hf (n6 ids (L8 id i j [y] s.h)) id' = .live r' := hr'
   rw [hH] at hr'
   split at hr'
   · rename_i e
     subst e
     cases hr'
     obtain ⟨b, β, arr, e, l1, l2, l3, l4, l5, l6⟩ := R.live id' r hr
     refine ⟨b, β, arr, e, l1, l2, l3, by simpa using l4, fun e0 he0 => ?_, fun i' j' e0 x0 u g1 g2 g3 => ?_⟩
     · obtain ⟨m, hm, rfl⟩ := List.mem_iff_getElem.1 he0
       have hm' : m < r.es.length := by simpa using hm
       rw [List.getElem_modify]
       split
       · rw [List.length_set]; exact l5 _ (List.getElem_mem hm')
       · exact l5 _ (List.getElem_mem hm')
     · rw [List.getElem?_modify] at g1
       cases hq : r.es[i']? with
       | none => rw [hq] at g1; cases g1
       | some e1 =>
         rw [hq] at g1
         simp only [Option.map_eq_map, Option.map_some, Option.some.injEq] at g1
         by_cases hi : i = i'
         · subst hi
           rw [if_pos rfl] at g1
           subst g1
           rw [List.getElem?_set] at g2
           by_cases hj : j = j'
           · subst hj
             rw [if_pos rfl] at g2
             split at g2
             · cases g2
               rw [hq] at hx
               exact (inH (gS R.toH ids n x y u (fun p hp => by rw [← hids]; exact hp) h (l6 i j e1 x u hq hx g3))).up
             · cases g2
           · rw [if_neg hj] at g2
             exact up (l6 i j' e1 x0 u hq g2 g3)
         · rw [if_neg hi] at g1
           subst g1
           exact up (l6 i' j' e1 x0 u hq g2 g3)
   · obtain ⟨r0, h0, rfl⟩ := Q7 hr'
     obtain ⟨b, β, arr, e, l1, l2, l3, l4, l5, l6⟩ := R.live id' r0 h0
     exact ⟨b, β, arr, e, l1, l2, l3, l4, l5, fun i j e x u g1 g2 g3 => up (l6 i j e x u g1 g2 g3)⟩
 · have hr' : LS.hf (n6 ids (L8 id i j [y] s.h)) id' = .free := hr'
   rw [hH] at hr'
   split at hr'
   · cases hr'
   · exact R.free id' (Q6 hr' fun r h => by cases h)
 · have key : ∀ {id' r'}, LS.hf (n6 ids (L8 id i j [y] s.h)) id' = .live r' → ∃ r0, LS.hf s.h id' = .live r0 := by
     intro id' r' h
     rw [hH] at h
     split at h
     · rename_i e; subst e; exact ⟨r, hr⟩
     · obtain ⟨r0, h0, _⟩ := Q7 h; exact ⟨r0, h0⟩
   obtain ⟨q1, g1⟩ := key h1
   obtain ⟨q2, g2⟩ := key h2
   exact R.inj id1 id2 q1 q2 b β β' z z' g1 g2 h3 h4
 · have hg : LS.hf (n6 ids (L8 id i j [y] s.h)) id' = .B3 k cs := hg
   rw [hH] at hg
   split at hg
   · cases hg
   · exact up (R.oR id' k cs (Q6 hg fun r h => by cases h) i' x' hx')
 · have hm : LS.hf (n6 ids (L8 id i j [y] s.h)) id' = .mp b q f := hm
   rw [hH] at hm
   split at hm
   · cases hm
   · exact R.mR id' b q f (Q6 hm fun r h => by cases h)
 · have hr' : LS.hf (n6 ids (L8 id i j [y] s.h)) id' = .live r' := hr'
   rw [hH] at hr'
   split at hr'
   · rename_i e; subst e; exact R.eG id' r p hr hp
   · obtain ⟨r0, h0, _⟩ := Q7 hr'
     exact R.eG id' r0 p h0 hp
 · have hm : LS.hf (n6 ids (L8 id i j [y] s.h)) id' = .mp b q f := hm
   rw [hH] at hm
   split at hm
   · cases hm
   · exact R.pM id' b q f (Q6 hm fun r h => by cases h)
theorem fP {md : Bool} {P : Program} [j5 P] {c : Code} {k : List KF} {s : LS} {K : Exit → LS → Prop} (id i j : Nat) {x y : AV} {r : Row} {ids : List (Nat × Nat)} (hr : LS.hf s.h id = .live r) (hx : (r.es[i]?).bind (·[j]?) = some x) (h : D8 (LS.hf s.h) 6 x = some y) (hi : a8 (LS.hf s.h) 6 x = ids)
   (h' : AK (md := md) P c k ⟨s.t, n6 ids (L8 id i j [y] s.h), s.nx⟩ K) : AK (md := md) P c k s K := by
 subst hi
 exact w7 (L5 id i j 6 x y hr hx h) h'
theorem j7 {α : Type} {S : α → LS} {I : α → Prop} {s s' : LS} {keep ids : List Nat} (a : α) (h : c7 keep ids s = some s') (e : s' = S a) (hI : I a) : ∃ a, Z7 (I a) ∧ Q9 s (S a) := ⟨a, ⟨hI⟩, fX h e⟩
def B8 (g : Nat → Nat) : Nat → AV → AV
 | _, .dead => .dead
 | _, .v x => .v x
 | _, .T0 => .T0
 | _, .b7 c es => .b7 c es
 | _, .aP es i k => .aP es i k
 | _, .own id o k => .own (g id) o k
 | _, .ptr id i k => .ptr (g id) i k
 | _, .dV id i k => .dV (g id) i k
 | n + 1, .agg cs => .agg (cs.map (B8 g n))
 | n + 1, .Q8 cs => .Q8 (cs.map (B8 g n))
 | n + 1, .fn f cs => .fn f (cs.map (B8 g n))
 | 0, _ => .dead
def bS (g : Nat → Nat) (row : Row) : Row :=
 if w8 row.es = true then row else { row with es := row.es.map fun e => e.map (B8 g 3) }
theorem a5C {M M' : Nat → Nat → Prop} {ρ ρ' : Nat → Option (Nat × Nat × Nat)} {w : World} {g : Nat → Nat} (hM : ∀ b o, M' b o → M b o) (hg : ∀ j p, ρ j = some p → ρ' (g j) = some p) :
   ∀ (n : Nat) {x : AV} {u : Value}, u3 M ρ w x u → u3 M' ρ' w (B8 g n x) u := by
 intro n
 induction n with
 | zero =>
   intro x u h
   cases h with
   | dead u => exact .dead u
   | T0 t => exact .T0 t
   | v => exact .v _
   | b7 c es a cap b o sz cell h1 h2 h3 h4 h5 h6 => exact (u3.b7 (ρ := ρ') c es a cap b o sz cell h1 h2 h3 h4 h5 h6).qU hM
   | aP es i k b o sz cell h1 h2 h3 h4 h5 => exact (u3.aP (ρ := ρ') es i k b o sz cell h1 h2 h3 h4 h5).qU hM
   | own id off n cap b β sz N e h1 h2 h3 h4 => exact .own (g id) off n cap b β sz N e (hg _ _ h1) h2 h3 h4
   | ptr id i k b β sz h1 => exact .ptr (g id) i k b β sz (hg _ _ h1)
   | dV id i k b β sz h1 => exact .dV (g id) i k b β sz (hg _ _ h1)
   | agg cs vs hn hh => exact .dead _
   | Q8 cs vs hn hh => exact .dead _
   | fn f cs vs hn hh => exact .dead _
 | succ n ih =>
   intro x u h
   have many : ∀ (cs : List AV) (vs : Array Value), vs.size = cs.length → (∀ (i : Nat) x u, cs[i]? = some x → vs[i]? = some u → u3 M ρ w x u) →
       vs.size = (cs.map (B8 g n)).length ∧ ∀ (i : Nat) x u, (cs.map (B8 g n))[i]? = some x → vs[i]? = some u → u3 M' ρ' w x u := by
     intro cs vs hn hh
     refine ⟨by simpa using hn, fun i x u h1 h2 => ?_⟩
     rw [List.getElem?_map] at h1
     cases hc : cs[i]? with
     | none => rw [hc] at h1; cases h1
     | some x0 => rw [hc] at h1; cases h1; exact ih (hh i x0 u hc h2)
   cases h with
   | dead u => exact .dead u
   | T0 t => exact .T0 t
   | v => exact .v _
   | b7 c es a cap b o sz cell h1 h2 h3 h4 h5 h6 => exact (u3.b7 (ρ := ρ') c es a cap b o sz cell h1 h2 h3 h4 h5 h6).qU hM
   | aP es i k b o sz cell h1 h2 h3 h4 h5 => exact (u3.aP (ρ := ρ') es i k b o sz cell h1 h2 h3 h4 h5).qU hM
   | own id off n cap b β sz N e h1 h2 h3 h4 => exact .own (g id) off n cap b β sz N e (hg _ _ h1) h2 h3 h4
   | ptr id i k b β sz h1 => exact .ptr (g id) i k b β sz (hg _ _ h1)
   | dV id i k b β sz h1 => exact .dV (g id) i k b β sz (hg _ _ h1)
   | agg cs vs hn hh => obtain ⟨g1, g2⟩ := many cs vs hn hh; exact .agg _ vs g1 g2
   | Q8 cs vs hn hh => obtain ⟨g1, g2⟩ := many cs vs hn hh; exact .Q8 _ vs g1 g2
   | fn f cs vs hn hh => obtain ⟨g1, g2⟩ := many cs vs hn hh; exact .fn f _ vs g1 g2
def lJ (ids : List Nat) (m nx j : Nat) : Nat := if j < m then ids.getD j 0 else nx + (j - m)
def vP (ids : List Nat) (m : Nat) (rows : List Row) (id : Nat) (x : RS) : RS :=
 match s5 ids 0 id with
 | some j => if j < m then .live (rows.getD j ⟨0, [], 0⟩) else .gone
 | none => x
def cC (ids : List Nat) (m nx : Nat) (rows : List Row) (l : List (Nat × RS)) : List (Nat × RS) := (l.map fun p => (p.1, vP ids m rows p.1 p.2)) ++ j3 nx (rows.drop m)
theorem a5R {ids : List Nat} {id : Nat} (h : id ∉ ids) : s5 ids 0 id = none := by
 unfold s5
 rw [List.idxOf?_eq_none_iff.2 h]; rfl
theorem wA {ids : List Nat} {id j : Nat} (h : s5 ids 0 id = some j) : ids[j]? = some id := by
 unfold s5 at h
 cases hi : ids.idxOf? id with
 | none => rw [hi] at h; cases h
 | some k =>
   rw [hi] at h
   simp only [Option.map_some, Option.some.injEq, Nat.zero_add] at h
   subst h
   exact a02 hi
theorem a9e {ids : List Nat} {id : Nat} (h : id ∈ ids) : ∃ j, s5 ids 0 id = some j := by
 unfold s5
 cases hi : ids.idxOf? id with
 | none => exact absurd h (List.idxOf?_eq_none_iff.1 hi)
 | some k => exact ⟨_, rfl⟩
theorem b2H {ids : List Nat} {m nx : Nat} {rows : List Row} {l : List (Nat × RS)} (hl : ∀ p ∈ l, p.1 < nx) (hp : ∀ id ∈ ids, LS.hf l id ≠ .free) (id : Nat) :
   LS.hf (cC ids m nx rows l) id = if nx ≤ id ∧ id < nx + (rows.length - m) then .live (rows.getD (m + (id - nx)) ⟨0, [], 0⟩) else vP ids m rows id (LS.hf l id) := by
 unfold cC
 simp only [LS.hf, lookup_append, uT]
 cases hx : l.lookup id with
 | some x =>
   have : id < nx := hl _ (uU hx)
   rw [if_neg (by omega)]
   rfl
 | none =>
   have hni : id ∉ ids := fun h => hp id h (by simp only [LS.hf, hx]; rfl)
   simp only [Option.map_none, dN, List.length_drop]
   split
   · simp only [Option.getD_some, RS.live.injEq, List.getD_eq_getElem?_getD, List.getElem?_drop]
   · simp only [vP, a5R hni, Option.getD_none]
theorem b2u {ids : List Nat} {m nx : Nat} {rows : List Row} {l : List (Nat × RS)} (hl : ∀ p ∈ l, p.1 < nx) (hr : rows.length ≤ m + 8) : ∀ p ∈ cC ids m nx rows l, p.1 < nx + 8 := by
 intro p hp
 unfold cC at hp
 simp only [List.mem_append, List.mem_map] at hp
 rcases hp with ⟨q, hq, rfl⟩ | hp
 · have := hl q hq; simp only; omega
 · have := sJ _ _ p hp
   simp only [List.length_drop] at this
   omega
end Go.Ab
end
