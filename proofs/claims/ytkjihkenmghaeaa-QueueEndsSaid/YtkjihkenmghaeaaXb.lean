/- Own work (by an AI agent; no person has read it): part of a proof of the seat Ytkjihkenmghaeaa. -/
import Derived.Test.YtkjihkenmghaeaaXa
import Derived.Laws.StructEq
import Derived.ChangeKeysEq
import Derived.Deep.Slices
import Derived.ProofKit
import Derived.OpenShut
section
namespace Go.Ab
open Go.RowKit (Below)

def retFrz (P : Program) (fn : Func) (y : AV) (e : Exit) (s : LS) : Prop :=
  (match e with | .normal | .ret => True | _ => False) ∧ ∃ x, resA P s.toSt fn.results.toList = some x ∧ frz s.toSt.h 6 x = some y

def retRows (P : Program) (fn : Func) (y : Nat → AV) (rows : Nat → List Row) (e : Exit) (s : LS) : Prop :=
  (match e with | .normal | .ret => True | _ => False) ∧ ∃ x, resA P s.toSt fn.results.toList = some x ∧ ∃ ids : List Nat, ids.Nodup ∧ ∀ nid, renA (renId ids nid) 4 x = some (y nid) ∧ pickRows s.toSt.h (renId ids nid) ids = some (rows nid)

def G0 : Gh := ⟨fun _ _ => undef, fun _ _ => False⟩

def initL (fn : Func) (xs : List AV) : LS := ⟨xs ++ List.replicate (fn.ntmps - xs.length) .dead, [], 0⟩

section
variable {P : Program} {f : FuncId} {fn : Func} {c : Code} {xs : List AV}

theorem init_rel {M : Nat → Nat → Prop} {w : World} {args : Array Value} (hM : ∀ b o, M b o → b < w.heap.size) (hargs : RC M (fun _ => none) w xs args) :
    RelL G0 M w (initL fn xs) (fun _ => none) { tmps := args ++ Array.replicate (fn.ntmps - args.size) undef, defers := [] } w := by
  have hh : (initL fn xs).toSt.h = fun _ => .free := by funext id; simp [initL, LS.toSt, LS.hf]
  have hMM : ∀ b o, Mof M (fun _ => none) (initL fn xs).toSt.h b o → M b o := by
    rintro b o (g | ⟨id, r, β, z, g1, g2, g3⟩)
    · exact g
    · cases g2
  refine ⟨⟨?_, ?_, ?_, fun _ _ => rfl, ?_, Below.refl _ _, hM, rfl, ?_, fun _ _ h => h.elim, ?_⟩, ?_⟩
  · simp [initL, LS.toSt, hargs.1]
  · intro t
    simp only [initL, LS.toSt, LS.tf, List.getD_eq_getElem?_getD]
    by_cases ht : t < xs.length
    · rw [List.getElem?_append_left ht, List.getElem?_eq_getElem ht, Option.getD_some]
      have h2 : t < args.size := by rw [hargs.1]; exact ht
      have e : (args ++ Array.replicate (fn.ntmps - args.size) undef).getD t undef = args[t] := by
        rw [Array.getD_eq_getD_getElem?, Array.getElem?_append_left h2]
        simp [h2]
      rw [e]
      exact (hargs.2 t xs[t] args[t] (by simp [ht]) (by simp [h2])).inM hMM
    · rw [List.getElem?_append_right (by omega)]
      have : ((List.replicate (fn.ntmps - xs.length) AV.dead)[t - xs.length]?).getD .dead = .dead := by
        rw [List.getElem?_replicate]; split <;> rfl
      rw [this]
      exact .dead _
  · intro id r h; rw [hh] at h; cases h
  · intro id id' r r' b β β' z z' h; rw [hh] at h; cases h
  · intro id k cs h; rw [hh] at h; cases h
  · intro id b q f h; rw [hh] at h; cases h
  · intro p hp; cases hp

theorem callOK_frz [Glob P] {y : AV} (hf : P.funcs[f]? = some fn) (hb : fn.body = some c) (hn : (fn.name == "runtime.NumGoroutine") = false) (h : AWP P c (initL fn xs) (retFrz P fn y)) : CallOK P f xs (fun _ => y) (fun _ => []) := by
  refine ⟨⟨fn, hf, by simp [hb], hn⟩, fun nid M w args hg hM hargs => ?_⟩
  refine calls_of_wp hf hb (h G0 M w _ _ w _ hg (init_rel hM hargs) ?_)
  intro e s' ρ' a' w' k R
  have key : ∃ v, (results fn a'.tmps).run P w' = .ok v w' ∧ ∃ ρ, HRel M w (rowsH nid []) ρ w' ∧ Rep (Mof M ρ (rowsH nid [])) ρ w' y v := by
    obtain ⟨_, x, hx, hy⟩ := k
    obtain ⟨v, h1, h2⟩ := results_sound R.1 hx
    have h3 := frz_sound R.1.toH (frzIds s'.toSt.h 6 x) 6 x y v (fun _ h => h) hy h2
    have hfree : ∀ id, rowsH nid [] id = .free := by intro id; unfold rowsH; rw [if_neg (by simp)]
    refine ⟨v, h1, fun _ => none, ⟨?_, fun _ _ => rfl, ?_, R.1.bel, hM⟩, h3.inM ?_⟩
    · intro id r h; rw [hfree] at h; cases h
    · intro id id' r r' b β β' z z' h; rw [hfree] at h; cases h
    · rintro b o (g | ⟨id, r, β, z, g1, g2, g3⟩)
      · exact .inl g
      · cases g2
  obtain ⟨v, h1, ρ, h2, h3⟩ := key
  have k1 := k.1
  cases e <;> first
    | exact ⟨R.1.defers, v, h1, v, ρ, rfl, h2, h3⟩
    | exact k1.elim

theorem callOK_rows [Glob P] {y : Nat → AV} {rows : Nat → List Row} (hf : P.funcs[f]? = some fn) (hb : fn.body = some c) (hn : (fn.name == "runtime.NumGoroutine") = false) (h : AWP P c (initL fn xs) (retRows P fn y rows)) : CallOK P f xs y rows := by
  refine ⟨⟨fn, hf, by simp [hb], hn⟩, fun nid M w args hg hM hargs => ?_⟩
  refine calls_of_wp hf hb (h G0 M w _ _ w _ hg (init_rel hM hargs) ?_)
  intro e s' ρ' a' w' k R
  have key : ∃ v, (results fn a'.tmps).run P w' = .ok v w' ∧ ∃ ρ, HRel M w (rowsH nid (rows nid)) ρ w' ∧ Rep (Mof M ρ (rowsH nid (rows nid))) ρ w' (y nid) v := by
    obtain ⟨_, x, hx, ids, hnd, hy⟩ := k
    obtain ⟨v, h1, h2⟩ := results_sound R.1 hx
    obtain ⟨H, up, _⟩ := pick_sound R.1.toH hnd (hy nid).2
    exact ⟨v, h1, _, H, up 4 x _ v (hy nid).1 h2⟩
  obtain ⟨v, h1, ρ, h2, h3⟩ := key
  have k1 := k.1
  cases e <;> first
    | exact ⟨R.1.defers, v, h1, v, ρ, rfl, h2, h3⟩
    | exact k1.elim
end
end Go.Ab
end
section
namespace Go.Ab
open Go.RowKit (Below)

/-! the layer that is reckoned: every definition here is unfolded by simp only -/
def LS.ev (t : List AV) : Operand → AV
  | .tmp i => LS.tf t i
  | .const x => AV.ofV x
  | .global g => .v (.pointer (some ⟨g, 0, none⟩))
  | .func f => .fn f []

theorem LS.ev_eq (s : LS) (x : Operand) : s.toSt.ev x = LS.ev s.t x := by cases x <;> rfl

def andK (k : IntKind) (a b : Int) : Int := k.wrap (BitVec.ofInt k.bits a &&& BitVec.ofInt k.bits b).toNat
def orK (k : IntKind) (a b : Int) : Int := k.wrap (BitVec.ofInt k.bits a ||| BitVec.ofInt k.bits b).toNat
def xorK (k : IntKind) (a b : Int) : Int := k.wrap (BitVec.ofInt k.bits a ^^^ BitVec.ofInt k.bits b).toNat
def andNotK (k : IntKind) (a b : Int) : Int := k.wrap (BitVec.ofInt k.bits a &&& ~~~BitVec.ofInt k.bits b).toNat
def notK (k : IntKind) (n : Int) : Int := k.wrap (BitVec.ofInt k.bits (if k.signed then -1 else k.max) ^^^ BitVec.ofInt k.bits n).toNat
def shlK (k : IntKind) (a b : Int) : Int := k.wrap (a * 2 ^ (min b.toNat k.bits))
def shrK (k : IntKind) (a b : Int) : Int := a.fdiv (2 ^ (min b.toNat k.bits))

/-- operators on numbers, truth values and strings: what must hold, and the value -/
def binV (op : BinOp) (x y : Value) : Option (Prop × Value) :=
  match x, y with
  | .int k a, .int k' b => match op with
    | .shl => some (0 ≤ b, .int k (shlK k a b))
    | .shr => some (0 ≤ b, .int k (shrK k a b))
    | .add => if k = k' then some (True, .int k (k.wrap (a + b))) else none
    | .sub => if k = k' then some (True, .int k (k.wrap (a - b))) else none
    | .mul => if k = k' then some (True, .int k (k.wrap (a * b))) else none
    | .quo => if k = k' then some (b ≠ 0, .int k (k.wrap (a.tdiv b))) else none
    | .rem => if k = k' then some (b ≠ 0, .int k (a.tmod b)) else none
    | .and => if k = k' then some (True, .int k (andK k a b)) else none
    | .or => if k = k' then some (True, .int k (orK k a b)) else none
    | .xor => if k = k' then some (True, .int k (xorK k a b)) else none
    | .andNot => if k = k' then some (True, .int k (andNotK k a b)) else none
    | .eql => if k = k' then some (True, .bool (decide (a = b))) else none
    | .neq => if k = k' then some (True, .bool (decide (a ≠ b))) else none
    | .lss => if k = k' then some (True, .bool (decide (a < b))) else none
    | .leq => if k = k' then some (True, .bool (decide (a ≤ b))) else none
    | .gtr => if k = k' then some (True, .bool (decide (b < a))) else none
    | .geq => if k = k' then some (True, .bool (decide (b ≤ a))) else none
  | .string a, .string b => match op with
    | .eql => some (True, .bool (decide (a = b)))
    | .neq => some (True, .bool (decide (a ≠ b)))
    | .add => some ((a.size + b.size : Nat) ≤ 9223372036854775807, .string (a ++ b))
    | _ => none
  | _, _ => none

theorem toList_eq (a b : ByteArray) : (a.toList == b.toList) = decide (a = b) := by
  by_cases h : a = b
  · subst h; simp
  · rw [decide_eq_false h]
    have : a.toList ≠ b.toList := by
      intro e
      apply h
      rw [ByteArray.toList_eq, ByteArray.toList_eq] at e
      cases a; cases b
      simp only [ByteArray.mk.injEq]
      exact Array.ext' e
    simpa using this

theorem binV_sound {P : Program} {op : BinOp} {t : TypeId} {xo yo : Operand} {x y z : Value} {c : Prop} (h : binV op x y = some (c, z)) (hc : c) : binR P op t xo yo x y z := by
  intro w
  unfold binV at h
  split at h
  · rename_i k a k' b
    have hg : ∀ op, (eqGuard op t xo yo (.int k a) (.int k' b)).run P w = .ok () w := by intro op; cases op <;> rfl
    simp only [Sem.run_bind, hg, Result.andThen_ok]
    cases op <;> simp only at h
    case shl =>
      simp only [Option.some.injEq, Prod.mk.injEq] at h
      obtain ⟨rfl, rfl⟩ := h
      simp [binOp, Op.shift, Int.not_lt.2 hc, shlK]
    case shr =>
      simp only [Option.some.injEq, Prod.mk.injEq] at h
      obtain ⟨rfl, rfl⟩ := h
      simp [binOp, Op.shift, Int.not_lt.2 hc, shrK]
    all_goals
      split at h
      · rename_i hk
        subst hk
        simp only [Option.some.injEq, Prod.mk.injEq] at h
        obtain ⟨rfl, rfl⟩ := h
        first
          | (simp [binOp, Op.intArith]; done)
          | (simp [binOp, Op.intDiv, hc]; done)
          | (simp [binOp, Op.intBits, andK, orK, xorK, andNotK]; done)
          | (simp [binOp, Op.intCmp]; done)
          | (simp [binOp, Op.intCmp]; rw [Bool.eq_iff_iff]; simp; done)
      · cases h
  · rename_i a b
    have hg : ∀ op, (eqGuard op t xo yo (.string a) (.string b)).run P w = .ok () w := by intro op; cases op <;> rfl
    simp only [Sem.run_bind, hg, Result.andThen_ok]
    cases op <;> simp only at h <;> (try (cases h; done))
    all_goals
      simp only [Option.some.injEq, Prod.mk.injEq] at h
      obtain ⟨rfl, rfl⟩ := h
      first
        | (simp [binOp, Op.stringOp, toList_eq]; done)
        | (have : ¬ (((a.size + b.size : Nat) : Int) > IntKind.i64.max) := by simp [IntKind.max, IntKind.bits, IntKind.signed]; omega
           simp [binOp, Op.stringOp]; omega)
  · cases h
end Go.Ab
end
section
namespace Go.Ab

/-! two values of one plain type, held against each other -/
inductive Sc where
  | int (k : IntKind)
  | bool
  | str

def scB : Sc → Value → Bool
  | .int k, .int k' _ => decide (k' = k)
  | .bool, .bool _ => true
  | .str, .string _ => true
  | _, _ => false

def scL : List Sc → List Value → Bool
  | [], [] => true
  | s :: l, x :: xs => scB s x && scL l xs
  | _, _ => false

def eqV : Value → Value → Bool
  | .int _ a, .int _ b => decide (a = b)
  | .bool a, .bool b => decide (a = b)
  | .string a, .string b => decide (a = b)
  | _, _ => false

def eqL : List Value → List Value → Bool
  | [], [] => true
  | x :: xs, y :: ys => eqV x y && eqL xs ys
  | _, _ => false

def plF (P : Program) (rec : TypeId → Option (List Sc)) : List Field → Nat → Option (List Sc)
  | [], _ => some []
  | f :: fs, o => if f.name ≠ "_" ∧ f.offset = o then (rec f.type).bind fun l => if (ti P f.type).map (·.size) = some l.length then (plF P rec fs (o + l.length)).map (l ++ ·) else none else none

def plT (P : Program) : Nat → TypeId → Option (List Sc)
  | 0, _ => none
  | n + 1, t => match P.underlying t with
    | some (.int k) => some [.int k]
    | some .bool => some [.bool]
    | some .string => some [.str]
    | some (.struct fs) => if P.stoodInHeld t then none else plF P (plT P n) fs.toList 0
    | some (.array len e) => (plT P n e).bind fun l => if (ti P e).map (·.size) = some l.length then some (List.replicate len l).flatten else none
    | _ => none

/-- the type's cells, where it can be held against itself cell by cell -/
def plC (P : Program) (t : TypeId) : Option (List Sc) := if P.eqGuardType P.depth t then none else plT P 20 t

theorem scL_len : ∀ {l : List Sc} {xs : List Value}, scL l xs = true → xs.length = l.length := by
  intro l
  induction l with
  | nil => intro xs h; cases xs <;> simp_all [scL]
  | cons s l ih =>
    intro xs h
    cases xs with
    | nil => simp [scL] at h
    | cons x xs => simp only [scL, Bool.and_eq_true] at h; simp [ih h.2]

theorem scL_app : ∀ {l l' : List Sc} {xs : List Value}, scL (l ++ l') xs = true → scL l (xs.take l.length) = true ∧ scL l' (xs.drop l.length) = true := by
  intro l
  induction l with
  | nil => intro l' xs h; exact ⟨by simp [scL], by simpa using h⟩
  | cons s l ih =>
    intro l' xs h
    cases xs with
    | nil => simp [scL] at h
    | cons x xs =>
      simp only [List.cons_append, scL, Bool.and_eq_true] at h
      obtain ⟨h1, h2⟩ := ih h.2
      simp only [List.length_cons, List.take_succ_cons, List.drop_succ_cons, scL, Bool.and_eq_true]
      exact ⟨⟨h.1, h1⟩, h2⟩

theorem eqL_app : ∀ (n : Nat) (xs ys : List Value), xs.length = ys.length → eqL xs ys = (eqL (xs.take n) (ys.take n) && eqL (xs.drop n) (ys.drop n)) := by
  intro n
  induction n with
  | zero => intro xs ys _; simp [eqL]
  | succ n ih =>
    intro xs ys h
    cases xs with
    | nil => cases ys with
      | nil => simp [eqL]
      | cons y ys => simp at h
    | cons x xs => cases ys with
      | nil => simp at h
      | cons y ys =>
        simp only [List.take_succ_cons, List.drop_succ_cons, eqL, Bool.and_assoc]
        rw [ih xs ys (by simpa using h)]

/-- a value of a type by its cells -/
def mkV (P : Program) (t : TypeId) (xs : List Value) : Value :=
  match P.underlying t with
  | some (.struct _) | some (.array _ _) => .agg xs.toArray
  | _ => xs.headD undef

section
variable {P : Program}

theorem part_mk {t : TypeId} {T : TI} {l : List Sc} (hT : ti P t = some T) (hs : T.size = l.length) {xs : List Value} {off : Nat} (h : off + l.length ≤ xs.length) (w : World) :
    (part t xs.toArray off).run P w = .ok (mkV P t ((xs.drop off).take l.length)) w := by
  obtain ⟨i, d, z, h1, h2, h3, h4, h5, h6, h7, h8, h9⟩ := ti_info hT
  have hpos : 0 < l.length := by omega
  simp only [part, Sem.run_bind, run_isAgg' hT, Result.andThen_ok, h7, mkV, h2]
  have hsz := run_sizeOf' hT w
  have hlt : off < xs.length := by omega
  cases d with
  | struct fs =>
    simp only [isAggD, if_true, Sem.run_bind, hsz, Result.andThen_ok, Sem.run_pure, hs]
    congr 2
    apply Array.ext'
    simp
  | array n e =>
    simp only [isAggD, if_true, Sem.run_bind, hsz, Result.andThen_ok, Sem.run_pure, hs]
    congr 2
    apply Array.ext'
    simp
  | _ =>
    simp only [isAggD, Bool.false_eq_true, if_false]
    have e : (xs.drop off).take l.length = xs[off] :: ((xs.drop (off + 1)).take (l.length - 1)) := by
      rw [List.drop_eq_getElem_cons hlt]
      obtain ⟨m, hm⟩ : ∃ m, l.length = m + 1 := ⟨l.length - 1, by omega⟩
      rw [hm, List.take_succ_cons, Nat.add_sub_cancel]
    rw [e]
    simp [hlt]

def EqAtN (P : Program) (n : Nat) : Prop := ∀ (t : TypeId) (l : List Sc), plT P n t = some l → ∀ d, n ≤ d → ∀ (xs ys : List Value) (w : World), scL l xs = true → scL l ys = true →
  (Op.equalIn d t (mkV P t xs) (mkV P t ys)).run P w = .ok (eqL xs ys) w

theorem eqFields_pl {n : Nat} (ih : EqAtN P n) {d : Nat} (hd : n ≤ d) (xs ys : List Value) (w : World) : ∀ (fs : List Field) (o : Nat) (l : List Sc), plF P (plT P n) fs o = some l → scL l (xs.drop o) = true → scL l (ys.drop o) = true → o ≤ xs.length → o ≤ ys.length →
    (Op.eqFields d xs.toArray ys.toArray fs).run P w = .ok (eqL (xs.drop o) (ys.drop o)) w := by
  intro fs
  induction fs with
  | nil =>
    intro o l h h1 h2 _ _
    cases h
    have e1 := scL_len h1
    have e2 := scL_len h2
    rw [List.length_nil, List.length_eq_zero_iff] at e1 e2
    rw [e1, e2]
    simp [Op.eqFields, eqL]
  | cons f fs ihf =>
    intro o l h h1 h2 b1 b2
    simp only [plF] at h
    split at h
    · rename_i hf
      simp only [Option.bind_eq_some_iff] at h
      obtain ⟨lf, e1, h⟩ := h
      split at h
      · rename_i hsz
        simp only [Option.map_eq_some_iff] at h hsz
        obtain ⟨T, hT, hT2⟩ := hsz
        obtain ⟨l2, e2, rfl⟩ := h
        obtain ⟨q1, q2⟩ := scL_app h1
        obtain ⟨q3, q4⟩ := scL_app h2
        rw [List.drop_drop] at q2 q4
        have n1 := scL_len h1
        have n2 := scL_len h2
        simp only [List.length_drop, List.length_append] at n1 n2
        simp only [Op.eqFields]
        rw [if_pos hf.1]
        rw [hf.2]
        simp only [Sem.run_bind, part_mk hT hT2 (xs := xs) (off := o) (by omega) w, part_mk hT hT2 (xs := ys) (off := o) (by omega) w, Result.andThen_ok, ih f.type lf e1 d hd _ _ w q1 q3]
        have hrec := ihf (o + lf.length) l2 e2 q2 q4 (by omega) (by omega)
        rw [eqL_app lf.length (xs.drop o) (ys.drop o) (by simp; omega), List.drop_drop, List.drop_drop]
        cases hb : eqL ((xs.drop o).take lf.length) ((ys.drop o).take lf.length)
        · simp
        · simp [hrec]
      · cases h
    · cases h

theorem eqItems_pl {n : Nat} (ih : EqAtN P n) {d : Nat} (hd : n ≤ d) {e : TypeId} {le : List Sc} {T : TI} (hT : ti P e = some T) (hs : T.size = le.length) (hc : P.cellsOf e = le.length) (he : plT P n e = some le) (xs ys : List Value) (w : World) :
    ∀ (k o : Nat), scL (List.replicate k le).flatten (xs.drop (o * le.length)) = true → scL (List.replicate k le).flatten (ys.drop (o * le.length)) = true → o * le.length ≤ xs.length → o * le.length ≤ ys.length →
    (Op.eqItems d e (P.cellsOf e) xs.toArray ys.toArray (List.range' o k)).run P w = .ok (eqL (xs.drop (o * le.length)) (ys.drop (o * le.length))) w := by
  intro k
  induction k with
  | zero =>
    intro o h1 h2 _ _
    have e1 := scL_len h1
    have e2 := scL_len h2
    simp only [List.replicate_zero, List.flatten_nil, List.length_nil, List.length_eq_zero_iff] at e1 e2
    rw [e1, e2]
    simp [Op.eqItems, eqL]
  | succ k ihk =>
    intro o h1 h2 b1 b2
    rw [List.replicate_succ, List.flatten_cons] at h1 h2
    obtain ⟨q1, q2⟩ := scL_app h1
    obtain ⟨q3, q4⟩ := scL_app h2
    have n1 := scL_len h1
    have n2 := scL_len h2
    simp only [List.length_drop, List.length_append] at n1 n2
    have eo : (o + 1) * le.length = o * le.length + le.length := by rw [Nat.add_mul, Nat.one_mul]
    rw [List.drop_drop, ← eo] at q2 q4
    rw [List.range'_succ]
    simp only [Op.eqItems, hc, Sem.run_bind, part_mk hT hs (xs := xs) (off := o * le.length) (by omega) w, part_mk hT hs (xs := ys) (off := o * le.length) (by omega) w, Result.andThen_ok, ih e le he d hd _ _ w q1 q3]
    have hrec := ihk (o + 1) q2 q4 (by omega) (by omega)
    rw [hc] at hrec
    rw [eqL_app le.length (xs.drop (o * le.length)) (ys.drop (o * le.length)) (by simp; omega), List.drop_drop, List.drop_drop, ← eo]
    cases hb : eqL ((xs.drop (o * le.length)).take le.length) ((ys.drop (o * le.length)).take le.length)
    · simp
    · simp [hrec]

theorem eqAtN (n : Nat) : EqAtN P n := by
  induction n with
  | zero => intro t l h; cases h
  | succ n ih =>
    intro t l h d hd xs ys w h1 h2
    obtain ⟨d, rfl⟩ : ∃ d', d = d' + 1 := ⟨d - 1, by omega⟩
    have one : ∀ {s : Sc} {zs : List Value}, scL [s] zs = true → ∃ z, zs = [z] ∧ scB s z = true := by
      intro s zs hz
      cases zs with
      | nil => simp [scL] at hz
      | cons z zs =>
        cases zs with
        | nil => simp [scL] at hz; exact ⟨z, rfl, hz⟩
        | cons _ _ => simp [scL] at hz
    unfold plT at h
    split at h
    · rename_i k hu
      cases h
      obtain ⟨x, rfl, hx⟩ := one h1
      obtain ⟨y, rfl, hy⟩ := one h2
      cases x <;> simp only [scB, Bool.false_eq_true, decide_eq_true_eq] at hx
      cases y <;> simp only [scB, Bool.false_eq_true, decide_eq_true_eq] at hy
      subst hx; subst hy
      simp only [mkV, hu, List.headD_cons]
      rw [run_equalIn_int w d t _ _ _ _ hu]
      simp only [eqL, eqV, Bool.and_true]
      rfl
    · rename_i hu
      cases h
      obtain ⟨x, rfl, hx⟩ := one h1
      obtain ⟨y, rfl, hy⟩ := one h2
      cases x <;> simp only [scB, Bool.false_eq_true] at hx
      cases y <;> simp only [scB, Bool.false_eq_true] at hy
      simp only [mkV, hu, List.headD_cons]
      rw [run_equalIn_bool w d t _ _ hu]
      simp only [eqL, eqV, Bool.and_true]
      rename_i a b
      cases a <;> cases b <;> rfl
    · rename_i hu
      cases h
      obtain ⟨x, rfl, hx⟩ := one h1
      obtain ⟨y, rfl, hy⟩ := one h2
      cases x <;> simp only [scB, Bool.false_eq_true] at hx
      cases y <;> simp only [scB, Bool.false_eq_true] at hy
      simp only [mkV, hu, List.headD_cons]
      rw [run_equalIn_string w d t _ _ hu]
      simp only [eqL, eqV, Bool.and_true, toList_eq]
    · rename_i fs hu
      split at h
      · cases h
      · rename_i hst
        have hst : P.stoodInHeld t = false := by simpa using hst
        have hfs : P.fieldsOf t = fs := by simp [Program.fieldsOf, hu]
        simp only [mkV, hu]
        rw [run_equalIn_struct w d t _ _ (by rw [hfs]; exact hu) hst, hfs]
        have := eqFields_pl ih (by omega : n ≤ d) xs ys w fs.toList 0 l h (by simpa using h1) (by simpa using h2) (by simp) (by simp)
        simpa using this
    · rename_i len e hu
      simp only [Option.bind_eq_some_iff] at h
      obtain ⟨le, he, h⟩ := h
      split at h
      · rename_i hsz
        cases h
        simp only [Option.map_eq_some_iff] at hsz
        obtain ⟨T, hT, hT2⟩ := hsz
        obtain ⟨i, dd, z, k1, k2, k3, k4, k5, k6, k7, k8, k9⟩ := ti_info hT
        have hc : P.cellsOf e = le.length := by
          have := run_sizeOf w k1
          rw [run_sizeOf' hT] at this
          simp only [Result.ok.injEq, and_true] at this
          rw [← this]; exact hT2
        simp only [mkV, hu]
        rw [run_equalIn_array w d _ _ hu k1]
        have := eqItems_pl ih (by omega : n ≤ d) hT hT2 hc he xs ys w len 0 (by simpa using h1) (by simpa using h2) (by simp) (by simp)
        rw [List.range_eq_range']
        simpa using this
      · cases h
    · cases h

/-- the cells as they are known -/
def eqAV : List AV → List AV → Option Bool
  | [], [] => some true
  | .v (.int _ a) :: xs, .v (.int _ b) :: ys => (eqAV xs ys).map (decide (a = b) && ·)
  | .v (.bool a) :: xs, .v (.bool b) :: ys => (eqAV xs ys).map (decide (a = b) && ·)
  | .v (.string a) :: xs, .v (.string b) :: ys => (eqAV xs ys).map (decide (a = b) && ·)
  | _, _ => none

def scAV : List Sc → List AV → Bool
  | [], [] => true
  | s :: l, .v x :: xs => scB s x && scAV l xs
  | _, _ => false

theorem scAV_ok : ∀ {l : List Sc} {xs : List AV}, scAV l xs = true → ∃ vs, xs = vs.map AV.v ∧ scL l vs = true := by
  intro l
  induction l with
  | nil => intro xs h; cases xs with
    | nil => exact ⟨[], rfl, rfl⟩
    | cons x xs => simp [scAV] at h
  | cons s l ih =>
    intro xs h
    cases xs with
    | nil => simp [scAV] at h
    | cons x xs =>
      cases x <;> simp only [scAV, Bool.false_eq_true, Bool.and_eq_true] at h
      obtain ⟨vs, rfl, h2⟩ := ih h.2
      exact ⟨_ :: vs, rfl, by simp only [scL, Bool.and_eq_true]; exact ⟨h.1, h2⟩⟩

theorem eqAV_ok : ∀ {xs ys : List Value} {b : Bool}, eqAV (xs.map AV.v) (ys.map AV.v) = some b → eqL xs ys = b := by
  intro xs
  induction xs with
  | nil => intro ys b h; cases ys with
    | nil => cases h; rfl
    | cons y ys => simp [eqAV] at h
  | cons x xs ih =>
    intro ys b h
    cases ys with
    | nil => simp [eqAV] at h
    | cons y ys =>
      cases x <;> cases y <;> simp only [List.map_cons, eqAV, Option.map_eq_some_iff, reduceCtorEq] at h
      all_goals
        obtain ⟨b', h1, rfl⟩ := h
        simp only [eqL, eqV, ih h1]

theorem eqC_sound {op : BinOp} {t : TypeId} {xo yo : Operand} {l : List Sc} {xs ys : List AV} {b : Bool} (hl : plC P t = some l) (hagg : ∃ D, td P t = some D ∧ (match D with | .struct _ | .array _ _ => True | _ => False)) (hx : scAV l xs = true) (hy : scAV l ys = true) (hb : eqAV xs ys = some b) (hop : op = .eql ∨ op = .neq) :
    ∃ vx vy, xs.mapM AV.scalar = some vx ∧ ys.mapM AV.scalar = some vy ∧ binR P op t xo yo (.agg vx.toArray) (.agg vy.toArray) (.bool (if op = .eql then b else !b)) := by
  obtain ⟨vx, rfl, h1⟩ := scAV_ok hx
  obtain ⟨vy, rfl, h2⟩ := scAV_ok hy
  have hsc : ∀ l : List Value, (l.map AV.v).mapM AV.scalar = some l := by
    intro l
    induction l with
    | nil => rfl
    | cons x l ih => simp [List.mapM_cons, ih, AV.scalar]
  refine ⟨vx, vy, hsc vx, hsc vy, fun w => ?_⟩
  unfold plC at hl
  split at hl
  · cases hl
  · rename_i hg
    have hg : P.eqGuardType P.depth t = false := by simpa using hg
    have hmk : ∀ vs, mkV P t vs = .agg vs.toArray := by
      intro vs
      obtain ⟨D, hD, hm⟩ := hagg
      unfold td at hD
      unfold mkV
      cases hu : P.underlying t with
      | none => rw [hu] at hD; cases hD
      | some d =>
        rw [hu] at hD
        cases d <;> simp only [Option.map_eq_some_iff, Option.some.injEq] at hD ⊢
        all_goals first
          | (subst hD; exact hm.elim)
          | (obtain ⟨_, _, rfl⟩ := hD; exact hm.elim)
    have key := eqAtN 20 t l hl 10000 (by omega) vx vy w h1 h2
    rw [hmk, hmk, eqAV_ok hb] at key
    simp only [Sem.run_bind, run_eqGuard_agg w op t xo yo _ _ hg, Result.andThen_ok]
    rcases hop with rfl | rfl
    · rw [run_eql_struct, key]; rfl
    · rw [run_neq_struct, key]; rfl

def eqOp : BinOp → Bool → Option Bool
  | .eql, b => some b
  | .neq, b => some (!b)
  | _, _ => none

def isBoolT (P : Program) (t : TypeId) : Bool :=
  match P.underlying t with
  | some .bool => true
  | _ => false

theorem eqB_sound {op : BinOp} {t : TypeId} {xo yo : Operand} {a b z : Bool} (hl : isBoolT P t = true) (h : eqOp op (decide (a = b)) = some z) : binR P op t xo yo (.bool a) (.bool b) (.bool z) := by
  intro w
  have hg : ∀ op, (eqGuard op t xo yo (.bool a) (.bool b)).run P w = .ok () w := by intro op; cases op <;> rfl
  have hu : P.underlying t = some .bool := by
    unfold isBoolT at hl
    split at hl <;> first | assumption | cases hl
  have key : (Op.equal t (.bool a) (.bool b)).run P w = .ok (decide (a = b)) w := by
    rw [run_equal_bool w t a b hu]
    cases a <;> cases b <;> rfl
  simp only [Sem.run_bind, hg, Result.andThen_ok]
  unfold eqOp at h
  split at h
  · cases h; simp only [binOp, Sem.run_bind, key, Result.andThen_ok, Sem.run_pure]
  · cases h; simp only [binOp, Sem.run_bind, key, Result.andThen_ok, Sem.run_pure]
  · cases h

theorem eqD_sound {op : BinOp} {t : TypeId} {xo yo : Operand} {l : List Sc} {xs ys : List AV} {b z : Bool} (hl : plC P t = some l) (hagg : ∃ D, td P t = some D ∧ (match D with | .struct _ | .array _ _ => True | _ => False)) (hx : scAV l xs = true) (hy : scAV l ys = true) (hb : eqAV xs ys = some b) (h : eqOp op b = some z) :
    ∃ vx vy, xs.mapM AV.scalar = some vx ∧ ys.mapM AV.scalar = some vy ∧ binR P op t xo yo (.agg vx.toArray) (.agg vy.toArray) (.bool z) := by
  unfold eqOp at h
  split at h
  · cases h
    obtain ⟨vx, vy, h1, h2, h3⟩ := eqC_sound (xo := xo) (yo := yo) (op := .eql) hl hagg hx hy hb (.inl rfl)
    exact ⟨vx, vy, h1, h2, h3⟩
  · cases h
    obtain ⟨vx, vy, h1, h2, h3⟩ := eqC_sound (xo := xo) (yo := yo) (op := .neq) hl hagg hx hy hb (.inr rfl)
    exact ⟨vx, vy, h1, h2, h3⟩
  · cases h
end
end Go.Ab
end
section
namespace Go.Ab
open Go.RowKit (Below)

def unV (op : UnOp) (x : Value) : Option Value :=
  match op, x with
  | .not, .bool b => some (.bool (!b))
  | .neg, .int k n => some (.int k (k.wrap (0 - n)))
  | .xor, .int k n => some (.int k (notK k n))
  | _, _ => none

def convV (P : Program) (dst : TypeId) (x : Value) : Option Value :=
  match x, td P dst with
  | .int _ n, some (.int k) => some (.int k (k.wrap n))
  | .string s, some .str => some (.string s)
  | _, _ => none

def idxV (x i : Value) : Option (Prop × Value) :=
  match x, i with
  | .string s, .int _ i => some (0 ≤ i ∧ i < s.size, .int .u8 (s.data.getD i.toNat 0).toNat)
  | _, _ => none

def boundV (x : Option Value) (d : Int) : Option Int :=
  match x with
  | none => some d
  | some (.int _ i) => some i
  | _ => none

def sliV (x : Value) (lo hi : Option Value) : Option (Prop × Value) :=
  match x with
  | .string s => (boundV lo 0).bind fun l => (boundV hi s.size).map fun h => (0 ≤ l ∧ l ≤ h ∧ h ≤ s.size, .string (s.extract l.toNat h.toNat))
  | _ => none

def mmV (b : Builtin) (vs : List Value) : Option Value :=
  match b, vs with
  | .max, [.int k x, .int _ y] => some (.int k (if x < y then y else x))
  | .min, [.int k x, .int _ y] => some (.int k (if y < x then y else x))
  | .max, [.int k x, .int _ y, .int _ z] => some (.int k (if (if x < y then y else x) < z then z else (if x < y then y else x)))
  | .min, [.int k x, .int _ y, .int _ z] => some (.int k (if z < (if y < x then y else x) then z else (if y < x then y else x)))
  | _, _ => none

theorem unV_sound {P : Program} {op : UnOp} {x z : Value} (h : unV op x = some z) : unR P op x z := by
  intro w
  unfold unV at h
  split at h <;> first | (cases h; done) | (cases h; simp [Op.unary, Op.intArith, Op.intBits, notK])

theorem convV_sound {P : Program} {src dst : TypeId} {x z : Value} (h : convV P dst x = some z) (hs : ∃ d, P.underlying src = some d) : convR P src dst x z := by
  intro w
  obtain ⟨d, hs⟩ := hs
  unfold convV at h
  split at h
  · rename_i k n k' hd
    cases h
    have hu : P.underlying dst = some (.int k') := by
      unfold td at hd
      split at hd <;> first | (cases hd; assumption) | (simp at hd; done) | (cases hd; done)
    simp [convert, run_underlying hs, run_underlying hu, Conv.intToInt]
  · rename_i s hd
    cases h
    have hu : P.underlying dst = some .string := by
      unfold td at hd
      split at hd <;> first | assumption | (simp at hd; done) | (cases hd; done)
    simp [convert, run_underlying hs, run_underlying hu]
  · cases h

theorem idxV_sound {P : Program} {t : TypeId} {x i z : Value} {c : Prop} (h : idxV x i = some (c, z)) (hc : c) (hD : td P t = some .str) : idxR P t x i z := by
  intro w
  have hu : P.underlying t = some .string := by
    unfold td at hD
    split at hD <;> first | assumption | (simp at hD; done) | (cases hD; done)
  unfold idxV at h
  split at h
  · rename_i s k i
    simp only [Option.some.injEq, Prod.mk.injEq] at h
    obtain ⟨rfl, rfl⟩ := h
    have hlt : i.toNat < s.size := by omega
    have h1 : s[i.toNat]? = some (s.data.getD i.toNat 0) := by
      have e1 : s[i.toNat]? = some s[i.toNat] := by simp [hlt]
      rw [e1]
      have hl2 : i.toNat < s.data.size := hlt
      rw [Array.getD_eq_getD_getElem?, Array.getElem?_eq_getElem hl2]
      rfl
    simp only [Instr.index, Sem.run_bind, asIntOf, Sem.run_pure, Result.andThen_ok, run_underlying hu]
    rw [if_pos hc.1, h1]
    rfl
  · cases h

theorem sliV_sound {P : Program} {t : TypeId} {x z : Value} {lo hi : Option Value} {c : Prop} (h : sliV x lo hi = some (c, z)) (hc : c) (hD : td P t = some .str) : sliR P t x lo hi none z := by
  intro w
  have hu : P.underlying t = some .string := by
    unfold td at hD
    split at hD <;> first | assumption | (simp at hD; done) | (cases hD; done)
  unfold sliV at h
  split at h
  · rename_i s
    cases hl : boundV lo 0 with
    | none => rw [hl] at h; cases h
    | some l =>
      cases hh : boundV hi s.size with
      | none => rw [hl, hh] at h; cases h
      | some hv =>
        rw [hl, hh] at h
        simp only [Option.bind_some, Option.map_some, Option.some.injEq, Prod.mk.injEq] at h
        obtain ⟨rfl, rfl⟩ := h
        obtain ⟨q1, q2, q3⟩ := hc
        have hhi : (match hi with | some v => Instr.sliceBound v s.size .sliceAlen | none => (pure s.size : Sem Nat)).run P w = .ok hv.toNat w := by
          unfold boundV at hh
          split at hh
          · cases hh; simp
          · cases hh; exact run_sliceBound (by omega) q3
          · cases hh
        have hlo : (match lo with | some v => Instr.sliceBound v hv.toNat .sliceB | none => (pure 0 : Sem Nat)).run P w = .ok l.toNat w := by
          unfold boundV at hl
          split at hl
          · cases hl; rfl
          · cases hl; exact run_sliceBound q1 (by omega)
          · cases hl
        have hb : (Instr.sliceBounds false s.size s.size lo hi none).run P w = .ok (l.toNat, hv.toNat, s.size) w := by
          simp only [Instr.sliceBounds, Sem.run_bind, Sem.run_pure, Result.andThen_ok]
          cases hi with
          | none =>
            simp only [boundV, Option.some.injEq] at hh
            subst hh
            cases lo with
            | none => simp only [boundV, Option.some.injEq] at hl; subst hl; simp
            | some v => simp only at hlo; simp at hlo ⊢; simp [hlo]
          | some v =>
            simp only [Bool.false_eq_true, if_false] at hhi ⊢
            simp only [Sem.run_bind, hhi, Result.andThen_ok]
            cases lo with
            | none => simp only [boundV, Option.some.injEq] at hl; subst hl; simp
            | some v => simp only at hlo; simp [hlo]
        simp [Instr.sliceAt, run_underlying hu, Instr.slice, hb]
  · cases h

theorem mmV_sound {P : Program} {b : Builtin} {ts : Array TypeId} {t : TypeId} {cs : Array Bool} {vs : List Value} {z : Value} (h : mmV b vs = some z) : biR P b ts t cs vs.toArray z := by
  intro w
  unfold mmV at h
  split at h <;> first | (cases h; done) | (cases h; simp [builtin, Builtin.max_, Builtin.min_, Builtin.max2, Builtin.min2])
end Go.Ab
end
section
namespace Go.Ab
open Go.RowKit (Below)

def rdC (t : AV) (h : List (Nat × RS)) (n : Nat) : Option (Prop × List AV) :=
  match t with
  | .ptr id i k | .ptx id i k => match LS.hf h id with
    | .live r => (r.es[i]?).map fun e => (k + n ≤ r.sz, (e.drop k).take n)
    | _ => none
  | .iat es i k => (es[i]?).map fun e => (k + n ≤ e.length, (e.drop k).take n)
  | _ => none

def addrC : AV → Nat → Option (Prop × AV)
  | .ptr id i k, n => some (True, .ptr id i (k + n))
  | .ptx id i k, n => some (True, .ptx id i (k + n))
  | .iat es i k, n => (es[i]?).map fun e => (k + n < e.length, .iat es i (k + n))
  | _, _ => none

def partC (T : TI) (cs : List AV) (off : Nat) : Option (Prop × AV) := (packA T.agg ((cs.drop off).take T.size)).map fun v => (off + T.size ≤ cs.length, v)

def idxC (D : TD) (h : List (Nat × RS)) (x : AV) (i : Int) : Option (Prop × AV) :=
  match D, x with
  | .slice E, .imm _ es => some ((∀ e ∈ es, e.length = E.size) ∧ 0 ≤ i ∧ i < es.length, .iat es i.toNat 0)
  | .slice E, .own id off n => match LS.hf h id with
    | .live r => some (r.sz = E.size ∧ 0 ≤ i ∧ i < n ∧ off + n ≤ r.es.length, .ptx id (off + i.toNat) 0)
    | _ => none
  | .array n e, .ptr id j k => some (0 ≤ i ∧ i < n, .ptx id j (k + i.toNat * e.size))
  | .array n e, .ptx id j k => some (0 ≤ i ∧ i < n, .ptx id j (k + i.toNat * e.size))
  | _, _ => none

def intB (t : List AV) (x : Option Operand) : Option (Option Int) :=
  match x with
  | none => some none
  | some x => match LS.ev t x with
    | .v (.int _ i) => some (some i)
    | _ => none

def slcC (E : TI) (h : List (Nat × RS)) (x : AV) (l : Int) (hi mx : Option Int) : Option (Prop × AV) :=
  match x with
  | .imm c es => match mx with
    | none => some ((∀ e ∈ es, e.length = E.size) ∧ 0 ≤ l ∧ l ≤ hi.getD es.length ∧ hi.getD es.length ≤ es.length, .imm (c && decide (hi.getD es.length = es.length)) ((es.drop l.toNat).take (hi.getD es.length - l).toNat))
    | some m => match hi with
      | some hv => some ((∀ e ∈ es, e.length = E.size) ∧ 0 ≤ l ∧ l ≤ hv ∧ hv ≤ es.length ∧ hv ≤ m ∧ m ≤ es.length, .imm (decide (m = hv)) ((es.drop l.toNat).take (hv - l).toNat))
      | none => none
  | .own id off n => match LS.hf h id with
    | .live r => match mx with
      | none => some (r.sz = E.size ∧ 0 ≤ l ∧ l ≤ hi.getD n ∧ hi.getD n ≤ n ∧ (l < hi.getD n ∨ l = 0), .own id (off + l.toNat) (hi.getD n - l).toNat)
      | some _ => none
    | _ => none
  | _ => none

/-- the source of an append -/
def srcC (h : List (Nat × RS)) (E : TI) : AV → Option (Prop × List (List AV))
  | .imm _ es => some (∀ e ∈ es, e.length = E.size, es)
  | .own id off n => match LS.hf h id with
    | .live r => some (r.sz = E.size ∧ off + n ≤ r.es.length ∧ (∀ e ∈ (r.es.drop off).take n, e.length = E.size), (r.es.drop off).take n)
    | _ => none
  | _ => none

def appC (E : TI) (h : List (Nat × RS)) (nx : Nat) (x y : AV) : Option (Prop × Fx) :=
  (srcC h E y).bind fun ys => match x with
    | .imm cl es => match ys.2 with
      | [] => some (ys.1 ∧ (∀ e ∈ es, e.length = E.size), { val := .imm cl es, fp := readFp y })
      | _ => if cl then some (ys.1 ∧ ys.2 ≠ [] ∧ (∀ e ∈ es, e.length = E.size) ∧ es.length + ys.2.length ≤ 140737488355328 ∧ (es.length + ys.2.length) * E.bytes ≤ 140737488355328,
          { val := .own nx 0 (es.length + ys.2.length), fp := readFp y, new := [⟨E.size, es ++ ys.2, 0⟩] }) else none
    | .own id off n => match LS.hf h id with
      | .live r => some (ys.1 ∧ r.sz = E.size ∧ off + n ≤ r.es.length ∧ r.fro ≤ off + n ∧ (∀ e ∈ ys.2, ∀ x ∈ e, AV.one x = true) ∧ n + ys.2.length ≤ 140737488355328 ∧ (n + ys.2.length) * E.bytes ≤ 140737488355328,
          { val := .own nx 0 (n + ys.2.length), fp := (id, none, true) :: readFp y, kill := some id, new := [⟨E.size, (r.es.drop off).take n ++ ys.2, r.fro - off⟩] })
      | _ => none
    | _ => none

def lenV (x : AV) : Option Int :=
  match x with
  | .imm _ es => some es.length
  | .own _ _ n => some n
  | _ => none

/-- everything but a call of a function -/
def stepC (P : Program) (op : Op) (t : List AV) (h : List (Nat × RS)) (nx : Nat) : Option (Prop × Fx) :=
  match op with
  | .move x | .assign x => some (True, { val := LS.ev t x })
  | .nilCheck x => some (notNil (LS.ev t x) = true, { val := LS.ev t x })
  | .pick c a b => match LS.ev t c with
    | .v (.bool c) => some (True, { val := if c then LS.ev t a else LS.ev t b })
    | _ => none
  | .alloc e => (ti P e).map fun T => (True, { val := .ptr nx 0 0, new := [⟨T.size, [T.zero.map AV.ofC], 0⟩] })
  | .box _ x => (LS.ev t x).cellsA.map fun cs => (True, { val := .ptr nx 0 0, new := [⟨cs.length, [cs], 0⟩] })
  | .build ty ps => (td P ty).bind fun D => (ti P ty).bind fun T => (fillA (placeA D) (T.zero.map AV.ofC) (ps.toList.map fun p => (p.1, LS.ev t p.2))).map fun cs => (D.isRow = true, { val := .agg cs })
  | .buildSlice ty len ps => match td P ty with
    | some (.slice E) => (setA E.size (List.replicate len (E.zero.map AV.ofC)) (ps.toList.map fun p => (p.1, LS.ev t p.2))).map fun es => (len * E.size ≤ 16777216, { val := .own nx 0 len, new := [⟨E.size, es, 0⟩] })
    | _ => none
  | .load ty a => (ti P ty).bind fun T => (rdC (LS.ev t a) h T.size).bind fun cs => (packA T.agg cs.2).map fun val => (cs.1, { val := val, fp := footOf false (LS.ev t a) T.size })
  | .store ty a x => (ti P ty).bind fun T => (LS.ev t x).cellsA.bind fun cs => match LS.ev t a with
    | .ptr id i k | .ptx id i k => match LS.hf h id with
      | .live r => some (cs.length = T.size ∧ cs.all AV.one = true ∧ r.fro ≤ i ∧ i < r.es.length ∧ k + T.size ≤ r.sz, { val := .dead, fp := footOf true (LS.ev t a) T.size, wr := some (id, i, k, cs) })
      | _ => none
    | _ => none
  | .binOp op ty x y _ => match LS.ev t x, LS.ev t y with
    | .v (.bool a), .v (.bool b) => if isBoolT P ty then (eqOp op (decide (a = b))).map fun z => (True, { val := .v (.bool z) }) else none
    | .agg xs, .agg ys => match plC P ty, td P ty with
      | some l, some (.struct _) | some l, some (.array _ _) => (eqAV xs ys).bind fun b => (eqOp op b).map fun z => (scAV l xs = true ∧ scAV l ys = true, { val := .v (.bool z) })
      | _, _ => none
    | .v vx, .v vy => (binV op vx vy).map fun p => (p.1, { val := .v p.2 })
    | ax, _ => match y, td P ty with
      | .const (.slice none 0 0), some (.slice _) => (nilCmp op ax).map fun val => (True, { val := val })
      | _, _ => none
  | .unOp op _ x => match LS.ev t x with
    | .v vx => (unV op vx).map fun z => (True, { val := .v z })
    | _ => none
  | .convert src dst x => match LS.ev t x, td P src with
    | .v vx, some _ => (convV P dst vx).map fun z => (True, { val := .v z })
    | _, _ => none
  | .makeFunc fn first caps => match fn with
    | .func f => some (first = #[], { val := .fn f (caps.toList.map (LS.ev t)) })
    | _ => none
  | .makeSlice ty l c => match td P ty, LS.ev t l, LS.ev t c with
    | some (.slice E), .v (.int _ n), .v (.int _ m) => some (m = n ∧ 0 ≤ n ∧ E.bytes * n ≤ 140737488355328 ∧ n ≤ 140737488355328, { val := .own nx 0 n.toNat, new := [⟨E.size, List.replicate n.toNat (E.zero.map AV.ofC), 0⟩] })
    | _, _, _ => none
  | .slice ty x lo hi mx => match td P ty with
    | some (.slice E) => (intB t lo).bind fun l => (intB t hi).bind fun ho => (intB t mx).bind fun mo => (slcC E h (LS.ev t x) (l.getD 0) ho mo).map fun p => (p.1, { val := p.2, fp := metaFp (LS.ev t x) })
    | some .str => match LS.ev t x, mx with
      | .v vx, none => (intB t lo).bind fun l => (intB t hi).bind fun ho => (sliV vx (l.map (.int .i64)) (ho.map (.int .i64))).map fun p => (p.1, { val := .v p.2 })
      | _, _ => none
    | _ => none
  | .fieldAddr ty x f => match td P ty with
    | some (.struct fs) => (fs[f]?).bind fun p => (addrC (LS.ev t x) p.1).map fun q => (q.1, { val := q.2 })
    | _ => none
  | .field ty x f => match td P ty, LS.ev t x with
    | some (.struct fs), .agg cs => (fs[f]?).bind fun p => (partC p.2 cs p.1).map fun q => (q.1, { val := q.2 })
    | _, _ => none
  | .indexAddr ty x ix => match LS.ev t ix with
    | .v (.int _ i) => (td P ty).bind fun D => (idxC D h (LS.ev t x) i).map fun q => (q.1, { val := q.2, fp := metaFp (LS.ev t x) })
    | _ => none
  | .index ty x ix => match td P ty, LS.ev t x, LS.ev t ix with
    | some (.array n E), .agg cs, .v (.int _ i) => (partC E cs (i.toNat * E.size)).map fun q => ((0 ≤ i ∧ i < n) ∧ q.1, { val := q.2 })
    | some .str, .v vx, .v vi => (idxV vx vi).map fun q => (q.1, { val := .v q.2 })
    | _, _, _ => none
  | .extract x i => match LS.ev t x with
    | .tup cs => (cs[i]?).map fun val => (True, { val := val })
    | _ => none
  | .lookup ty m k c => match tm P ty, LS.ev t m, LS.ev t k with
    | some (kd, z), .v (.map (some b)), .v kv => (findM b h).map fun q => ((q.2.1 = kd ∧ LS.hf h q.1 = .mp b q.2.1 q.2.2) ∧ Go.MapKept.IsKey kd kv, { val := if c then .tup [.v ((q.2.2 kv).getD z), .v (.bool (q.2.2 kv).isSome)] else .v ((q.2.2 kv).getD z), fp := [(q.1, none, false)] })
    | _, _, _ => none
  | .call c => match c.callee, c.args.toList, c.argTypes.toList with
    | .builtin .len, [x], [ty] => match td P ty, LS.ev t x with
      | some (.slice _), ax => (lenV ax).map fun n => (True, { val := .v (.int .i64 n) })
      | some .str, .v (.string s) => some (True, { val := .v (.int .i64 s.size) })
      | _, _ => none
    | .builtin .append, [x, y], [ty, ty2] => match td P ty, td P ty2 with
      | some (.slice E), some (.slice _) => appC E h nx (LS.ev t x) (LS.ev t y)
      | _, _ => none
    | .builtin b, xs, _ => ((xs.mapM fun x => (LS.ev t x).toV).bind (mmV b)).map fun z => (True, { val := .v z })
    | _, _, _ => none
  | _ => none
end Go.Ab
end
section
namespace Go.Ab
open Go.RowKit (Below)

section
variable {P : Program} {s : LS} {nx : Nat}

theorem rdC_sound {x : AV} {n : Nat} {c : Prop} {cs : List AV} (h : rdC x s.h n = some (c, cs)) (hc : c) : rd s.toSt x n = some cs := by
  unfold rdC at h
  split at h
  · split at h
    · rename_i id i k r hr
      simp only [Option.map_eq_some_iff] at h
      obtain ⟨e, h1, h2⟩ := h
      cases h2
      simp only [rd, LS.toSt, hr, if_pos hc, h1, Option.map_some]
    · cases h
  · split at h
    · rename_i id i k r hr
      simp only [Option.map_eq_some_iff] at h
      obtain ⟨e, h1, h2⟩ := h
      cases h2
      simp only [rd, LS.toSt, hr, if_pos hc, h1, Option.map_some]
    · cases h
  · simp only [Option.map_eq_some_iff] at h
    obtain ⟨e, h1, h2⟩ := h
    cases h2
    simp only [rd, h1, Option.bind_some, if_pos hc]
  · cases h

theorem addrC_sound {x y : AV} {n : Nat} {c : Prop} (h : addrC x n = some (c, y)) (hc : c) : addrA x n = some y := by
  unfold addrC at h
  split at h
  · cases h; rfl
  · cases h; rfl
  · simp only [Option.map_eq_some_iff] at h
    obtain ⟨e, h1, h2⟩ := h
    cases h2
    simp only [addrA, h1, if_pos hc]
  · cases h

theorem partC_sound {T : TI} {cs : List AV} {off : Nat} {c : Prop} {v : AV} (h : partC T cs off = some (c, v)) (hc : c) : partA T cs off = some v := by
  unfold partC at h
  simp only [Option.map_eq_some_iff] at h
  obtain ⟨e, h1, h2⟩ := h
  cases h2
  unfold partA
  rw [if_pos hc]; exact h1

theorem idxC_sound {D : TD} {x y : AV} {i : Int} {c : Prop} (h : idxC D s.h x i = some (c, y)) (hc : c) : idxA D s.toSt x i = some y ∧ ∀ E, D = .slice E → szOK s.toSt E.size x := by
  unfold idxC at h
  split at h
  · simp only [Option.some.injEq, Prod.mk.injEq] at h
    obtain ⟨rfl, rfl⟩ := h
    refine ⟨by simp only [idxA]; rw [if_pos hc.2], ?_⟩
    intro E hE; cases hE; exact hc.1
  · split at h
    · rename_i E id off n r hr
      simp only [Option.some.injEq, Prod.mk.injEq] at h
      obtain ⟨rfl, rfl⟩ := h
      refine ⟨by simp only [idxA, LS.toSt, hr]; rw [if_pos ⟨hc.2.1, hc.2.2.1, hc.2.2.2⟩], ?_⟩
      intro E' hE; cases hE; exact ⟨r, hr, hc.1⟩
    · cases h
  · simp only [Option.some.injEq, Prod.mk.injEq] at h
    obtain ⟨rfl, rfl⟩ := h
    exact ⟨by simp only [idxA]; rw [if_pos hc], fun E hE => by cases hE⟩
  · simp only [Option.some.injEq, Prod.mk.injEq] at h
    obtain ⟨rfl, rfl⟩ := h
    exact ⟨by simp only [idxA]; rw [if_pos hc], fun E hE => by cases hE⟩
  · cases h

theorem intB_opt {x : Option Operand} {i : Option Int} (h : intB s.t x = some i) : optB s.toSt x i := by
  unfold intB at h
  split at h
  · cases h; trivial
  · split at h
    · rename_i x k j hx
      cases h
      exact ⟨k, by rw [LS.ev_eq]; exact hx⟩
    · cases h

theorem slcC_sound {E : TI} {x y : AV} {l : Int} {hi mx : Option Int} {c : Prop} (h : slcC E s.h x l hi mx = some (c, y)) (hc : c) : sliceA x l hi mx = some y ∧ szOK s.toSt E.size x := by
  unfold slcC at h
  split at h
  · split at h
    · simp only [Option.some.injEq, Prod.mk.injEq] at h
      obtain ⟨rfl, rfl⟩ := h
      exact ⟨by simp only [sliceA]; rw [if_pos hc.2], hc.1⟩
    · split at h
      · simp only [Option.some.injEq, Prod.mk.injEq] at h
        obtain ⟨rfl, rfl⟩ := h
        exact ⟨by simp only [sliceA, Option.getD_some, Option.isSome_some, true_and]; rw [if_pos ⟨hc.2.1, hc.2.2.1, hc.2.2.2.1⟩, if_pos hc.2.2.2.2], hc.1⟩
      · cases h
  · split at h
    · rename_i id off n r hr
      split at h
      · simp only [Option.some.injEq, Prod.mk.injEq] at h
        obtain ⟨rfl, rfl⟩ := h
        exact ⟨by simp only [sliceA]; rw [if_pos ⟨hc.2.1, hc.2.2.1, hc.2.2.2.1⟩, if_pos hc.2.2.2.2], ⟨r, hr, hc.1⟩⟩
      · cases h
    · cases h
  · cases h

theorem srcC_sound {E : TI} {y : AV} {c : Prop} {ys : List (List AV)} (h : srcC s.h E y = some (c, ys)) (hc : c) : srcA s.toSt y = some ys ∧ szOK s.toSt E.size y ∧ ∀ e ∈ ys, e.length = E.size := by
  unfold srcC at h
  split at h
  · simp only [Option.some.injEq, Prod.mk.injEq] at h
    obtain ⟨rfl, rfl⟩ := h
    exact ⟨rfl, hc, hc⟩
  · split at h
    · rename_i id off n r hr
      simp only [Option.some.injEq, Prod.mk.injEq] at h
      obtain ⟨rfl, rfl⟩ := h
      exact ⟨by simp only [srcA, LS.toSt, hr]; rw [if_pos hc.2.1], ⟨r, hr, hc.1⟩, hc.2.2⟩
    · cases h
  · cases h

theorem lenV_sound {x : AV} {n : Int} (h : lenV x = some n) : ∃ m : Nat, lenA x = some m ∧ n = m := by
  unfold lenV at h
  split at h <;> first | (cases h; exact ⟨_, rfl, rfl⟩) | cases h

theorem sliV_kinds {x : Value} {lo hi : Option Value} {l ho : Option Int} (hl : (lo = none ∧ l = none) ∨ ∃ k i, lo = some (.int k i) ∧ l = some i) (hh : (hi = none ∧ ho = none) ∨ ∃ k i, hi = some (.int k i) ∧ ho = some i) :
    sliV x lo hi = sliV x (l.map (.int .i64)) (ho.map (.int .i64)) := by
  have b : ∀ {v : Option Value} {i : Option Int} (d : Int), ((v = none ∧ i = none) ∨ ∃ k j, v = some (.int k j) ∧ i = some j) → boundV v d = boundV (i.map (.int .i64)) d := by
    intro v i d h
    rcases h with ⟨rfl, rfl⟩ | ⟨k, j, rfl, rfl⟩ <;> rfl
  unfold sliV
  cases x <;> simp only
  rw [b 0 hl, b _ hh]

theorem optV_of {x : Option Operand} {i : Option Int} (h : intB s.t x = some i) : ∃ v, optV s.toSt x = some v ∧ ((v = none ∧ i = none) ∨ ∃ k j, v = some (.int k j) ∧ i = some j) := by
  unfold intB at h
  split at h
  · cases h; exact ⟨none, rfl, .inl ⟨rfl, rfl⟩⟩
  · split at h
    · rename_i x k j hx
      cases h
      exact ⟨some (.int k j), by simp only [optV, LS.ev_eq, hx, AV.toV, Option.map_some], .inr ⟨k, j, rfl, rfl⟩⟩
    · cases h

theorem stepC_sound [Glob P] {o : Oper} {c : Prop} {fx : Fx} (h : stepC P o.op s.t s.h nx = some (c, fx)) (hc : c) : ex P o s.toSt nx fx := by
  unfold stepC at h
  unfold ex
  simp only [LS.ev_eq]
  split at h
  · rename_i ho; rw [ho]; cases h; rfl
  · rename_i ho; rw [ho]; cases h; rfl
  · rename_i ho; rw [ho]; cases h; exact ⟨hc, rfl⟩
  · rename_i c' a b ho
    rw [ho]
    split at h
    · rename_i b0 hb; cases h; exact ⟨b0, hb, rfl⟩
    · cases h
  · rename_i e ho
    rw [ho]
    simp only [Option.map_eq_some_iff, Prod.mk.injEq] at h
    obtain ⟨T, h1, _, rfl⟩ := h
    exact ⟨T, h1, rfl⟩
  · rename_i e x ho
    rw [ho]
    simp only [Option.map_eq_some_iff, Prod.mk.injEq] at h
    obtain ⟨T, h1, _, rfl⟩ := h
    exact ⟨T, h1, rfl⟩
  · rename_i ty ps ho
    rw [ho]
    simp only [Option.bind_eq_some_iff, Option.map_eq_some_iff, Prod.mk.injEq] at h
    obtain ⟨D, h1, T, h2, cs, h3, rfl, rfl⟩ := h
    exact ⟨D, h1, hc, T, h2, cs, h3, rfl⟩
  · rename_i ty len ps ho
    rw [ho]
    split at h
    · rename_i E hE
      simp only [Option.map_eq_some_iff, Prod.mk.injEq] at h
      obtain ⟨es, h1, rfl, rfl⟩ := h
      exact ⟨E, hE, hc, es, h1, rfl⟩
    · cases h
  · rename_i ty a ho
    rw [ho]
    simp only [Option.bind_eq_some_iff, Option.map_eq_some_iff, Prod.mk.injEq] at h
    obtain ⟨T, h1, ⟨c1, cs⟩, h2, val, h3, rfl, rfl⟩ := h
    exact ⟨T, h1, cs, rdC_sound h2 hc, val, h3, rfl⟩
  · rename_i ty a x ho
    rw [ho]
    simp only [Option.bind_eq_some_iff] at h
    obtain ⟨T, h1, cs, h2, h⟩ := h
    split at h <;> first | (cases h; done) | skip
    all_goals
      rename_i id i k ha
      split at h
      · rename_i r hr
        simp only [Option.some.injEq, Prod.mk.injEq] at h
        obtain ⟨rfl, rfl⟩ := h
        refine ⟨T, h1, cs, h2, hc.1, hc.2.1, id, i, k, ?_, r, hr, hc.2.2.1, hc.2.2.2.1, hc.2.2.2.2, rfl⟩
        simp only [isAddr, ha]
        simp
      · cases h
  · rename_i op ty x y yt ho
    rw [ho]
    split at h
    · rename_i a b hx hy
      split at h
      · rename_i hb
        simp only [Option.map_eq_some_iff, Prod.mk.injEq] at h
        obtain ⟨z, h1, _, rfl⟩ := h
        exact .inl ⟨_, by rw [hx]; rfl, _, by rw [hy]; rfl, _, eqB_sound hb h1, rfl⟩
      · cases h
    · rename_i xs ys hx hy
      split at h
      · rename_i l fs hl hD
        simp only [Option.bind_eq_some_iff, Option.map_eq_some_iff, Prod.mk.injEq] at h
        obtain ⟨b, h1, z, h2, rfl, rfl⟩ := h
        obtain ⟨vx, vy, e1, e2, e3⟩ := eqD_sound (xo := x) (yo := y) hl ⟨_, hD, trivial⟩ hc.1 hc.2 h1 h2
        exact .inl ⟨_, by rw [hx]; simp only [AV.toV, e1, Option.map_some], _, by rw [hy]; simp only [AV.toV, e2, Option.map_some], _, e3, rfl⟩
      · rename_i l n e hl hD
        simp only [Option.bind_eq_some_iff, Option.map_eq_some_iff, Prod.mk.injEq] at h
        obtain ⟨b, h1, z, h2, rfl, rfl⟩ := h
        obtain ⟨vx, vy, e1, e2, e3⟩ := eqD_sound (xo := x) (yo := y) hl ⟨_, hD, trivial⟩ hc.1 hc.2 h1 h2
        exact .inl ⟨_, by rw [hx]; simp only [AV.toV, e1, Option.map_some], _, by rw [hy]; simp only [AV.toV, e2, Option.map_some], _, e3, rfl⟩
      · cases h
    · rename_i vx vy _ hx hy
      simp only [Option.map_eq_some_iff, Prod.mk.injEq] at h
      obtain ⟨⟨c1, z⟩, h1, rfl, rfl⟩ := h
      exact .inl ⟨vx, by rw [hx]; rfl, vy, by rw [hy]; rfl, z, binV_sound h1 hc, rfl⟩
    · split at h
      · simp only [Option.map_eq_some_iff, Prod.mk.injEq] at h
        obtain ⟨val, h1, _, rfl⟩ := h
        exact .inr ⟨rfl, _, by assumption, val, h1, rfl⟩
      · cases h
  · rename_i op ty x ho
    rw [ho]
    split at h
    · rename_i vx hx
      simp only [Option.map_eq_some_iff, Prod.mk.injEq] at h
      obtain ⟨z, h1, _, rfl⟩ := h
      exact ⟨vx, by rw [hx]; rfl, z, unV_sound h1, rfl⟩
    · cases h
  · rename_i src dst x ho
    rw [ho]
    split at h
    · rename_i vx d hx hd
      simp only [Option.map_eq_some_iff, Prod.mk.injEq] at h
      obtain ⟨z, h1, _, rfl⟩ := h
      refine ⟨vx, by rw [hx]; rfl, z, convV_sound h1 ?_, rfl⟩
      unfold td at hd
      split at hd <;> first | (cases hd; done) | exact ⟨_, by assumption⟩
    · cases h
  · rename_i fn first caps ho
    rw [ho]
    split at h
    · rename_i f
      simp only [Option.some.injEq, Prod.mk.injEq] at h
      obtain ⟨rfl, rfl⟩ := h
      exact ⟨f, rfl, hc, rfl⟩
    · cases h
  · rename_i ty l c' ho
    rw [ho]
    split at h
    · rename_i E k n k' m hD hl hcc
      simp only [Option.some.injEq, Prod.mk.injEq] at h
      obtain ⟨rfl, rfl⟩ := h
      obtain ⟨rfl, h0, h1, h2⟩ := hc
      exact ⟨E, hD, k, m, hl, k', hcc, h0, h1, h2, rfl⟩
    · cases h
  · rename_i ty x lo hi mx ho
    rw [ho]
    split at h
    · rename_i E hD
      simp only [Option.bind_eq_some_iff, Option.map_eq_some_iff, Prod.mk.injEq] at h
      obtain ⟨l, h1, hv, h2, mo, h3, ⟨c1, y⟩, h4, rfl, rfl⟩ := h
      obtain ⟨g1, g2⟩ := slcC_sound h4 hc
      refine .inl ⟨E, hD, g2, l.getD 0, ?_, hv, intB_opt h2, mo, intB_opt h3, y, g1, rfl⟩
      unfold intB at h1
      split at h1
      · cases h1; exact .inl ⟨rfl, rfl⟩
      · split at h1
        · cases h1; exact .inr ⟨_, _, rfl, by assumption⟩
        · cases h1
    · rename_i hD
      split at h
      · rename_i vx hx
        simp only [Option.bind_eq_some_iff, Option.map_eq_some_iff, Prod.mk.injEq] at h
        obtain ⟨l, h1, hv, h2, ⟨c1, z⟩, h3, rfl, rfl⟩ := h
        obtain ⟨v1, e1, e2⟩ := optV_of h1
        obtain ⟨v2, e3, e4⟩ := optV_of h2
        exact .inr ⟨vx, by rw [hx]; rfl, v1, e1, v2, e3, none, rfl, z, sliV_sound (by rw [sliV_kinds e2 e4]; exact h3) hc hD, rfl⟩
      · cases h
    · cases h
  · rename_i ty x f ho
    rw [ho]
    split at h
    · rename_i fs hD
      simp only [Option.bind_eq_some_iff, Option.map_eq_some_iff, Prod.mk.injEq] at h
      obtain ⟨p, h1, ⟨c1, y⟩, h2, rfl, rfl⟩ := h
      exact ⟨fs, hD, p, h1, y, addrC_sound h2 hc, rfl⟩
    · cases h
  · rename_i ty x f ho
    rw [ho]
    split at h
    · rename_i fs cs hD hx
      simp only [Option.bind_eq_some_iff, Option.map_eq_some_iff, Prod.mk.injEq] at h
      obtain ⟨p, h1, ⟨c1, y⟩, h2, rfl, rfl⟩ := h
      exact ⟨fs, hD, p, h1, cs, hx, y, partC_sound h2 hc, rfl⟩
    · cases h
  · rename_i ty x ix ho
    rw [ho]
    split at h
    · rename_i k i hi
      simp only [Option.bind_eq_some_iff, Option.map_eq_some_iff, Prod.mk.injEq] at h
      obtain ⟨D, h1, ⟨c1, y⟩, h2, rfl, rfl⟩ := h
      obtain ⟨g1, g2⟩ := idxC_sound h2 hc
      exact ⟨D, h1, g2, k, i, hi, y, g1, rfl⟩
    · cases h
  · rename_i ty x ix ho
    rw [ho]
    split at h
    · rename_i n E cs k i hD hx hi
      simp only [Option.map_eq_some_iff, Prod.mk.injEq] at h
      obtain ⟨⟨c1, y⟩, h2, rfl, rfl⟩ := h
      exact .inl ⟨n, E, hD, cs, hx, k, i, hi, hc.1.1, hc.1.2, y, partC_sound h2 hc.2, rfl⟩
    · rename_i vx vi hD hx hi
      simp only [Option.map_eq_some_iff, Prod.mk.injEq] at h
      obtain ⟨⟨c1, y⟩, h2, rfl, rfl⟩ := h
      exact .inr ⟨vx, by rw [hx]; rfl, vi, by rw [hi]; rfl, y, idxV_sound h2 hc hD, rfl⟩
    · cases h
  · rename_i x i ho
    rw [ho]
    split at h
    · rename_i cs hx
      simp only [Option.map_eq_some_iff, Prod.mk.injEq] at h
      obtain ⟨val, h1, _, rfl⟩ := h
      exact ⟨cs, hx, val, h1, rfl⟩
    · cases h
  · rename_i ty m k c' ho
    rw [ho]
    split at h
    · rename_i kd z b kv ht hm hk
      simp only [Option.map_eq_some_iff, Prod.mk.injEq] at h
      obtain ⟨⟨id, d', f⟩, h1, rfl, rfl⟩ := h
      obtain ⟨⟨rfl, h2⟩, h3⟩ := hc
      exact ⟨_, z, ht, b, hm, kv, hk, h3, id, f, h2, rfl⟩
    · cases h
  · rename_i c' ho
    rw [ho]
    simp only
    split at h
    · rename_i x ty hcal hargs hts
      rw [hcal]
      simp only
      have ha : c'.args = #[x] := by apply Array.ext'; simpa using hargs
      have ht : c'.argTypes = #[ty] := by apply Array.ext'; simpa using hts
      split at h
      · rename_i E ax hD hx
        simp only [Option.map_eq_some_iff, Prod.mk.injEq] at h
        obtain ⟨n, h1, _, rfl⟩ := h
        obtain ⟨m, h2, rfl⟩ := lenV_sound h1
        exact .inl ⟨trivial, x, ha, ty, ht, _, by assumption, m, h2, rfl⟩
      · rename_i b hD hx
        simp only [Option.some.injEq, Prod.mk.injEq] at h
        obtain ⟨_, rfl⟩ := h
        refine .inr (.inr ⟨[.string b], ?_, .int .i64 b.size, ?_, rfl⟩)
        · rw [ha]
          simp [hx, AV.toV]
        · intro w
          have hu : P.underlying ty = some .string := by
            unfold td at hD
            split at hD <;> first | assumption | (simp at hD; done) | (cases hD; done)
          simp [builtin, Builtin.len_, goInt, ht, run_underlying hu]
      · cases h
    · rename_i x y ty ty2 hcal hargs hts
      rw [hcal]
      simp only
      have ha : c'.args = #[x, y] := by apply Array.ext'; simpa using hargs
      have ht : c'.argTypes = #[ty, ty2] := by apply Array.ext'; simpa using hts
      split at h
      · rename_i E E2 hD hD2
        unfold appC at h
        simp only [Option.bind_eq_some_iff] at h
        obtain ⟨⟨c1, ys⟩, h1, h⟩ := h
        refine .inr (.inl ⟨trivial, x, y, ha, ty, ty2, ht, E, hD, E2, hD2, ?_⟩)
        split at h
        · rename_i cl es hx
          split at h
          · rename_i hys
            simp only [Option.some.injEq, Prod.mk.injEq] at h
            obtain ⟨rfl, rfl⟩ := h
            obtain ⟨g1, g2, g3⟩ := srcC_sound h1 hc.1
            simp only at hys
            exact ⟨by rw [hx]; exact hc.2, g2, ys, g1, g3, .inl ⟨cl, es, hx, hys, rfl⟩⟩
          · split at h
            · rename_i hcl
              simp only [Option.some.injEq, Prod.mk.injEq] at h
              obtain ⟨rfl, rfl⟩ := h
              obtain ⟨g1, g2, g3⟩ := srcC_sound h1 hc.1
              subst hcl
              exact ⟨by rw [hx]; exact hc.2.2.1, g2, ys, g1, g3, .inr (.inl ⟨es, hx, hc.2.1, hc.2.2.2.1, hc.2.2.2.2, rfl⟩)⟩
            · cases h
        · rename_i id off n hx
          split at h
          · rename_i r hr
            simp only [Option.some.injEq, Prod.mk.injEq] at h
            obtain ⟨rfl, rfl⟩ := h
            obtain ⟨g1, g2, g3⟩ := srcC_sound h1 hc.1
            exact ⟨by rw [hx]; exact ⟨r, hr, hc.2.1⟩, g2, ys, g1, g3, .inr (.inr ⟨id, off, n, hx, r, hr, hc.2.2.1, hc.2.2.2.1, hc.2.2.2.2.1, hc.2.2.2.2.2.1, hc.2.2.2.2.2.2, rfl⟩)⟩
          · cases h
        · cases h
      · cases h
    · rename_i b hcal _ _
      rw [hcal]
      simp only [Option.map_eq_some_iff, Option.bind_eq_some_iff, Prod.mk.injEq] at h ⊢
      obtain ⟨z, ⟨vs, h1, h2⟩, _, rfl⟩ := h
      exact .inr (.inr ⟨vs, h1, z, mmV_sound h2, rfl⟩)
    · cases h
  · cases h
end
end Go.Ab
end
section
namespace Go.Ab
open Go.RowKit (Below)

def dstC (s : LS) : Option Tmp → Prop
  | some d => d < s.t.length
  | none => True

/-- a call of a function by contract -/
def callF (P : Program) [Glob P] (rest : LS → (LS → Prop) → Prop) (d : Option Tmp) (s : LS) (N : LS → Prop) (f : FuncId) (xs : List AV) : Prop :=
  (∃ n ys, xs.mapM (frz (LS.hf s.h) n) = some ys ∧ ∃ y rows, CallOK P f ys y rows ∧ (rows s.nx).length ≤ 8 ∧
    ∃ lend : Bool, (lend = true → rows s.nx = [] ∧ (y s.nx).flat = true) ∧
    rest (s.app d { val := y s.nx, fp := (xs.flatMap (frzIds (LS.hf s.h) n)).map (fun p => (p.1, none, !lend)), fro := if lend then [] else xs.flatMap (frzIds (LS.hf s.h) n), new := rows s.nx }) N) ∨
  ∃ fn body k keep, P.funcs[f]? = some fn ∧ fn.body = some body ∧ (fn.name == "runtime.NumGoroutine") = false ∧ freshG k s.h ∧ AWP P body (inlS fn xs k keep s) (inlK P fn k keep s.t d (fun s' => rest s' N))

def callC (P : Program) [Glob P] (rest : LS → (LS → Prop) → Prop) (d : Option Tmp) (s : LS) (N : LS → Prop) (fv : AV) (xs : List AV) : Prop :=
  match fv with
  | .fn f caps => callF P rest d s N f (xs ++ caps)
  | _ => False

def endC (rest : LS → (LS → Prop) → Prop) (d : Option Tmp) (s : LS) (N : LS → Prop) : Option (Prop × Fx) → Prop
  | some (c, fx) => c ∧ rest (s.app d fx) N
  | none => False

def knownM (h : List (Nat × RS)) (b : Nat) (d : TypeDesc) (K : (Value → Option Value) → Prop) : Prop :=
  match findM b h with
  | some (id, d', f) => d' = d ∧ LS.hf h id = .mp b d' f ∧ K f
  | none => False
def makeC (P : Program) (rest : LS → (LS → Prop) → Prop) (d : Option Tmp) (s : LS) (N : LS → Prop) (t : TypeId) : Prop :=
  match tm P t with
  | some (kd, _) => ∀ b, rest ⟨(s.put d (.v (.map (some b)))).t, s.h ++ [(s.nx, .mp b kd fun _ => none)], s.nx + 8⟩ N
  | none => False
def lookC (P : Program) (rest : LS → (LS → Prop) → Prop) (d : Option Tmp) (s : LS) (N : LS → Prop) (t : TypeId) (m k : AV) (c : Bool) : Prop :=
  match tm P t, m, k with
  | some (kd, z), .v (.map (some b)), .v kv => Go.MapKept.IsKey kd kv ∧ knownM s.h b kd fun f => rest (s.put d (if c then .tup [.v ((f kv).getD z), .v (.bool (f kv).isSome)] else .v ((f kv).getD z))) N
  | _, _, _ => False
def updC (P : Program) (rest : LS → (LS → Prop) → Prop) (d : Option Tmp) (s : LS) (N : LS → Prop) (t : TypeId) (m k v : AV) : Prop :=
  match tm P t, m, k, v with
  | some (kd, _), .v (.map (some b)), .v kv, .v xv => Go.MapKept.IsKey kd kv ∧ knownM s.h b kd fun f => rest { s.put d .dead with h := updL b kd (updF f kv xv) s.h } N
  | _, _, _, _ => False

/-- clear of memory of the call's own -/
def clearC (P : Program) (rest : LS → (LS → Prop) → Prop) (d : Option Tmp) (s : LS) (N : LS → Prop) (ts : List TypeId) (xs : List AV) : Prop :=
  match ts, xs with
  | [t], [.own id off n] => match td P t, LS.hf s.h id with
    | some (.slice E), .live r => E.zero.all Value.oneCell' = true ∧ r.sz = E.size ∧ off + n ≤ r.es.length ∧ r.fro ≤ off ∧ rest { s.put d (.tup []) with h := setL id (.live { r with es := deadAt r.es off n r.sz }) s.h } N
    | _, _ => False
  | _, _ => False

def goC (P : Program) [Glob P] (rest : LS → (LS → Prop) → Prop) (d : Option Tmp) (op : Op) (s : LS) (N : LS → Prop) : Prop :=
  match op with
  | .call c => match c.callee with
    | .value fv => callC P rest d s N (LS.ev s.t fv) (c.args.toList.map (LS.ev s.t))
    | .builtin .clear => clearC P rest d s N c.argTypes.toList (c.args.toList.map (LS.ev s.t))
    | _ => endC rest d s N (stepC P op s.t s.h s.nx)
  | .makeMap t none => makeC P rest d s N t
  | .lookup t m k c => lookC P rest d s N t (LS.ev s.t m) (LS.ev s.t k) c
  | .mapUpdate t m k v => updC P rest d s N t (LS.ev s.t m) (LS.ev s.t k) (LS.ev s.t v)
  | op => endC rest d s N (stepC P op s.t s.h s.nx)

/-- an operation under a guard whose value is b -/
def gdS (P : Program) [Glob P] (rest : LS → (LS → Prop) → Prop) (d : Option Tmp) (op : Op) (s : LS) (N : LS → Prop) (want : Bool) (g : Tmp) (b : Bool) : Prop :=
  (b = want → dstC s d ∧ goC P rest d op (s.put (some g) (.v (.bool want))) N) ∧ (b = (!want) → dstC s d ∧ rest ((s.put (some g) (.v (.bool (!want)))).put d AV.und) N)

def gdC (P : Program) [Glob P] (rest : LS → (LS → Prop) → Prop) (d : Option Tmp) (op : Op) (s : LS) (N : LS → Prop) (want : Bool) (g : Tmp) : AV → Prop
  | .v (.bool b) => gdS P rest d op s N want g b
  | .v (.tuple cs) => cs.isEmpty = true ∧ dstC s d ∧ rest (s.put d AV.und) N
  | _ => False

section
variable {P : Program} {rest : LS → (LS → Prop) → Prop} {d : Option Tmp} {op : Op} {s : LS} {N : LS → Prop} {g : Tmp}
theorem gdC_b [Glob P] {want : Bool} {b : Bool} : gdC P rest d op s N want g (.v (.bool b)) = gdS P rest d op s N want g b := rfl
theorem gdC_und [Glob P] {want : Bool} : gdC P rest d op s N want g AV.und = (dstC s d ∧ rest (s.put d AV.und) N) := by simp [gdC, AV.und, undef]
theorem gdS_tt [Glob P] : gdS P rest d op s N true g true = (dstC s d ∧ goC P rest d op (s.put (some g) (.v (.bool true))) N) := by simp [gdS]
theorem gdS_ff [Glob P] : gdS P rest d op s N false g false = (dstC s d ∧ goC P rest d op (s.put (some g) (.v (.bool false))) N) := by simp [gdS]
theorem gdS_tf [Glob P] : gdS P rest d op s N true g false = (dstC s d ∧ rest ((s.put (some g) (.v (.bool false))).put d AV.und) N) := by simp [gdS]
theorem gdS_ft [Glob P] : gdS P rest d op s N false g true = (dstC s d ∧ rest ((s.put (some g) (.v (.bool true))).put d AV.und) N) := by simp [gdS]
theorem gdS_t [Glob P] {p : Prop} [Decidable p] : gdS P rest d op s N true g (decide p) = ((p → dstC s d ∧ goC P rest d op (s.put (some g) (.v (.bool true))) N) ∧ (¬ p → dstC s d ∧ rest ((s.put (some g) (.v (.bool false))).put d AV.und) N)) := by simp [gdS]
theorem gdS_f [Glob P] {p : Prop} [Decidable p] : gdS P rest d op s N false g (decide p) = ((p → dstC s d ∧ rest ((s.put (some g) (.v (.bool true))).put d AV.und) N) ∧ (¬ p → dstC s d ∧ goC P rest d op (s.put (some g) (.v (.bool false))) N)) := by
  simp only [gdS, decide_eq_false_iff_not, Bool.not_false, decide_eq_true_eq]
  exact propext And.comm
theorem gdS_tb [Glob P] {b : Bool} (h1 : b = true → dstC s d ∧ goC P rest d op (s.put (some g) (.v (.bool true))) N) (h2 : b = false → dstC s d ∧ rest ((s.put (some g) (.v (.bool false))).put d AV.und) N) : gdS P rest d op s N true g b := ⟨h1, h2⟩
theorem gdS_fb [Glob P] {b : Bool} (h1 : b = false → dstC s d ∧ goC P rest d op (s.put (some g) (.v (.bool false))) N) (h2 : b = true → dstC s d ∧ rest ((s.put (some g) (.v (.bool true))).put d AV.und) N) : gdS P rest d op s N false g b := ⟨h1, h2⟩
end

def tabOf (ops : List Oper) : List (Option Tmp) := ops.map (·.dst)
theorem tabOf_get (ops : List Oper) (j : Nat) : (tabOf ops).getD j none = (ops[j]?).bind (·.dst) := by
  simp only [tabOf, List.getD_eq_getElem?_getD, List.getElem?_map]
  cases ops[j]? <;> rfl

def runC (P : Program) [Glob P] (ops : List (Option Tmp)) : List Oper → LS → (LS → Prop) → Prop
  | [], s, N => N s
  | o :: rest, s, N => match o.guard with
    | none => dstC s o.dst ∧ goC P (runC P ops rest) o.dst o.op s N
    | some (j, want) => match ops.getD j none with
      | some g => gdC P (runC P ops rest) o.dst o.op s N want g (LS.tf s.t g)
      | none => False

section
variable {P : Program}

theorem dstC_ok {s : LS} {d : Option Tmp} (h : dstC s d) : dstOK s.toSt d := by cases d <;> exact h

theorem inlK_mono {fn : Func} {k : Nat} {keep : List Nat} {t : List AV} {d : Option Tmp} {K K' : LS → Prop} (hK : ∀ s, K s → K' s) {e : Exit} {s : LS} (h : inlK P fn k keep t d K e s) : inlK P fn k keep t d K' e s := by
  obtain ⟨h1, x, h2, h3⟩ := h
  refine ⟨h1, x, h2, ?_⟩
  split at h3
  · rename_i id cs hf
    exact ⟨h3.1, h3.2.1, hK _ h3.2.2⟩
  · exact h3.elim

theorem goC_sound [Glob P] {ops : List Oper} {rest : List Oper} {o : Oper} {s : LS} {N : LS → Prop} (ih : ∀ s N, runC P (tabOf ops) rest s N → runOps P ops rest s N) (h : goC P (runC P (tabOf ops) rest) o.dst o.op s N) :
    (∃ fx, ex P o s.toSt s.nx fx ∧ runOps P ops rest (s.app o.dst fx) N) ∨ inl P o s (fun s' => runOps P ops rest s' N) := by
  have fin : endC (runC P (tabOf ops) rest) o.dst s N (stepC P o.op s.t s.h s.nx) → ∃ fx, ex P o s.toSt s.nx fx ∧ runOps P ops rest (s.app o.dst fx) N := by
    intro h
    cases hst : stepC P o.op s.t s.h s.nx with
    | none => rw [hst] at h; exact h.elim
    | some p =>
      obtain ⟨c, fx⟩ := p
      rw [hst] at h
      exact ⟨fx, stepC_sound hst h.1, ih _ _ h.2⟩
  unfold goC at h
  split at h
  · rename_i c ho
    split at h
    · rename_i fv hfv
      unfold callC at h
      split at h
      · rename_i f caps hf
        have e : s.toSt.ev = LS.ev s.t := funext fun x => LS.ev_eq s x
        rcases h with ⟨n, ys, h1, y, rows, h2, h3, lend, hlend, h4⟩ | ⟨fn, body, k, keep, h1, h2, h3, h4, h5⟩
        · refine .inl ⟨_, ?_, ih _ _ h4⟩
          unfold ex
          rw [ho]
          simp only [hfv]
          rw [e]
          exact ⟨f, caps, hf, n, ys, h1, y, rows, h2, h3, lend, hlend, rfl⟩
        · refine .inr ?_
          unfold inl
          rw [ho]
          simp only [hfv]
          rw [e]
          exact ⟨f, caps, fn, body, k, keep, hf, h1, h2, h3, h4, h5.mono fun _ _ hk => inlK_mono (fun s' hs => ih _ _ hs) hk⟩
      · exact h.elim
    · rename_i hcal
      have e : s.toSt.ev = LS.ev s.t := funext fun x => LS.ev_eq s x
      unfold clearC at h
      split at h
      · rename_i t id off n hts hxs
        split at h
        · rename_i E r hD hh
          obtain ⟨h1, h2, h3, h4, h5⟩ := h
          refine .inr ?_
          unfold inl
          rw [ho]
          simp only [hcal]
          obtain ⟨x, hx1, hx2⟩ : ∃ x, c.args.toList = [x] ∧ LS.ev s.t x = .own id off n := by
            cases hc : c.args.toList with
            | nil => rw [hc] at hxs; cases hxs
            | cons y ys =>
              rw [hc] at hxs
              cases ys with
              | nil => simp only [List.map_cons, List.map_nil, List.cons.injEq, and_true] at hxs; exact ⟨y, rfl, hxs⟩
              | cons z zs => simp at hxs
          refine ⟨x, t, E, id, off, n, r, Array.toList_inj.1 hx1, Array.toList_inj.1 hts, hD, h1, by rw [e]; exact hx2, hh, h2, h3, h4, ih _ _ h5⟩
        · exact h.elim
      · exact h.elim
    · exact .inl (fin h)
  · rename_i t ho
    unfold makeC at h
    split at h
    · rename_i kd z ht
      refine .inr ?_
      unfold inl
      rw [ho]
      exact ⟨kd, z, ht, fun b => ih _ _ (h b)⟩
    · exact h.elim
  · rename_i t m k c ho
    have e : s.toSt.ev = LS.ev s.t := funext fun x => LS.ev_eq s x
    unfold lookC at h
    split at h
    · rename_i kd z b kv ht hm hk
      obtain ⟨h1, h2⟩ := h
      unfold knownM at h2
      split at h2
      · rename_i id d' f hf
        obtain ⟨rfl, h3, h4⟩ := h2
        refine .inr ?_
        unfold inl
        rw [ho, e]
        exact ⟨_, z, b, kv, f, id, ht, hm, hk, h1, h3, ih _ _ h4⟩
      · exact h2.elim
    · exact h.elim
  · rename_i t m k v ho
    have e : s.toSt.ev = LS.ev s.t := funext fun x => LS.ev_eq s x
    unfold updC at h
    split at h
    · rename_i kd z b kv xv ht hm hk hv
      obtain ⟨h1, h2⟩ := h
      unfold knownM at h2
      split at h2
      · rename_i id d' f hf
        obtain ⟨rfl, h3, h4⟩ := h2
        refine .inr ?_
        unfold inl
        rw [ho, e]
        exact ⟨_, z, b, kv, xv, f, id, ht, hm, hk, hv, h1, h3, ih _ _ h4⟩
      · exact h2.elim
    · exact h.elim
  · exact .inl (fin h)

theorem runC_sound [Glob P] {ops : List Oper} : ∀ (l : List Oper) (s : LS) (N : LS → Prop), runC P (tabOf ops) l s N → runOps P ops l s N := by
  intro l
  induction l with
  | nil => intro s N h; exact h
  | cons o rest ih =>
    intro s N h
    simp only [runC, tabOf_get] at h
    simp only [runOps, guardA]
    split at h
    · rename_i hg
      rw [hg]
      exact ⟨dstC_ok h.1, goC_sound ih h.2⟩
    · rename_i j want hg
      rw [hg]
      simp only
      split at h
      · rename_i g hg2
        simp only [hg2]
        unfold gdC at h
        split at h
        · rename_i b hb
          unfold gdS at h
          refine .inl ⟨b, hb, fun hw => ?_, fun hw => ?_⟩
          · obtain ⟨h1, h2⟩ := h.1 hw
            refine ⟨?_, goC_sound ih h2⟩
            cases hd : o.dst with
            | none => trivial
            | some d => rw [hd] at h1; simp only [dstOK, LS.put, LS.toSt, List.length_set]; exact h1
          · obtain ⟨h1, h2⟩ := h.2 hw
            refine ⟨?_, ih _ _ h2⟩
            cases hd : o.dst with
            | none => trivial
            | some d => rw [hd] at h1; simp only [dstOK, LS.put, LS.toSt, List.length_set]; exact h1
        · rename_i cs hb
          obtain ⟨h0, h1, h2⟩ := h
          have e : cs = #[] := Array.isEmpty_iff.1 h0
          exact .inr ⟨by rw [hb, e]; rfl, dstC_ok h1, ih _ _ h2⟩
        · exact h.elim
      · exact h.elim

/-- a region whose order is the text's, what follows behind a variable -/
theorem awp_reg [Glob P] {id : Nat} {l : List Oper} {s : LS} {K : Exit → LS → Prop} (h : ∀ N : LS → Prop, (∀ s, K .normal s → N s) → runC P (tabOf l) l s N) : AWP P (.region id l.toArray false) s K :=
  awp_region (runC_sound l s _ (h _ fun _ k => k))
end

/-! the heap behind an effect -/
def wrL (id i k : Nat) (cs : List AV) : List (Nat × RS) → List (Nat × RS)
  | [] => []
  | (id', x) :: l => if id' = id then (id', match x with | .live r => .live { r with es := r.es.modify i (fun e => splice e k cs) } | x => x) :: wrL id i k cs l else (id', x) :: wrL id i k cs l

def killL (id : Nat) : List (Nat × RS) → List (Nat × RS)
  | [] => []
  | (id', x) :: l => if id' = id then (id', .gone) :: killL id l else (id', x) :: killL id l

def froL (ids : List (Nat × Nat)) : List (Nat × RS) → List (Nat × RS)
  | [] => []
  | (id', x) :: l => (id', match x with | .live r => .live ⟨r.sz, r.es, froTo ids id' r.fro⟩ | x => x) :: froL ids l

section
variable {P : Program} {ops : List (Option Tmp)} {s : LS} {N : LS → Prop}
theorem tabOf_nil : tabOf [] = [] := rfl
theorem tabOf_cons {o : Oper} {l : List Oper} : tabOf (o :: l) = o.dst :: tabOf l := rfl
theorem runC_nil [Glob P] : runC P ops [] s N = N s := rfl
theorem runC_cons [Glob P] {o : Oper} {rest : List Oper} : runC P ops (o :: rest) s N = (match o.guard with
    | none => dstC s o.dst ∧ goC P (runC P ops rest) o.dst o.op s N
    | some (j, want) => match ops.getD j none with
      | some g => gdC P (runC P ops rest) o.dst o.op s N want g (LS.tf s.t g)
      | none => False) := rfl

/-- a callee run in place -/
theorem callF_inl [Glob P] {rest : LS → (LS → Prop) → Prop} {d : Option Tmp} {s : LS} {N : LS → Prop} {f : FuncId} {xs : List AV} {fn : Func} {body : Code} (k : Nat) (keep : List Nat) (hf : P.funcs[f]? = some fn) (hb : fn.body = some body) (hn : (fn.name == "runtime.NumGoroutine") = false) (hfr : freshG k s.h)
    (h : AWP P body (inlS fn xs k keep s) (inlK P fn k keep s.t d (fun s' => rest s' N))) : callF P rest d s N f xs := .inr ⟨fn, body, k, keep, hf, hb, hn, hfr, h⟩

theorem callF_intro [Glob P] {rest : LS → (LS → Prop) → Prop} {d : Option Tmp} {f : FuncId} {xs ys : List AV} {y : AV} (C : CallOK P f ys (fun _ => y) (fun _ => []))
    (h1 : xs.mapM (frz (LS.hf s.h) 6) = some ys) (h2 : xs.flatMap (frzIds (LS.hf s.h) 6) = []) (h : rest (s.app d ⟨y, [], none, [], none, []⟩) N) : callF P rest d s N f xs :=
  .inl ⟨6, ys, h1, _, _, C, Nat.zero_le 8, false, (fun h => nomatch h), by rw [h2]; exact h⟩
/-- a call whose arguments stay frozen, and whose answer may own rows -/
theorem callF_gen [Glob P] {rest : LS → (LS → Prop) → Prop} {d : Option Tmp} {f : FuncId} {xs ys : List AV} {y : Nat → AV} {rows : Nat → List Row} (C : CallOK P f ys y rows) {ids : List (Nat × Nat)}
    (h1 : xs.mapM (frz (LS.hf s.h) 6) = some ys) (h2 : xs.flatMap (frzIds (LS.hf s.h) 6) = ids) (hr : (rows s.nx).length ≤ 8) (h : rest (s.app d ⟨y s.nx, ids.map (fun p => (p.1, none, true)), none, ids, none, rows s.nx⟩) N) : callF P rest d s N f xs :=
  .inl ⟨6, ys, h1, _, _, C, hr, false, (fun h => nomatch h), by rw [h2]; exact h⟩
/-- a call that borrows its arguments -/
theorem callF_lend [Glob P] {rest : LS → (LS → Prop) → Prop} {d : Option Tmp} {f : FuncId} {xs ys : List AV} {y : AV} (C : CallOK P f ys (fun _ => y) (fun _ => [])) (hy : y.flat = true) {ids : List (Nat × Nat)}
    (h1 : xs.mapM (frz (LS.hf s.h) 6) = some ys) (h2 : xs.flatMap (frzIds (LS.hf s.h) 6) = ids) (h : rest (s.app d ⟨y, ids.map (fun p => (p.1, none, false)), none, [], none, []⟩) N) : callF P rest d s N f xs :=
  .inl ⟨6, ys, h1, _, _, C, Nat.zero_le 8, true, (fun _ => ⟨rfl, hy⟩), by rw [h2]; exact h⟩
end

def AV.fixed : Nat → AV → Bool
  | _, .dead => true
  | _, .iat _ _ _ => true
  | _, .v _ => true
  | _, .anyb => true
  | _, .imm c _ => !c
  | n + 1, .agg cs => cs.all (AV.fixed n)
  | n + 1, .tup cs => cs.all (AV.fixed n)
  | n + 1, .fn _ cs => cs.all (AV.fixed n)
  | _, _ => false

theorem mapM_fixed {h : Nat → RS} {n : Nat} {f : AV → Bool} (ih : ∀ x, f x = true → frz h n x = some x) : ∀ cs : List AV, cs.all f = true → cs.mapM (frz h n) = some cs := by
  intro cs
  induction cs with
  | nil => intro _; rfl
  | cons x cs ihc =>
    intro hh
    simp only [List.all_cons, Bool.and_eq_true] at hh
    simp [List.mapM_cons, ih x hh.1, ihc hh.2]

theorem flatMap_fixed {h : Nat → RS} {n : Nat} {f : AV → Bool} (ih : ∀ x, f x = true → frzIds h n x = []) : ∀ cs : List AV, cs.all f = true → cs.flatMap (frzIds h n) = [] := by
  intro cs hh
  rw [List.flatMap_eq_nil_iff]
  exact fun x hx => ih x (List.all_eq_true.1 hh x hx)

theorem frz_fixed (h : Nat → RS) : ∀ (n : Nat) (x : AV), x.fixed n = true → frz h n x = some x ∧ frzIds h n x = [] := by
  intro n
  induction n with
  | zero => intro x hx; cases x <;> simp_all [AV.fixed, frz, frzIds]
  | succ n ih =>
    intro x hx
    cases x with
    | dead => exact ⟨rfl, rfl⟩
    | anyb => exact ⟨rfl, rfl⟩
    | v x => exact ⟨rfl, rfl⟩
    | iat es i k => exact ⟨rfl, rfl⟩
    | imm c es =>
      have hc : c = false := by cases c <;> simp_all [AV.fixed]
      subst hc; exact ⟨rfl, rfl⟩
    | agg cs =>
      have hx : cs.all (AV.fixed n) = true := by simpa [AV.fixed] using hx
      simp only [frz, frzIds]
      rw [mapM_fixed (fun x hx => (ih x hx).1) _ hx, flatMap_fixed (fun x hx => (ih x hx).2) _ hx]; exact ⟨rfl, rfl⟩
    | tup cs =>
      have hx : cs.all (AV.fixed n) = true := by simpa [AV.fixed] using hx
      simp only [frz, frzIds]
      rw [mapM_fixed (fun x hx => (ih x hx).1) _ hx, flatMap_fixed (fun x hx => (ih x hx).2) _ hx]; exact ⟨rfl, rfl⟩
    | fn f cs =>
      have hx : cs.all (AV.fixed n) = true := by simpa [AV.fixed] using hx
      simp only [frz, frzIds]
      rw [mapM_fixed (fun x hx => (ih x hx).1) _ hx, flatMap_fixed (fun x hx => (ih x hx).2) _ hx]; exact ⟨rfl, rfl⟩
    | _ => simp [AV.fixed] at hx

theorem callF_fix {P : Program} [Glob P] {s : LS} {N : LS → Prop} {rest : LS → (LS → Prop) → Prop} {d : Option Tmp} {f : FuncId} {xs : List AV} {y : AV} (C : CallOK P f xs (fun _ => y) (fun _ => []))
    (hx : xs.all (AV.fixed 6) = true) (h : rest (s.app d ⟨y, [], none, [], none, []⟩) N) : callF P rest d s N f xs :=
  callF_intro C (mapM_fixed (fun x hx => (frz_fixed _ 6 x hx).1) _ hx) (flatMap_fixed (fun x hx => (frz_fixed _ 6 x hx).2) _ hx) h

theorem heapL_pure (v : AV) (fp) (nx : Nat) (h : List (Nat × RS)) : Fx.heapL ⟨v, fp, none, [], none, []⟩ nx h = h := by
  have : (h.map fun p => (p.1, updR ⟨v, fp, none, [], none, []⟩ p.1 p.2)) = h := by
    conv => rhs; rw [← List.map_id h]
    refine List.map_congr_left fun p _ => ?_
    obtain ⟨i, x⟩ := p
    cases x <;> simp [updR, Fx.row, wrTo, froTo]
  simp only [Fx.heapL, this, newL, List.append_nil]

theorem heapL_new (v : AV) (fp) (nx : Nat) (h : List (Nat × RS)) (r : Row) : Fx.heapL ⟨v, fp, none, [], none, [r]⟩ nx h = h ++ [(nx, .live r)] := by
  have : (h.map fun p => (p.1, updR ⟨v, fp, none, [], none, [r]⟩ p.1 p.2)) = h := by
    conv => rhs; rw [← List.map_id h]
    refine List.map_congr_left fun p _ => ?_
    obtain ⟨i, x⟩ := p
    cases x <;> simp [updR, Fx.row, wrTo, froTo]
  simp only [Fx.heapL, this, newL]

theorem heapL_wr (v : AV) (fp) (nx : Nat) (h : List (Nat × RS)) (id i k : Nat) (cs : List AV) : Fx.heapL ⟨v, fp, some (id, i, k, cs), [], none, []⟩ nx h = wrL id i k cs h := by
  simp only [Fx.heapL, newL, List.append_nil]
  induction h with
  | nil => rfl
  | cons p h ih =>
    obtain ⟨i', x⟩ := p
    simp only [List.map_cons, wrL, ih]
    by_cases he : i' = id
    · subst he
      cases x <;> simp [updR, Fx.row, wrTo, froTo]
    · rw [if_neg he]
      cases x <;> simp [updR, Fx.row, wrTo, froTo, Ne.symm he]

theorem heapL_kill (v : AV) (fp) (nx : Nat) (h : List (Nat × RS)) (id : Nat) (r : Row) : Fx.heapL ⟨v, fp, none, [], some id, [r]⟩ nx h = killL id h ++ [(nx, .live r)] := by
  simp only [Fx.heapL, newL]
  congr 1
  induction h with
  | nil => rfl
  | cons p h ih =>
    obtain ⟨i', x⟩ := p
    simp only [List.map_cons, killL, ih]
    by_cases he : i' = id
    · subst he
      simp [updR]
    · rw [if_neg he]
      cases x <;> simp [updR, Fx.row, wrTo, froTo, Ne.symm he]

theorem heapL_call (v : AV) (fp) (nx : Nat) (h : List (Nat × RS)) (ids : List (Nat × Nat)) (rs : List Row) : Fx.heapL ⟨v, fp, none, ids, none, rs⟩ nx h = froL ids h ++ newL nx rs := by
  simp only [Fx.heapL]
  congr 1
  induction h with
  | nil => rfl
  | cons p h ih =>
    obtain ⟨i', x⟩ := p
    simp only [List.map_cons, froL, ih]
    cases x <;> simp [updR, Fx.row, wrTo]

theorem froL_nil (h : List (Nat × RS)) : froL [] h = h := by
  induction h with
  | nil => rfl
  | cons p h ih => obtain ⟨i, x⟩ := p; cases x <;> simp [froL, ih, froTo]

theorem app_some (t : List AV) (h : List (Nat × RS)) (nx d : Nat) (fx : Fx) : LS.app ⟨t, h, nx⟩ (some d) fx = ⟨t.set d fx.val, fx.heapL nx h, nx + 8⟩ := rfl
theorem app_none (t : List AV) (h : List (Nat × RS)) (nx : Nat) (fx : Fx) : LS.app ⟨t, h, nx⟩ none fx = ⟨t, fx.heapL nx h, nx + 8⟩ := rfl
theorem put_some (t : List AV) (h : List (Nat × RS)) (nx d : Nat) (x : AV) : LS.put ⟨t, h, nx⟩ (some d) x = ⟨t.set d x, h, nx⟩ := rfl
theorem put_none (t : List AV) (h : List (Nat × RS)) (nx : Nat) (x : AV) : LS.put ⟨t, h, nx⟩ none x = ⟨t, h, nx⟩ := rfl
end Go.Ab
end
section
namespace Go.Ab
open Go.RowKit (Below)

inductive KF where
  | seq (c : Code)
  | block (id : Nat)

def kont (P : Program) [Glob P] (K : Exit → LS → Prop) : List KF → Exit → LS → Prop
  | [] => K
  | .seq z :: k => thenA (fun s => AWP P z s (kont P K k)) (kont P K k)
  | .block id :: k => blockA id (kont P K k)

/-- the code, what stands behind it, the state, the end -/
def AK (P : Program) [Glob P] (c : Code) (k : List KF) (s : LS) (K : Exit → LS → Prop) : Prop := AWP P c s (kont P K k)

section
variable {P : Program} {k : List KF} {s : LS} {K : Exit → LS → Prop}

theorem ak_start [Glob P] {c : Code} (h : AK P c [] s K) : AWP P c s K := h
theorem ak_seq [Glob P] {x y : Code} (h : AK P x (.seq y :: k) s K) : AK P (.seq x y) k s K := awp_seq h
theorem ak_skip [Glob P] (h : kont P K k .normal s) : AK P .skip k s K := awp_skip h
theorem ak_ret [Glob P] (h : kont P K k .ret s) : AK P .ret k s K := awp_ret h
theorem ak_exit [Glob P] {id : Nat} (h : kont P K k (.exit id) s) : AK P (.exit id) k s K := awp_exit h
theorem ak_block [Glob P] {id : Nat} {c : Code} (h : AK P c (.block id :: k) s K) : AK P (.block id c) k s K := awp_block h
theorem ak_cond [Glob P] {c : Operand} {x y : Code} {b : Bool} (hc : LS.ev s.t c = .v (.bool b)) (h1 : b = true → AK P x k s K) (h2 : b = false → AK P y k s K) : AK P (.cond c x y) k s K :=
  awp_cond (by rw [LS.ev_eq]; exact hc) h1 h2
theorem ak_cond_t [Glob P] {c : Operand} {x y : Code} (hc : LS.ev s.t c = .v (.bool true)) (h1 : AK P x k s K) : AK P (.cond c x y) k s K :=
  ak_cond hc (fun _ => h1) (fun h => by cases h)
theorem ak_cond_f [Glob P] {c : Operand} {x y : Code} (hc : LS.ev s.t c = .v (.bool false)) (h1 : AK P y k s K) : AK P (.cond c x y) k s K :=
  ak_cond hc (fun h => by cases h) (fun _ => h1)
theorem ak_cond_any [Glob P] {c : Operand} {x y : Code} (hc : LS.ev s.t c = .anyb) (h1 : AK P x k s K) (h2 : AK P y k s K) : AK P (.cond c x y) k s K :=
  awp_cond_any (by rw [LS.ev_eq]; exact hc) h1 h2
theorem ak_reg [Glob P] {id : Nat} {l : List Oper} (h : ∀ N : LS → Prop, (∀ s, kont P K k .normal s → N s) → runC P (tabOf l) l s N) : AK P (.region id l.toArray false) k s K := awp_reg h
theorem ak_loop [Glob P] {c : Code} (I : Nat → LS → Prop) (n0 : Nat) (h0 : I n0 s) (round : ∀ n s, I n s → AK P c [] s (thenA (fun s' => ∃ m s'', m < n ∧ Weak s' s'' ∧ I m s'') (kont P K k))) : AK P (.loop c) k s K := awp_loop I n0 h0 round
theorem ak_weak [Glob P] {c : Code} {s' : LS} (h : Weak s s') (h' : AK P c k s' K) : AK P c k s K := AWP.weak h h'
/-- a loop over a known family of states -/
theorem ak_loop_n [Glob P] {c : Code} (S : Nat → LS) (n : Nat) (s0 : Weak s (S 0)) (round : ∀ i, i ≤ n → AK P c [] (S i) (thenA (fun s' => i < n ∧ Weak s' (S (i + 1))) (kont P K k))) : AK P (.loop c) k s K := by
  refine ak_weak s0 (ak_loop (fun m s => ∃ i, i ≤ n ∧ m = n - i ∧ s = S i) n ⟨0, by omega, by omega, rfl⟩ ?_)
  rintro m s ⟨i, hi, rfl, rfl⟩
  refine AWP.mono (round i hi) fun e s' h => ?_
  cases e with
  | normal => exact ⟨n - (i + 1), S (i + 1), by have := h.1; omega, h.2, i + 1, by have := h.1; omega, rfl, rfl⟩
  | _ => exact h
/-- a loop over a known family of states, with a fact that each round keeps -/
theorem ak_loop_i [Glob P] {c : Code} (S : Nat → LS) (I : Nat → Prop) (n : Nat) (s0 : Weak s (S 0)) (h0 : I 0) (round : ∀ i, i ≤ n → I i → AK P c [] (S i) (thenA (fun s' => i < n ∧ I (i + 1) ∧ Weak s' (S (i + 1))) (kont P K k))) : AK P (.loop c) k s K := by
  refine ak_weak s0 (ak_loop (fun m s => ∃ i, i ≤ n ∧ I i ∧ m = n - i ∧ s = S i) n ⟨0, by omega, h0, by omega, rfl⟩ ?_)
  rintro m s ⟨i, hi, hI, rfl, rfl⟩
  refine AWP.mono (round i hi hI) fun e s' h => ?_
  cases e with
  | normal => exact ⟨n - (i + 1), S (i + 1), by have := h.1; omega, h.2.2, i + 1, by have := h.1; omega, h.2.1, rfl, rfl⟩
  | _ => exact h
theorem ak_cond_p [Glob P] {c : Operand} {x y : Code} {p : Prop} [Decidable p] (hc : LS.ev s.t c = .v (.bool (decide p))) (h1 : p → AK P x k s K) (h2 : ¬ p → AK P y k s K) : AK P (.cond c x y) k s K :=
  ak_cond hc (fun h => h1 (of_decide_eq_true h)) (fun h => h2 (of_decide_eq_false h))

theorem kont_nil [Glob P] (e : Exit) : kont P K [] e s = K e s := rfl
theorem kont_seq_n [Glob P] {z : Code} : kont P K (.seq z :: k) .normal s = AK P z k s K := rfl
theorem kont_seq_r [Glob P] {z : Code} : kont P K (.seq z :: k) .ret s = kont P K k .ret s := rfl
theorem kont_seq_e [Glob P] {z : Code} {id : Nat} : kont P K (.seq z :: k) (.exit id) s = kont P K k (.exit id) s := rfl
theorem kont_block_n [Glob P] {id : Nat} : kont P K (.block id :: k) .normal s = kont P K k .normal s := rfl
theorem kont_block_r [Glob P] {id : Nat} : kont P K (.block id :: k) .ret s = kont P K k .ret s := rfl
theorem kont_block_e [Glob P] {id id' : Nat} : kont P K (.block id :: k) (.exit id') s = if id' = id then kont P K k .normal s else kont P K k (.exit id') s := rfl
theorem thenA_n {N : LS → Prop} : thenA N K .normal s = N s := rfl
theorem thenA_r {N : LS → Prop} : thenA N K .ret s = K .ret s := rfl
theorem thenA_e {N : LS → Prop} {id : Nat} : thenA N K (.exit id) s = K (.exit id) s := rfl
end

theorem weak_refl (s : LS) : Weak s s := fun _ _ _ ρ _ _ R => ⟨ρ, R⟩
theorem weak_of {keep ids : List Nat} {s s' s'' : LS} (h : compact keep ids s = some s') (e : s' = s'') : Weak s s'' := e ▸ compact_weak h
end Go.Ab
namespace Go.Ab
theorem renId_nil (nid id : Nat) : renId [] nid id = none := rfl
theorem renId_cons (i : Nat) (ids : List Nat) (nid id : Nat) : renId (i :: ids) nid id = if i = id then some nid else renId ids (nid + 1) id := by
  unfold renId
  rw [List.idxOf?_cons]
  by_cases h : i = id
  · subst h; simp
  · rw [if_neg (by simpa using h), if_neg h]
    cases ids.idxOf? id with
    | none => rfl
    | some j => simp; omega
end Go.Ab
namespace Go.Ab
theorem inlS_eq {fn : Func} {n : Nat} (h : fn.ntmps = n) (xs : List AV) (k : Nat) (keep : List Nat) (s : LS) : inlS fn xs k keep s = ⟨xs ++ List.replicate (n - xs.length) .dead, s.h ++ [(s.nx, .ghost k (keep.map (LS.tf s.t)))], s.nx + 8⟩ := by subst h; rfl
theorem initL_eq {fn : Func} {n : Nat} (h : fn.ntmps = n) (xs : List AV) : initL fn xs = ⟨xs ++ List.replicate (n - xs.length) .dead, [], 0⟩ := by subst h; rfl
end Go.Ab
namespace Go.Ab
section
variable {P : Program} {s : LS} {K : Exit → LS → Prop} {k : List KF}
/-- ways meet again behind x -/
theorem ak_join [Glob P] {x z : Code} (S : LS) (h1 : AK P x [] s (thenA (fun s' => Weak s' S) (kont P K k))) (h2 : AK P z k S K) : AK P (.seq x z) k s K := by
  refine awp_seq (AWP.mono h1 fun e s' h => ?_)
  cases e <;> first | exact AWP.weak h h2 | exact h
theorem ak_joinc [Glob P] {x z : Code} {S : LS} (keep ids : List Nat) (_ : compact keep ids s = some S) (h1 : AK P x [] s (thenA (fun s' => Weak s' S) (kont P K k))) (h2 : AK P z k S K) : AK P (.seq x z) k s K := ak_join S h1 h2
end
end Go.Ab
end
section
namespace Go.Ab
open Go.RowKit (Below)

/-! what an operation's effect hangs on: a frame -/
def cellAt (r : Row) (i k : Nat) : Option AV := (r.es[i]?).bind fun e => e[k]?

def agreeRow : Option (Nat × Nat × Nat) → RS → RS → Prop
  | none, x, y => x = y
  | some (i, lo, hi), .live r, .live r' => r.sz = r'.sz ∧ r.fro = r'.fro ∧ r.es.length = r'.es.length ∧ ∀ k, lo ≤ k → k < hi → cellAt r i k = cellAt r' i k
  | some _, x, y => x = y

def agree (fp : List (Nat × Option (Nat × Nat × Nat) × Bool)) (h h' : Nat → RS) : Prop := ∀ p ∈ fp, agreeRow p.2.1 (h p.1) (h' p.1)

theorem agreeRow_refl (a : Option (Nat × Nat × Nat)) (x : RS) : agreeRow a x x := by
  cases a with
  | none => rfl
  | some p => cases x <;> first | rfl | exact ⟨rfl, rfl, rfl, fun _ _ _ => rfl⟩

theorem agreeRow_live {a : Option (Nat × Nat × Nat)} {r : Row} {y : RS} (h : agreeRow a (.live r) y) : ∃ r', y = .live r' ∧ r'.sz = r.sz ∧ r'.fro = r.fro ∧ r'.es.length = r.es.length := by
  cases a with
  | none => cases h; exact ⟨r, rfl, rfl, rfl, rfl⟩
  | some p =>
    cases y with
    | live r' => exact ⟨r', rfl, h.1.symm, h.2.1.symm, h.2.2.1.symm⟩
    | _ => cases h

section
variable {P : Program} {s s' : St} {nid : Nat} {fx : Fx} {o : Oper}

theorem slice_eq {r r' : Row} {i k n : Nat} (hl : r.es.length = r'.es.length) (h : ∀ j, k ≤ j → j < k + n → cellAt r i j = cellAt r' i j) : (r.es[i]?).map (fun e => (e.drop k).take n) = (r'.es[i]?).map (fun e => (e.drop k).take n) := by
  by_cases hi : i < r.es.length
  · have hi' : i < r'.es.length := by omega
    rw [List.getElem?_eq_getElem hi, List.getElem?_eq_getElem hi']
    simp only [Option.map_some, Option.some.injEq]
    apply List.ext_getElem?
    intro j
    rw [drop_take_get, drop_take_get]
    split
    · rename_i hj
      have := h (k + j) (by omega) (by omega)
      simpa [cellAt, List.getElem?_eq_getElem hi, List.getElem?_eq_getElem hi'] using this
    · rfl
  · rw [List.getElem?_eq_none (by omega), List.getElem?_eq_none (by omega)]

theorem rd_frame {x : AV} {n : Nat} {cs : List AV} (h : rd s x n = some cs) (ha : agree (footOf false x n) s.h s'.h) : rd s' x n = some cs := by
  cases x with
  | ptr id i k =>
    have := ha _ (List.mem_singleton.2 rfl)
    simp only [rd] at h ⊢
    split at h
    · rename_i r hr
      simp only [hr] at this
      obtain ⟨r', h1, h2, h3, h4⟩ := agreeRow_live this
      rw [h1] at this ⊢
      simp only [agreeRow] at this
      simp only [h2, slice_eq this.2.2.1 this.2.2.2] at h ⊢
      exact h
    · cases h
  | ptx id i k =>
    have := ha _ (List.mem_singleton.2 rfl)
    simp only [agreeRow] at this
    simp only [rd] at h ⊢
    rw [← this]; exact h
  | iat es i k => exact h
  | _ => simp [rd] at h

theorem szOK_frame {sz : Nat} {x : AV} {a : Option (Nat × Nat × Nat)} (h : szOK s sz x) (ha : ∀ id off n, x = .own id off n → agreeRow a (s.h id) (s'.h id)) : szOK s' sz x := by
  cases x with
  | own id off n =>
    obtain ⟨r, h1, h2⟩ := h
    have := ha id off n rfl
    rw [h1] at this
    obtain ⟨r', g1, g2, _, _⟩ := agreeRow_live this
    exact ⟨r', g1, by omega⟩
  | _ => exact h

theorem src_frame {y : AV} {ys : List (List AV)} (h : srcA s y = some ys) (ha : agree (readFp y) s.h s'.h) : srcA s' y = some ys := by
  cases y with
  | own id off n =>
    have := ha _ (List.mem_singleton.2 rfl)
    simp only [agreeRow] at this
    simp only [srcA] at h ⊢
    rw [← this]; exact h
  | _ => exact h

theorem frz_frame {h h' : Nat → RS} : ∀ (n : Nat) (x : AV), (∀ p ∈ frzIds h n x, h p.1 = h' p.1) → frz h' n x = frz h n x ∧ frzIds h' n x = frzIds h n x := by
  intro n
  induction n with
  | zero => intro x _; cases x <;> simp [frz, frzIds]
  | succ n ih =>
    intro x hx
    have many : ∀ cs : List AV, (∀ p ∈ cs.flatMap (frzIds h n), h p.1 = h' p.1) → cs.mapM (frz h' n) = cs.mapM (frz h n) ∧ cs.flatMap (frzIds h' n) = cs.flatMap (frzIds h n) := by
      intro cs
      induction cs with
      | nil => intro _; simp
      | cons c cs ihc =>
        intro hc
        have h1 := ih c fun p hp => hc p (by simp only [List.flatMap_cons, List.mem_append]; exact .inl hp)
        have h2 := ihc fun p hp => hc p (by simp only [List.flatMap_cons, List.mem_append]; exact .inr hp)
        simp only [List.mapM_cons, List.flatMap_cons, h1.1, h1.2, h2.1, h2.2, and_self]
    have many2 : ∀ es : List (List AV), (∀ p ∈ es.flatMap (fun (e : List AV) => e.flatMap (frzIds h n)), h p.1 = h' p.1) → (es.mapM fun (e : List AV) => e.mapM (frz h' n)) = (es.mapM fun (e : List AV) => e.mapM (frz h n)) ∧ es.flatMap (fun (e : List AV) => e.flatMap (frzIds h' n)) = es.flatMap (fun (e : List AV) => e.flatMap (frzIds h n)) := by
      intro es
      induction es with
      | nil => intro _; simp
      | cons e es ihe =>
        intro hc
        have h1 := many e fun p hp => hc p (by simp only [List.flatMap_cons, List.mem_append]; exact .inl hp)
        have h2 := ihe fun p hp => hc p (by simp only [List.flatMap_cons, List.mem_append]; exact .inr hp)
        simp only [List.mapM_cons, List.flatMap_cons, h1.1, h1.2, h2.1, h2.2, and_self]
    cases x with
    | agg cs => have := many cs hx; simp only [frz, frzIds, this.1, this.2, and_self]
    | tup cs => have := many cs hx; simp only [frz, frzIds, this.1, this.2, and_self]
    | fn f cs => have := many cs hx; simp only [frz, frzIds, this.1, this.2, and_self]
    | own id off k =>
      have h0 := hx (id, off + k) (by simp [frzIds])
      simp only at h0
      simp only [frz, frzIds, ← h0]
      cases hr : h id with
      | live r =>
        simp only
        by_cases hp : plainRows ((r.es.drop off).take k) = true
        · simp only [hp, if_true, and_self]
        · have hx2 := many2 ((r.es.drop off).take k) fun p hpm => hx p (by simp only [frzIds, hr, hp, List.mem_cons]; exact .inr hpm)
          simp only [hp, hx2.1, hx2.2, and_self]
      | _ => simp
    | ptr id i k =>
      have h0 := hx (id, i + 1) (by simp [frzIds])
      simp only at h0
      simp only [frz, frzIds, ← h0]
      cases hr : h id with
      | live r =>
        simp only
        by_cases hp : plainRows ((r.es.drop 0).take (i + 1)) = true
        · simp only [hp, if_true, and_self]
        · have hx2 := many2 ((r.es.drop 0).take (i + 1)) fun p hpm => hx p (by simp only [frzIds, hr, hp, List.mem_cons]; exact .inr hpm)
          simp only [hp, hx2.1, hx2.2, and_self]
      | _ => simp
    | _ => simp [frz, frzIds]

end
end Go.Ab
end
section
namespace Go.Ab
open Go.RowKit (Below)

section
variable {P : Program} {s s' : St} {nid : Nat} {fx : Fx} {o : Oper}

theorem agree_map {ids : List (Nat × Nat)} {lend : Bool} {h h' : Nat → RS} (ha : agree (ids.map fun p => (p.1, none, lend)) h h') : ∀ p ∈ ids, h p.1 = h' p.1 := by
  intro p hp
  exact ha (p.1, none, lend) (List.mem_map.2 ⟨p, hp, rfl⟩)

theorem optB_frame {x : Option Operand} {i : Option Int} (hev : ∀ y ∈ x.toArray, s'.ev y = s.ev y) (h : optB s x i) : optB s' x i := by
  cases x with
  | none => cases i <;> exact h
  | some x => cases i with
    | none => exact h
    | some i => obtain ⟨k, hk⟩ := h; exact ⟨k, by rw [hev x (by simp)]; exact hk⟩

theorem optV_frame {x : Option Operand} {v : Option Value} (hev : ∀ y ∈ x.toArray, s'.ev y = s.ev y) (h : optV s x = some v) : optV s' x = some v := by
  cases x with
  | none => exact h
  | some x => simp only [optV, hev x (by simp)] at h ⊢; exact h

theorem foot_w (x : AV) (n : Nat) : ∀ p ∈ footOf false x n, (p.1, p.2.1, true) ∈ footOf true x n := by
  intro p hp
  cases x <;> simp only [footOf, List.mem_singleton, List.not_mem_nil] at hp ⊢ <;> first | (subst hp; rfl) | exact hp.elim

theorem ex_frame [Glob P] (hev : ∀ x ∈ o.op.operands, s'.ev x = s.ev x) (ha : agree fx.fp s.h s'.h) (h : ex P o s nid fx) : ex P o s' nid fx := by
  unfold ex at h ⊢
  split at h
  · rename_i x ho; simp only [ho, Op.operands] at hev; simp only [hev x (by simp)]; exact h
  · rename_i x ho; simp only [ho, Op.operands] at hev; simp only [hev x (by simp)]; exact h
  · rename_i x ho; simp only [ho, Op.operands] at hev; simp only [hev x (by simp)]; exact h
  · rename_i c x y ho; simp only [ho, Op.operands] at hev; simp only [hev c (by simp), hev x (by simp), hev y (by simp)]; exact h
  · exact h
  · rename_i x ho; simp only [ho, Op.operands] at hev; simp only [hev x (by simp)]; exact h
  · rename_i t ps ho
    simp only [ho, Op.operands] at hev
    have e : (ps.toList.map fun p => (p.1, s'.ev p.2)) = ps.toList.map fun p => (p.1, s.ev p.2) := List.map_congr_left fun p hp => by rw [hev p.2 (by simp; exact ⟨p.1, by simpa using hp⟩)]
    simp only [e]; exact h
  · rename_i t len ps ho
    simp only [ho, Op.operands] at hev
    have e : (ps.toList.map fun p => (p.1, s'.ev p.2)) = ps.toList.map fun p => (p.1, s.ev p.2) := List.map_congr_left fun p hp => by rw [hev p.2 (by simp; exact ⟨p.1, by simpa using hp⟩)]
    simp only [e]; exact h
  · rename_i t x ho
    simp only [ho, Op.operands] at hev
    obtain ⟨T, h1, cs, h2, val, h3, rfl⟩ := h
    exact ⟨T, h1, cs, by rw [hev x (by simp)]; exact rd_frame h2 ha, val, h3, by rw [hev x (by simp)]⟩
  · rename_i t x y ho
    simp only [ho, Op.operands] at hev
    obtain ⟨T, hT, cs, hcs, hl, hone, id, i, k, haddr, r, hr, hfro, hi, hk, rfl⟩ := h
    have hag : ∃ a, agreeRow a (s.h id) (s'.h id) := by
      rcases haddr with e | e <;> rw [e] at ha
      · exact ⟨_, ha (id, some (i, k, k + T.size), true) (by simp [footOf])⟩
      · exact ⟨_, ha (id, none, true) (by simp [footOf])⟩
    obtain ⟨a, hag⟩ := hag
    rw [hr] at hag
    obtain ⟨r', g1, g2, g3, g4⟩ := agreeRow_live hag
    exact ⟨T, hT, cs, by rw [hev y (by simp)]; exact hcs, hl, hone, id, i, k, by rw [hev x (by simp)]; exact haddr, r', g1, by omega, by omega, by omega, by rw [hev x (by simp)]⟩
  · rename_i op t x y yt ho
    simp only [ho, Op.operands] at hev
    simp only [hev x (by simp), hev y (by simp)]; exact h
  · rename_i op t x ho; simp only [ho, Op.operands] at hev; simp only [hev x (by simp)]; exact h
  · rename_i a b x ho; simp only [ho, Op.operands] at hev; simp only [hev x (by simp)]; exact h
  · rename_i fn first caps ho
    simp only [ho, Op.operands] at hev
    have e : caps.toList.map s'.ev = caps.toList.map s.ev := List.map_congr_left fun p hp => hev p (by simp; exact .inr (by simpa using hp))
    simp only [e]; exact h
  · rename_i t l c ho
    simp only [ho, Op.operands] at hev
    simp only [hev l (by simp), hev c (by simp)]; exact h
  · rename_i t x lo hi mx ho
    simp only [ho, Op.operands] at hev
    have ex0 := hev x (by simp)
    have elo : ∀ y ∈ lo.toArray, s'.ev y = s.ev y := fun y hy => hev y (by simp only [Array.mem_append]; exact .inl (.inl (.inr hy)))
    have ehi : ∀ y ∈ hi.toArray, s'.ev y = s.ev y := fun y hy => hev y (by simp only [Array.mem_append]; exact .inl (.inr hy))
    have emx : ∀ y ∈ mx.toArray, s'.ev y = s.ev y := fun y hy => hev y (by simp only [Array.mem_append]; exact .inr hy)
    rcases h with ⟨E, hD, hz, l, hl, hv, hh, mo, hm, val, hv2, rfl⟩ | ⟨vx, hx, vlo, hlo, vhi, hhi, vmx, hmx, z, hz, rfl⟩
    · refine .inl ⟨E, hD, ?_, l, ?_, hv, optB_frame ehi hh, mo, optB_frame emx hm, val, by rw [ex0]; exact hv2, by rw [ex0]⟩
      · rw [ex0]
        exact szOK_frame hz (a := some (0, 0, 0)) fun id off n e => by rw [e] at ha; exact ha (id, some (0, 0, 0), false) (by simp [metaFp])
      · rcases hl with hl | ⟨lx, k, rfl, hk⟩
        · exact .inl hl
        · exact .inr ⟨lx, k, rfl, by rw [elo lx (by simp)]; exact hk⟩
    · exact .inr ⟨vx, by rw [ex0]; exact hx, vlo, optV_frame elo hlo, vhi, optV_frame ehi hhi, vmx, optV_frame emx hmx, z, hz, rfl⟩
  · rename_i t x f ho; simp only [ho, Op.operands] at hev; simp only [hev x (by simp)]; exact h
  · rename_i t x f ho; simp only [ho, Op.operands] at hev; simp only [hev x (by simp)]; exact h
  · rename_i t x ix ho
    simp only [ho, Op.operands] at hev
    have ex0 := hev x (by simp)
    obtain ⟨D, hD, hz, k, i, hi, val, hv, rfl⟩ := h
    rw [hev ix (by simp), ex0]
    have hfr : ∀ id off n, s.ev x = .own id off n → agreeRow (some (0, 0, 0)) (s.h id) (s'.h id) := fun id off n e => by rw [e] at ha; exact ha (id, some (0, 0, 0), false) (by simp [metaFp])
    refine ⟨D, hD, fun E hE => szOK_frame (hz E hE) hfr, k, i, hi, val, ?_, rfl⟩
    unfold idxA at hv ⊢
    split at hv
    · exact hv
    · rename_i E id off n hx
      split at hv
      · rename_i r hr
        have := hfr id off n hx
        rw [hr] at this
        obtain ⟨r', g1, g2, g3, g4⟩ := agreeRow_live this
        rw [g1]
        simp only [g4]
        exact hv
      · cases hv
    · exact hv
    · exact hv
    · cases hv
  · rename_i t x ix ho
    simp only [ho, Op.operands] at hev
    simp only [hev x (by simp), hev ix (by simp)]; exact h
  · rename_i x i ho; simp only [ho, Op.operands] at hev; simp only [hev x (by simp)]; exact h
  · rename_i t m k c ho
    simp only [ho, Op.operands] at hev
    obtain ⟨d, z, ht, b, hm, kv, hkv, hik, id, f, hh, rfl⟩ := h
    have := ha (id, none, false) (by simp)
    simp only [agreeRow] at this
    exact ⟨d, z, ht, b, by rw [hev m (by simp)]; exact hm, kv, by rw [hev k (by simp)]; exact hkv, hik, id, f, by rw [← this]; exact hh, rfl⟩
  · rename_i c ho
    simp only [ho, Op.operands, Call.operands] at hev
    have eargs : ∀ y ∈ c.args, s'.ev y = s.ev y := fun y hy => hev y (by simp only [Array.mem_append]; exact .inr hy)
    have emap : c.args.toList.map s'.ev = c.args.toList.map s.ev := List.map_congr_left fun p hp => eargs p (by simpa using hp)
    split at h
    · rcases h with ⟨hb, x, hx, t, ht, E, hD, n, hn, rfl⟩ | ⟨hb, x, y, hxy, t, t2, htt, E, hD, E2, hD2, hz1, hz2, ys, hys, hyl, h⟩ | ⟨vs, hvs, z, hz, rfl⟩
      · exact .inl ⟨hb, x, hx, t, ht, E, hD, n, by rw [eargs x (by simp [hx])]; exact hn, rfl⟩
      · have e1 := eargs x (by simp [hxy])
        have e2 := eargs y (by simp [hxy])
        have hry : agree (readFp (s.ev y)) s.h s'.h := by
          rcases h with ⟨cl, es, _, _, rfl⟩ | ⟨es, _, _, _, _, rfl⟩ | ⟨id, off, n, _, r, _, _, _, _, _, _, rfl⟩
          · exact ha
          · exact ha
          · exact fun p hp => ha p (List.mem_cons_of_mem _ hp)
        have g2 : szOK s' E.size (s.ev y) := szOK_frame hz2 (a := none) fun id off n e => by rw [e] at hry; exact hry (id, none, false) (by simp [readFp])
        refine .inr (.inl ⟨hb, x, y, hxy, t, t2, htt, E, hD, E2, hD2, ?_, by rw [e2]; exact g2, ys, by rw [e2]; exact src_frame hys hry, hyl, ?_⟩)
        · rw [e1]
          rcases h with ⟨cl, es, hx, _, rfl⟩ | ⟨es, hx, _, _, _, rfl⟩ | ⟨id, off, n, hx, r, _, _, _, _, _, _, rfl⟩
          · rw [hx] at hz1 ⊢; exact hz1
          · rw [hx] at hz1 ⊢; exact hz1
          · rw [hx] at hz1 ⊢
            have := ha (id, none, true) (by simp)
            simp only [agreeRow] at this
            obtain ⟨r2, q1, q2⟩ := hz1
            exact ⟨r2, by rw [← this]; exact q1, q2⟩
        · rw [e1, e2]
          rcases h with h | h | ⟨id, off, n, hx, r, hr, h1, h2, h3, h4, h5, rfl⟩
          · exact .inl h
          · exact .inr (.inl h)
          · have := ha (id, none, true) (by simp)
            simp only [agreeRow] at this
            exact .inr (.inr ⟨id, off, n, hx, r, by rw [← this]; exact hr, h1, h2, h3, h4, h5, rfl⟩)
      · refine .inr (.inr ⟨vs, ?_, z, hz, rfl⟩)
        rw [← hvs]
        have : ∀ l : List Operand, (∀ y ∈ l, s'.ev y = s.ev y) → l.mapM (fun x => (s'.ev x).toV) = l.mapM fun x => (s.ev x).toV := by
          intro l
          induction l with
          | nil => intro _; rfl
          | cons y l ih => intro hl; simp only [List.mapM_cons, hl y (by simp), ih fun z hz => hl z (by simp [hz])]
        exact this _ fun y hy => eargs y (by simpa using hy)
    · rename_i fv hfv
      obtain ⟨f, caps, hf, n, xs, hxs, y, rows, C, hrl, lend, hlend, rfl⟩ := h
      simp only at ha
      have hids := agree_map ha
      have hfz : (((c.args.toList.map s.ev) ++ caps).mapM (frz s'.h n)) = ((c.args.toList.map s.ev) ++ caps).mapM (frz s.h n) ∧ ((c.args.toList.map s.ev) ++ caps).flatMap (frzIds s'.h n) = ((c.args.toList.map s.ev) ++ caps).flatMap (frzIds s.h n) := by
        generalize (c.args.toList.map s.ev) ++ caps = l at hids
        clear hxs ha C
        induction l with
        | nil => simp
        | cons a l ih =>
          have h1 := frz_frame n a fun p hp => hids p (by simp only [List.flatMap_cons, List.mem_append]; exact .inl hp)
          have h2 := ih fun p hp => hids p (by simp only [List.flatMap_cons, List.mem_append]; exact .inr hp)
          simp only [List.mapM_cons, List.flatMap_cons, h1.1, h1.2, h2.1, h2.2, and_self]
      refine ⟨f, caps, by rw [hev fv (by simp [hfv])]; exact hf, n, xs, ?_, y, rows, C, hrl, lend, hlend, ?_⟩
      · rw [emap, hfz.1]; exact hxs
      · rw [emap, hfz.2]
    · exact h
  · exact h

/-- what is written stands in the footprint -/
theorem ex_fp [Glob P] (h : ex P o s nid fx) : (∀ id i k cs, fx.wr = some (id, i, k, cs) → (id, none, true) ∈ fx.fp ∨ (id, some (i, k, k + cs.length), true) ∈ fx.fp) ∧ (∀ p ∈ fx.fro, (p.1, none, true) ∈ fx.fp) ∧ (∀ id, fx.kill = some id → (id, none, true) ∈ fx.fp) ∧ (fx.wr ≠ none → fx.fro = [] ∧ fx.kill = none) := by
  unfold ex at h
  split at h
  · subst h; simp
  · subst h; simp
  · obtain ⟨_, rfl⟩ := h; simp
  · obtain ⟨_, _, rfl⟩ := h; simp
  · obtain ⟨_, _, rfl⟩ := h; simp
  · obtain ⟨_, _, rfl⟩ := h; simp
  · obtain ⟨_, _, _, _, _, _, _, rfl⟩ := h; simp
  · obtain ⟨_, _, _, _, _, rfl⟩ := h; simp
  · obtain ⟨_, _, _, _, _, _, rfl⟩ := h; simp
  · obtain ⟨T, _, cs, _, hl, _, id, i, k, ha, _, _, _, _, _, rfl⟩ := h
    refine ⟨?_, by simp, by simp, by simp⟩
    intro id' i' k' cs' he
    simp only [Option.some.injEq, Prod.mk.injEq] at he
    obtain ⟨rfl, rfl, rfl, rfl⟩ := he
    rcases ha with e | e <;> rw [e]
    · exact .inr (by simp [footOf, hl])
    · exact .inl (by simp [footOf])
  · rcases h with ⟨_, _, _, _, _, _, rfl⟩ | ⟨_, _, _, _, _, rfl⟩ <;> simp
  · obtain ⟨_, _, _, _, rfl⟩ := h; simp
  · obtain ⟨_, _, _, _, rfl⟩ := h; simp
  · obtain ⟨_, _, _, rfl⟩ := h; simp
  · obtain ⟨_, _, _, _, _, _, _, _, _, _, rfl⟩ := h; simp
  · rcases h with ⟨_, _, _, _, _, _, _, _, _, _, _, rfl⟩ | ⟨_, _, _, _, _, _, _, _, _, _, rfl⟩ <;> simp
  · obtain ⟨_, _, _, _, _, _, rfl⟩ := h; simp
  · obtain ⟨_, _, _, _, _, _, _, _, rfl⟩ := h; simp
  · obtain ⟨_, _, _, _, _, _, _, _, rfl⟩ := h; simp
  · rcases h with ⟨_, _, _, _, _, _, _, _, _, _, _, _, rfl⟩ | ⟨_, _, _, _, _, _, rfl⟩ <;> simp
  · obtain ⟨_, _, _, _, rfl⟩ := h; simp
  · obtain ⟨_, _, _, _, _, _, _, _, _, _, _, rfl⟩ := h; simp
  · split at h
    · rcases h with ⟨_, _, _, _, _, _, _, _, _, rfl⟩ | ⟨_, _, _, _, _, _, _, _, _, _, _, _, _, _, _, _, h⟩ | ⟨_, _, _, _, rfl⟩
      · simp
      · rcases h with ⟨_, _, _, _, rfl⟩ | ⟨_, _, _, _, _, rfl⟩ | ⟨id, _, _, _, r, hr, _, _, _, _, _, rfl⟩
        · simp
        · simp
        · simp
      · simp
    · obtain ⟨_, _, _, _, _, _, _, _, _, hl, lend, _, rfl⟩ := h
      refine ⟨by simp, ?_, by simp, by simp⟩
      intro p hp
      cases lend with
      | false => exact List.mem_map.2 ⟨p, hp, rfl⟩
      | true => cases hp
    · cases h
  · cases h
end
end Go.Ab
end
section
namespace Go.Ab
open Go.RowKit (Below)

abbrev Foot := Nat × Option (Nat × Nat × Nat) × Bool

def disj : Option (Nat × Nat × Nat) → Option (Nat × Nat × Nat) → Prop
  | some (i, lo, hi), some (i', lo', hi') => i ≠ i' ∨ hi ≤ lo' ∨ hi' ≤ lo
  | _, _ => False

def noConfF (n1 : Nat) (f1 : List Foot) (n2 : Nat) (f2 : List Foot) : Prop :=
  (∀ p ∈ f1, ∀ q ∈ f2, p.1 = q.1 → (p.2.2 = true ∨ q.2.2 = true) → disj p.2.1 q.2.1) ∧ (∀ p ∈ f1, ¬ (n2 ≤ p.1 ∧ p.1 < n2 + 8)) ∧ (∀ q ∈ f2, ¬ (n1 ≤ q.1 ∧ q.1 < n1 + 8)) ∧ (n1 + 8 ≤ n2 ∨ n2 + 8 ≤ n1)

/-- an effect as it was seen: where its new rows go, and what it is; none: the operation was skipped -/
abbrev Eff := Option (Nat × Fx)

def noConf : Eff → Eff → Prop
  | some (n1, f1), some (n2, f2) => noConfF n1 f1.fp n2 f2.fp
  | _, _ => True

theorem disj_symm {a b : Option (Nat × Nat × Nat)} (h : disj a b) : disj b a := by
  cases a <;> cases b <;> simp only [disj] at h ⊢
  rcases h with h | h | h
  · exact .inl (Ne.symm h)
  · exact .inr (.inr h)
  · exact .inr (.inl h)

theorem noConf_symm {e1 e2 : Eff} (h : noConf e1 e2) : noConf e2 e1 := by
  cases e1 <;> cases e2 <;> simp only [noConf] at h ⊢
  obtain ⟨h1, h2, h3, h4⟩ := h
  exact ⟨fun p hp q hq e w => disj_symm (h1 q hq p hp e.symm w.symm), h3, h2, h4.symm⟩

def FpOK (fx : Fx) : Prop := (∀ id i k cs, fx.wr = some (id, i, k, cs) → (id, none, true) ∈ fx.fp ∨ (id, some (i, k, k + cs.length), true) ∈ fx.fp) ∧ (∀ p ∈ fx.fro, (p.1, none, true) ∈ fx.fp) ∧ (∀ id, fx.kill = some id → (id, none, true) ∈ fx.fp) ∧ (fx.wr ≠ none → fx.fro = [] ∧ fx.kill = none)

theorem froTo_none {ids : List (Nat × Nat)} {id : Nat} (h : ∀ p ∈ ids, p.1 ≠ id) (m : Nat) : froTo ids id m = m := by
  induction ids generalizing m with
  | nil => rfl
  | cons p ids ih =>
    simp only [froTo, List.foldl_cons]
    rw [if_neg (h p (by simp))]
    exact ih (fun q hq => h q (by simp [hq])) m

theorem fro_id {fx : Fx} {f : List Foot} {n1 n2 : Nat} {id : Nat} {a : Option (Nat × Nat × Nat)} {w : Bool} (hF : FpOK fx) (hc : noConfF n1 fx.fp n2 f) (hm : (id, a, w) ∈ f) : ∀ p ∈ fx.fro, p.1 ≠ id := by
  intro p hp e
  have := hc.1 (p.1, none, true) (hF.2.1 p hp) (id, a, w) hm e (.inl rfl)
  exact this

theorem kill_id {fx : Fx} {f : List Foot} {n1 n2 : Nat} {id : Nat} {a : Option (Nat × Nat × Nat)} {w : Bool} (hF : FpOK fx) (hc : noConfF n1 fx.fp n2 f) (hm : (id, a, w) ∈ f) : fx.kill ≠ some id := by
  intro e
  exact hc.1 (id, none, true) (hF.2.2.1 id e) (id, a, w) hm rfl (.inl rfl)

theorem modify_get (es : List (List AV)) (i k : Nat) (cs : List AV) (j : Nat) : (es.modify i (fun e => splice e k cs))[j]? = if i = j then (es[j]?).map (fun e => splice e k cs) else es[j]? := by
  rw [List.getElem?_modify]
  cases es[j]? with
  | none => simp
  | some e => by_cases h : i = j <;> simp [h]

theorem agree_heap {fx : Fx} {f : List Foot} {n1 n2 : Nat} {h : Nat → RS} (hF : FpOK fx) (hl : fx.new.length ≤ 8) (hc : noConfF n1 fx.fp n2 f) : agree f (fx.heap n1 h) h := by
  rintro ⟨id, a, w⟩ hm
  have hnew := hc.2.2.1 _ hm
  simp only at hnew ⊢
  unfold Fx.heap
  rw [if_neg (by omega), if_neg (kill_id hF hc hm)]
  cases hr : h id with
  | live r =>
    simp only
    have hfro : froTo fx.fro id r.fro = r.fro := froTo_none (fro_id hF hc hm) _
    cases hw : fx.wr with
    | none =>
      have : fx.row id r = r := by simp only [Fx.row, hw, wrTo, hfro]
      rw [this]; exact agreeRow_refl _ _
    | some p =>
      obtain ⟨id', i, k, cs⟩ := p
      by_cases he : id' = id
      · subst he
        have hd : ∃ i' lo hi, a = some (i', lo, hi) ∧ (i ≠ i' ∨ k + cs.length ≤ lo ∨ hi ≤ k) := by
          rcases hF.1 _ _ _ _ hw with g | g
          · exact absurd (hc.1 _ g _ hm rfl (.inl rfl)) (by cases a <;> simp [disj])
          · have := hc.1 _ g _ hm rfl (.inl rfl)
            cases a with
            | none => simp [disj] at this
            | some q => obtain ⟨i', lo, hi⟩ := q; exact ⟨i', lo, hi, rfl, this⟩
        obtain ⟨i', lo, hi, rfl, hd⟩ := hd
        simp only [Fx.row, hw, wrTo, if_true, hfro, agreeRow, List.length_modify, true_and]
        intro k' h1 h2
        simp only [cellAt, modify_get]
        by_cases hi2 : i = i'
        · subst hi2
          rw [if_pos rfl]
          cases r.es[i]? with
          | none => rfl
          | some e =>
            simp only [Option.map_some, Option.bind_some, splice_at]
            rw [if_neg (by omega)]
        · rw [if_neg hi2]
      · have : fx.row id r = r := by simp only [Fx.row, hw, wrTo, if_neg he, hfro]
        rw [this]; exact agreeRow_refl _ _
  | _ => exact agreeRow_refl _ _

theorem splice_comm (e : List AV) {k k' : Nat} {cs cs' : List AV} (h : k + cs.length ≤ k' ∨ k' + cs'.length ≤ k) : splice (splice e k cs) k' cs' = splice (splice e k' cs') k cs := by
  apply List.ext_getElem?
  intro j
  simp only [splice_at, splice_len]
  by_cases h1 : k ≤ j ∧ j < k + cs.length
  · rw [if_pos h1, if_neg (by omega), if_pos h1]
  · rw [if_neg h1, if_neg h1]

theorem wrTo_comm {fx1 fx2 : Fx} {n1 n2 id : Nat} (h1 : FpOK fx1) (h2 : FpOK fx2) (hc : noConfF n1 fx1.fp n2 fx2.fp) (es : List (List AV)) : wrTo fx1.wr id (wrTo fx2.wr id es) = wrTo fx2.wr id (wrTo fx1.wr id es) := by
  cases hw1 : fx1.wr with
  | none => rfl
  | some p =>
    cases hw2 : fx2.wr with
    | none => rfl
    | some q =>
      obtain ⟨a, i, k, cs⟩ := p
      obtain ⟨a', i', k', cs'⟩ := q
      simp only [wrTo]
      by_cases e1 : a = id <;> by_cases e2 : a' = id <;> simp only [e1, e2, if_true, if_false]
      subst e1
      subst e2
      have hd : i ≠ i' ∨ k + cs.length ≤ k' ∨ k' + cs'.length ≤ k := by
        rcases h1.1 _ _ _ _ hw1 with g | g <;> rcases h2.1 _ _ _ _ hw2 with g' | g'
        all_goals
          have := hc.1 _ g _ g' rfl (.inl rfl)
          simp only [disj] at this
        exact this
      apply List.ext_getElem?
      intro j
      simp only [modify_get]
      by_cases e1 : i = j <;> by_cases e2 : i' = j <;> simp only [e1, e2, if_true, if_false]
      subst e1
      subst e2
      cases es[i']? with
      | none => rfl
      | some e =>
        simp only [Option.map_some, Option.some.injEq]
        exact (splice_comm e (by rcases hd with hd | hd | hd; exact absurd rfl hd; exact .inl hd; exact .inr hd)).symm

def actR (fx : Fx) (id : Nat) (x : RS) : RS :=
  if fx.kill = some id then .gone else match x with
    | .live r => .live (fx.row id r)
    | x => x

theorem heap_out {fx : Fx} {n id : Nat} (g : Nat → RS) (h : ¬ (n ≤ id ∧ id < n + fx.new.length)) : fx.heap n g id = actR fx id (g id) := by
  unfold Fx.heap actR
  rw [if_neg h]
  cases g id <;> rfl

theorem heap_comm {fx1 fx2 : Fx} {n1 n2 : Nat} {h : Nat → RS} (h1 : FpOK fx1) (h2 : FpOK fx2) (l1 : fx1.new.length ≤ 8) (l2 : fx2.new.length ≤ 8) (hc : noConfF n1 fx1.fp n2 fx2.fp) : fx1.heap n1 (fx2.heap n2 h) = fx2.heap n2 (fx1.heap n1 h) := by
  have hc' : noConfF n2 fx2.fp n1 fx1.fp := by
    have := noConf_symm (e1 := some (n1, fx1)) (e2 := some (n2, fx2)) hc
    exact this
  have key : ∀ {fx1 fx2 : Fx} {n1 n2 : Nat}, FpOK fx2 → fx1.new.length ≤ 8 → fx2.new.length ≤ 8 → noConfF n1 fx1.fp n2 fx2.fp → ∀ id, (n1 ≤ id ∧ id < n1 + fx1.new.length) → fx1.heap n1 (fx2.heap n2 h) id = fx2.heap n2 (fx1.heap n1 h) id := by
    intro fx1 fx2 n1 n2 h2 l1 l2 hc id hin
    have hnot : ∀ p ∈ fx2.fp, p.1 ≠ id := fun p hp e => hc.2.2.1 p hp (by rw [e]; omega)
    have e1 : ∀ g, fx1.heap n1 g id = .live (fx1.new.getD (id - n1) ⟨0, [], 0⟩) := fun g => by unfold Fx.heap; rw [if_pos hin]
    rw [e1]
    have hd := hc.2.2.2
    have hk : fx2.kill ≠ some id := fun e => hnot _ (h2.2.2.1 id e) rfl
    rw [heap_out _ (by omega), e1]
    simp only [actR, if_neg hk, Fx.row]
    have hfro : ∀ m, froTo fx2.fro id m = m := froTo_none fun p hp e => hnot _ (h2.2.1 p hp) e
    have hwr : ∀ es, wrTo fx2.wr id es = es := by
      intro es
      cases hw : fx2.wr with
      | none => rfl
      | some p =>
        obtain ⟨a, i, k, cs⟩ := p
        simp only [wrTo]
        rw [if_neg]
        intro e
        rcases h2.1 _ _ _ _ hw with g | g <;> exact hnot _ g e
    simp only [hfro, hwr]
  funext id
  by_cases c1 : n1 ≤ id ∧ id < n1 + fx1.new.length
  · exact key h2 l1 l2 hc id c1
  · by_cases c2 : n2 ≤ id ∧ id < n2 + fx2.new.length
    · exact (key h1 l2 l1 hc' id c2).symm
    · rw [heap_out _ c1, heap_out _ c2, heap_out _ c2, heap_out _ c1]
      by_cases k1 : fx1.kill = some id <;> by_cases k2 : fx2.kill = some id
      · simp only [actR, if_pos k1, if_pos k2]
      · simp only [actR, if_pos k1, if_neg k2]
      · simp only [actR, if_neg k1, if_pos k2]
      · simp only [actR, if_neg k1, if_neg k2]
        cases h id with
        | live r =>
          simp only [Fx.row, wrTo_comm h1 h2 hc]
          congr 2
          by_cases hx : ∃ p ∈ fx1.fro, p.1 = id
          · obtain ⟨p, hp, e⟩ := hx
            have : ∀ q ∈ fx2.fro, q.1 ≠ id := fun q hq e' => hc.1 _ (h1.2.1 p hp) _ (h2.2.1 q hq) (by rw [e, e']) (.inl rfl)
            rw [froTo_none this, froTo_none this]
          · have : ∀ q ∈ fx1.fro, q.1 ≠ id := fun q hq e' => hx ⟨q, hq, e'⟩
            rw [froTo_none this, froTo_none this]
        | _ => rfl
end Go.Ab
end
section
namespace Go.Ab
open Go.RowKit (Below)

def appE (o : Oper) (e : Eff) (s : St) : St :=
  match e with
  | some (nid, fx) => s.app o.dst nid fx
  | none => s.put o.dst AV.und

/-- how the guard stands -/
def gA (ops : Array Oper) (o : Oper) (s : St) : Option Bool :=
  match o.guard with
  | none => some true
  | some (j, want) => match (ops[j]?).bind (·.dst) with
    | some d => match s.t d with
      | .v (.bool b) => some (b == want)
      | .v (.tuple cs) => if cs.isEmpty = true then some false else none
      | _ => none
    | none => none

def YE (P : Program) [Glob P] (ops : Array Oper) (o : Oper) (s : St) (e : Eff) : Prop :=
  dstOK s o.dst ∧ match e with
    | some (nid, fx) => gA ops o s = some true ∧ ex P o s nid fx ∧ ∀ k, k < 8 → s.h (nid + k) = .free
    | none => gA ops o s = some false

theorem appE_n (o : Oper) (e : Eff) (s : St) : (appE o e s).n = s.n := by
  cases e with
  | none => cases h : o.dst <;> simp [appE, St.put, h]
  | some p => cases h : o.dst <;> simp [appE, St.app, St.put, h]

theorem dstOK_app {o o' : Oper} {e : Eff} {s : St} : dstOK (appE o e s) o'.dst ↔ dstOK s o'.dst := by
  cases o'.dst <;> simp [dstOK, appE_n]

theorem appE_t {o : Oper} {e : Eff} {s : St} {t : Tmp} (h : o.dst ≠ some t) : (appE o e s).t t = s.t t := by
  cases e with
  | none =>
    simp only [appE, St.put]
    cases hd : o.dst with
    | none => rfl
    | some d => simp only; rw [if_neg]; intro e; apply h; rw [hd, e]
  | some p =>
    simp only [appE, St.app, St.put]
    cases hd : o.dst with
    | none => rfl
    | some d => simp only; rw [if_neg]; intro e; apply h; rw [hd, e]

theorem appE_ev {ops : Array Oper} {o o' : Oper} {e : Eff} {s : St} (h : ∀ d, o.dst = some d → d ∉ o'.looksAt ops) : ∀ x ∈ o'.op.operands, (appE o e s).ev x = s.ev x := by
  intro x hx
  cases x with
  | tmp t =>
    simp only [St.ev]
    refine appE_t fun hd => h t hd ?_
    exact List.mem_append_left _ (List.mem_filterMap.2 ⟨.tmp t, by simpa using hx, rfl⟩)
  | _ => rfl

theorem appE_g {ops : Array Oper} {o o' : Oper} {e : Eff} {s : St} (h : ∀ d, o.dst = some d → d ∉ o'.looksAt ops) : gA ops o' (appE o e s) = gA ops o' s := by
  unfold gA
  cases hg : o'.guard with
  | none => rfl
  | some p =>
    obtain ⟨j, want⟩ := p
    simp only
    cases hd : (ops[j]?).bind (·.dst) with
    | none => rfl
    | some d =>
      simp only
      rw [appE_t]
      intro e
      exact h d e (by simp [Oper.looksAt, hg, hd])

theorem put_comm' (s : St) (d1 d2 : Option Tmp) (x y : AV) (h : ∀ d, d1 = some d → d2 ≠ some d) : (s.put d1 x).put d2 y = (s.put d2 y).put d1 x := by
  cases d1 with
  | none => rfl
  | some a =>
    cases d2 with
    | none => rfl
    | some b =>
      have hne : a ≠ b := fun e => h a rfl (by rw [e])
      simp only [St.put]
      congr 1
      funext t
      by_cases h1 : t = a
      · have h2 : ¬ t = b := fun e => hne (h1.symm.trans e)
        rw [if_neg h2, if_pos h1, if_pos h1]
      · by_cases h2 : t = b
        · rw [if_pos h2, if_neg h1, if_pos h2]
        · rw [if_neg h2, if_neg h1, if_neg h1, if_neg h2]

section
variable {P : Program} {ops : Array Oper}

theorem ex_ok [Glob P] {o : Oper} {s : St} {nid : Nat} {fx : Fx} (h : ex P o s nid fx) : FpOK fx ∧ fx.new.length ≤ 8 := ⟨ex_fp h, (ex_new h).1⟩

def EOK (e : Eff) : Prop := match e with
  | some (_, fx) => FpOK fx ∧ fx.new.length ≤ 8
  | none => True

theorem YE.ok [Glob P] {o : Oper} {s : St} {e : Eff} (h : YE P ops o s e) : EOK e := by
  cases e with
  | none => trivial
  | some p => exact ex_ok h.2.2.1

theorem agree_symm {fp : List Foot} {h h' : Nat → RS} (ha : agree fp h h') : agree fp h' h := by
  intro p hp
  have := ha p hp
  generalize p.2.1 = a at this ⊢
  generalize h p.1 = x at this ⊢
  generalize h' p.1 = y at this ⊢
  cases a with
  | none => exact this.symm
  | some q =>
    cases x <;> cases y <;> simp only [agreeRow] at this ⊢ <;> first | exact this.symm | (cases this; done) | exact ⟨this.1.symm, this.2.1.symm, this.2.2.1.symm, fun k h1 h2 => (this.2.2.2 k h1 h2).symm⟩

/-- an operation seen behind another one is seen alike ahead of it -/
theorem YE.before [Glob P] {oi oj : Oper} {s : St} {ei ej : Eff} (hei : EOK ei) (hap : ∀ d, oi.dst = some d → d ∉ oj.looksAt ops) (hc : noConf ei ej) (h : YE P ops oj (appE oi ei s) ej) : YE P ops oj s ej := by
  obtain ⟨h1, h2⟩ := h
  refine ⟨dstOK_app.1 h1, ?_⟩
  cases ej with
  | none => simp only at h2 ⊢; rw [appE_g hap] at h2; exact h2
  | some p =>
    obtain ⟨n2, f2⟩ := p
    simp only at h2 ⊢
    obtain ⟨g1, g2, g3⟩ := h2
    rw [appE_g hap] at g1
    cases ei with
    | none =>
      refine ⟨g1, ex_frame (s := appE oi none s) (fun x hx => (appE_ev hap x hx).symm) ?_ g2, ?_⟩
      · intro p hp
        have : (appE oi none s).h = s.h := by simp only [appE, St.put]; cases oi.dst <;> rfl
        rw [this]; exact agreeRow_refl _ _
      · intro k hk
        have : (appE oi none s).h = s.h := by simp only [appE, St.put]; cases oi.dst <;> rfl
        rw [← this]; exact g3 k hk
    | some q =>
      obtain ⟨n1, f1⟩ := q
      refine ⟨g1, ex_frame (s := appE oi (some (n1, f1)) s) (fun x hx => (appE_ev hap x hx).symm) ?_ g2, ?_⟩
      · exact agree_heap hei.1 hei.2 hc
      · intro k hk
        have := g3 k hk
        simp only [appE, St.app] at this
        by_cases hin : n1 ≤ n2 + k ∧ n2 + k < n1 + f1.new.length
        · have := hc.2.2.2; have := hei.2; omega
        · rw [heap_out _ hin] at this
          unfold actR at this
          split at this
          · cases this
          · split at this
            · cases this
            · exact this

/-- and behind another one as ahead of it -/
theorem YE.behind [Glob P] {oi oj : Oper} {s : St} {ei ej : Eff} (hej : EOK ej) (hap : ∀ d, oj.dst = some d → d ∉ oi.looksAt ops) (hc : noConf ei ej) (h : YE P ops oi s ei) : YE P ops oi (appE oj ej s) ei := by
  obtain ⟨h1, h2⟩ := h
  refine ⟨dstOK_app.2 h1, ?_⟩
  have hc' := noConf_symm hc
  cases ei with
  | none => simp only at h2 ⊢; rw [appE_g hap]; exact h2
  | some p =>
    obtain ⟨n1, f1⟩ := p
    simp only at h2 ⊢
    obtain ⟨g1, g2, g3⟩ := h2
    rw [appE_g hap]
    cases ej with
    | none =>
      have hh : (appE oj none s).h = s.h := by simp only [appE, St.put]; cases oj.dst <;> rfl
      refine ⟨g1, ex_frame (s := s) (appE_ev hap) (fun p hp => by rw [hh]; exact agreeRow_refl _ _) g2, fun k hk => by rw [hh]; exact g3 k hk⟩
    | some q =>
      obtain ⟨n2, f2⟩ := q
      refine ⟨g1, ex_frame (s := s) (appE_ev hap) (agree_symm (agree_heap hej.1 hej.2 hc')) g2, fun k hk => ?_⟩
      simp only [appE, St.app]
      have hin : ¬ (n2 ≤ n1 + k ∧ n1 + k < n2 + f2.new.length) := by have := hc.2.2.2; have := hej.2; omega
      rw [heap_out _ hin, g3 k hk]
      unfold actR
      rw [if_neg]
      intro e
      exact hc.2.2.1 _ (hej.1.2.2.1 _ e) (by simp only; omega)

theorem appE_comm {oi oj : Oper} {s : St} {ei ej : Eff} (hei : EOK ei) (hej : EOK ej) (hd : ∀ d, oi.dst = some d → oj.dst ≠ some d) (hc : noConf ei ej) : appE oj ej (appE oi ei s) = appE oi ei (appE oj ej s) := by
  cases ei with
  | none =>
    cases ej with
    | none => exact put_comm' _ _ _ _ _ hd
    | some q =>
      obtain ⟨n2, f2⟩ := q
      have := put_comm' s oi.dst oj.dst AV.und f2.val hd
      have hh : (s.put oi.dst AV.und).h = s.h := by simp only [St.put]; cases oi.dst <;> rfl
      simp only [appE, St.app, hh]
      have e1 : ({ (s.put oi.dst AV.und).put oj.dst f2.val with h := f2.heap n2 s.h } : St) = { (s.put oj.dst f2.val).put oi.dst AV.und with h := f2.heap n2 s.h } := by rw [this]
      refine e1.trans ?_
      cases oi.dst <;> rfl
  | some p =>
    obtain ⟨n1, f1⟩ := p
    cases ej with
    | none =>
      have := put_comm' s oi.dst oj.dst f1.val AV.und hd
      have hh : (s.put oj.dst AV.und).h = s.h := by simp only [St.put]; cases oj.dst <;> rfl
      simp only [appE, St.app, hh]
      have e1 : ({ (s.put oj.dst AV.und).put oi.dst f1.val with h := f1.heap n1 s.h } : St) = { (s.put oi.dst f1.val).put oj.dst AV.und with h := f1.heap n1 s.h } := by rw [this]
      refine Eq.trans ?_ e1.symm
      cases oj.dst <;> rfl
    | some q =>
      obtain ⟨n2, f2⟩ := q
      have h1 := put_comm' s oi.dst oj.dst f1.val f2.val hd
      have h2 := heap_comm (h := s.h) hei.1 hej.1 hei.2 hej.2 hc
      simp only [appE, St.app, St.put_h]
      rw [h1, h2]

/-- whatever order is picked from here on, with the effects of the table -/
def anyA (P : Program) [Glob P] (ops : Array Oper) (E : Nat → Eff) (Q : St → Prop) : Nat → Array Bool → St → Prop
  | 0, listed, s => Region.ready .any ops listed = [] ∧ Q s
  | fuel + 1, listed, s => (Region.ready .any ops listed = [] → Q s) ∧
    ∀ i ∈ Region.ready .any ops listed, ∃ o, ops[i]? = some o ∧ YE P ops o s (E i) ∧ anyA P ops E Q fuel (listed.setIfInBounds i true) (appE o (E i) s)

def closed (ops : Array Oper) (listed : Array Bool) : Prop := ∀ k, listed.getD k false = true → ∀ o, ops[k]? = some o → ∀ e ∈ o.after, Region.binds .any e = true → listed.getD e.on false = true

theorem closed_set {listed : Array Bool} {i : Nat} (hc : closed ops listed) (hi : i ∈ Region.ready .any ops listed) : closed ops (listed.setIfInBounds i true) := by
  intro k hk o ho e he hb
  by_cases hki : k = i
  · subst hki
    obtain ⟨_, o', ho', hall⟩ := mem_ready.1 hi
    rw [ho] at ho'
    cases ho'
    exact getD_set_true (hall e he hb)
  · rw [getD_set_ne false (Ne.symm hki)] at hk
    exact getD_set_true (hc k hk o ho e he hb)

theorem anyA_first [Glob P] {E : Nat → Eff} {Q : St → Prop} {D : Nat → Nat → Prop} (hD : ∀ listed, closed ops listed → ∀ k, listed.getD k false = true → ∀ i, D i k → listed.getD i false = true) (hD1 : ∀ i j o, ops[j]? = some o → D i j → ∃ e ∈ o.after, Region.binds .any e = true ∧ (e.on = i ∨ D i e.on))
    {i : Nat} {oi : Oper} (hi : ops[i]? = some oi) :
    ∀ (fuel : Nat) (listed : Array Bool) (s : St), closed ops listed →
      (∀ j oj, ops[j]? = some oj → j ≠ i → listed.getD j true = false → (∀ e ∈ oj.after, Region.binds .any e = true → e.on ≠ i) → oi.apart ops oj = true) →
      (∀ j oj, ops[j]? = some oj → j ≠ i → listed.getD j true = false → ¬ D i j → noConf (E i) (E j)) →
      i ∈ Region.ready .any ops listed → YE P ops oi s (E i) →
      anyA P ops E Q fuel (listed.setIfInBounds i true) (appE oi (E i) s) → anyA P ops E Q (fuel + 1) listed s := by
  intro fuel
  induction fuel with
  | zero =>
    intro listed s _ _ _ hr hy H
    refine ⟨fun h => (by rw [h] at hr; cases hr), fun j hj => ?_⟩
    by_cases hji : j = i
    · subst hji; exact ⟨oi, hi, hy, H⟩
    · have := ready_mono hj hji
      rw [H.1] at this
      cases this
  | succ fuel ih =>
    intro listed s hcl hfree hmem hr hy H
    refine ⟨fun h => (by rw [h] at hr; cases hr), fun j hj => ?_⟩
    by_cases hji : j = i
    · subst hji; exact ⟨oi, hi, hy, H⟩
    · obtain ⟨oj, hoj, hyj, hrest⟩ := H.2 j (ready_mono hj hji)
      obtain ⟨hjun, oj', hoj', hall⟩ := mem_ready.1 hj
      rw [hoj] at hoj'
      cases hoj'
      have hiun := (mem_ready.1 hr).1
      have hun : listed.getD i false = false := by
        rcases Nat.lt_or_ge i listed.size with h' | h'
        · simp [h'] at hiun ⊢; exact hiun
        · simp [Array.getElem?_eq_none h'] at hiun
      have hnot : ∀ e ∈ oj.after, Region.binds .any e = true → e.on ≠ i := fun e he hb heq => by
        have h1 := hall e he hb
        rw [heq, hun] at h1
        cases h1
      have hnD : ¬ D i j := by
        intro hd
        obtain ⟨e, he, hb, h1⟩ := hD1 i j oj hoj hd
        rcases h1 with h1 | h1
        · exact hnot e he hb h1
        · have := hD listed hcl e.on (hall e he hb) i h1
          rw [hun] at this
          cases this
      obtain ⟨a1, a2, a3⟩ := Oper.apart_spec (hfree j oj hoj hji hjun hnot)
      have hcf := hmem j oj hoj hji hjun hnD
      have hyj' : YE P ops oj s (E j) := YE.before hy.ok a1 hcf hyj
      refine ⟨oj, hoj, hyj', ?_⟩
      refine ih (listed.setIfInBounds j true) _ (closed_set hcl hj) ?_ ?_ (ready_mono hr (Ne.symm hji)) (YE.behind hyj.ok a3 hcf hy) ?_
      · intro k ok hk hki hku hno
        refine hfree k ok hk hki ?_ hno
        by_cases hjk : j = k
        · subst hjk; exact hjun
        · rw [getD_set_ne true hjk] at hku; exact hku
      · intro k ok hk hki hku hno
        refine hmem k ok hk hki ?_ hno
        by_cases hjk : j = k
        · subst hjk; exact hjun
        · rw [getD_set_ne true hjk] at hku; exact hku
      · rw [Array.setIfInBounds_comm _ _ hji, ← appE_comm hy.ok hyj.ok a2 hcf]
        exact hrest
end
end Go.Ab
end
section
namespace Go.Ab
open Go.RowKit (Below)

def maskOf (acc : List Nat) (o : Oper) : Nat := o.after.toList.foldl (fun s e => if Region.binds .any e then s ||| 2 ^ e.on ||| acc.getD e.on 0 else s) 0

def masks : List Oper → List Nat → List Nat
  | [], acc => acc
  | o :: l, acc => masks l (acc ++ [maskOf acc o])

theorem maskOf_bit {acc : List Nat} {o : Oper} {i : Nat} (h : (maskOf acc o).testBit i = true) : ∃ e ∈ o.after, Region.binds .any e = true ∧ (e.on = i ∨ (acc.getD e.on 0).testBit i = true) := by
  have key : ∀ (l : List Edge) (s : Nat), (l.foldl (fun s e => if Region.binds .any e then s ||| 2 ^ e.on ||| acc.getD e.on 0 else s) s).testBit i = true → s.testBit i = true ∨ ∃ e ∈ l, Region.binds .any e = true ∧ (e.on = i ∨ (acc.getD e.on 0).testBit i = true) := by
    intro l
    induction l with
    | nil => intro s h; exact .inl h
    | cons e l ih =>
      intro s h
      simp only [List.foldl_cons] at h
      rcases ih _ h with h1 | ⟨e', h1, h2⟩
      · split at h1
        · rename_i hb
          simp only [Nat.testBit_or, Bool.or_eq_true, Nat.testBit_two_pow, decide_eq_true_eq] at h1
          rcases h1 with (h1 | h1) | h1
          · exact .inl h1
          · exact .inr ⟨e, by simp, hb, .inl h1⟩
          · exact .inr ⟨e, by simp, hb, .inr h1⟩
        · exact .inl h1
      · exact .inr ⟨e', by simp [h1], h2⟩
  rcases key _ _ h with h | ⟨e, h1, h2⟩
  · simp at h
  · exact ⟨e, by simpa using h1, h2⟩

theorem masks_spec : ∀ (l : List Oper) (acc : List Nat), (masks l acc).take acc.length = acc ∧ (masks l acc).length = acc.length + l.length ∧ ∀ (i : Nat) o, l[i]? = some o → (masks l acc)[acc.length + i]? = some (maskOf ((masks l acc).take (acc.length + i)) o) := by
  intro l
  induction l with
  | nil => intro acc; simp [masks]
  | cons o l ih =>
    intro acc
    obtain ⟨h1, h2, h3⟩ := ih (acc ++ [maskOf acc o])
    simp only [List.length_append, List.length_singleton] at h1 h2 h3
    simp only [masks]
    have ht : (masks l (acc ++ [maskOf acc o])).take acc.length = acc := by
      have := congrArg (List.take acc.length) h1
      rw [List.take_take, Nat.min_eq_left (by omega)] at this
      rw [this]; simp
    refine ⟨ht, by rw [h2]; simp; omega, fun i o' ho => ?_⟩
    cases i with
    | zero =>
      simp at ho
      subst ho
      rw [Nat.add_zero, ht]
      have := congrArg (fun l => l[acc.length]?) h1
      simp only [List.getElem?_take] at this
      rw [if_pos (by omega)] at this
      rw [this]; simp
    | succ i =>
      simp at ho
      have := h3 i o' ho
      rw [show acc.length + (i + 1) = acc.length + 1 + i from by omega]
      exact this

def depB (tab : List Nat) (i j : Nat) : Prop := (tab.getD j 0).testBit i = true

theorem dep1 {l : List Oper} {i j : Nat} {o : Oper} (ho : l[j]? = some o) (h : depB (masks l []) i j) : ∃ e ∈ o.after, Region.binds .any e = true ∧ (e.on = i ∨ (e.on < j ∧ depB (masks l []) i e.on)) := by
  obtain ⟨_, h2, h3⟩ := masks_spec l []
  have := h3 j o ho
  simp only [List.length_nil, Nat.zero_add] at this
  unfold depB at h
  rw [List.getD_eq_getElem?_getD, this, Option.getD_some] at h
  obtain ⟨e, he, hb, h4⟩ := maskOf_bit h
  refine ⟨e, he, hb, ?_⟩
  rcases h4 with h4 | h4
  · exact .inl h4
  · refine .inr ?_
    rw [List.getD_eq_getElem?_getD, List.getElem?_take] at h4
    split at h4
    · rename_i hlt
      exact ⟨hlt, by unfold depB; rw [List.getD_eq_getElem?_getD]; exact h4⟩
    · simp at h4

theorem dep2 {l : List Oper} {listed : Array Bool} (hc : closed l.toArray listed) : ∀ k, listed.getD k false = true → ∀ i, depB (masks l []) i k → listed.getD i false = true := by
  intro k
  induction k using Nat.strongRecOn with
  | _ k ih =>
    intro hk i hd
    cases ho : l[k]? with
    | none =>
      obtain ⟨_, h2, _⟩ := masks_spec l []
      unfold depB at hd
      rw [List.getD_eq_getElem?_getD, List.getElem?_eq_none (by rw [h2]; simpa using ho)] at hd
      simp at hd
    | some o =>
      obtain ⟨e, he, hb, h1⟩ := dep1 ho hd
      have hl := hc k hk o (by simpa using ho) e he hb
      rcases h1 with rfl | ⟨hlt, h1⟩
      · exact hl
      · exact ih e.on hlt hl i h1

section
variable {P : Program}

def RunL (P : Program) [Glob P] (ops : Array Oper) : List Oper → St → List Eff → St → Prop
  | [], s, [], s' => s = s'
  | o :: l, s, e :: es, s' => YE P ops o s e ∧ RunL P ops l (appE o e s) es s'
  | _, _, _, _ => False

theorem anyA_lex [Glob P] {L : List Oper} {E : Nat → Eff} {Q : St → Prop} (hmem : ∀ i j, i < j → j < L.length → ¬ depB (masks L []) i j → noConf (E i) (E j)) :
    ∀ (l : List Oper) (k : Nat) (listed : Array Bool) (s s' : St) (es : List Eff), (∀ j, l[j]? = L.toArray[k + j]?) → closed L.toArray listed → (∀ j, listed.getD j true = false → k ≤ j) → Region.lexFrom .any L.toArray l.length k listed = true →
      (∀ j : Nat, j < es.length → E (k + j) = es.getD j none) → RunL P L.toArray l s es s' → Q s' → anyA P L.toArray E Q l.length listed s
  | [], k, listed, s, s', es, _, _, _, hB, _, hR, hQ => by
    cases es with
    | nil => simp only [RunL] at hR; subst hR; exact ⟨by simpa [Region.lexFrom] using hB, hQ⟩
    | cons e es => simp [RunL] at hR
  | o :: l, k, listed, s, s', es, hl, hcl, hlist, hB, hE, hR, hQ => by
    have h0 : L.toArray[k]? = some o := by simpa using (hl 0).symm
    simp only [List.length_cons, Region.lexFrom, Bool.and_eq_true] at hB
    obtain ⟨⟨hr, hf⟩, hB'⟩ := hB
    cases es with
    | nil => simp [RunL] at hR
    | cons e es =>
      obtain ⟨hy, hR⟩ := hR
      have hEk : E k = e := by simpa using hE 0 (by simp)
      have hr' : k ∈ Region.ready .any L.toArray listed := by simpa using hr
      refine anyA_first (D := depB (masks L [])) (fun listed hc k hk i hd => dep2 hc k hk i hd) (fun i j o ho hd => ?_) h0 l.length listed s hcl (Region.free_spec h0 hf) ?_ hr' (by rw [hEk]; exact hy) ?_
      · obtain ⟨e, he, hb, h1⟩ := dep1 (by simpa using ho) hd
        exact ⟨e, he, hb, h1.imp id (·.2)⟩
      · intro j oj hj hne hun hnd
        have hkj := hlist j hun
        have hjl : j < L.length := by simpa using (Array.getElem?_eq_some_iff.1 hj).1
        exact hmem k j (by omega) hjl hnd
      · rw [hEk]
        refine anyA_lex hmem l (k + 1) _ _ s' es (fun j => by have := hl (j + 1); simpa [Nat.add_assoc, Nat.add_comm 1 j] using this) (closed_set hcl hr') ?_ hB' ?_ hR hQ
        · intro j hj
          by_cases hjk : k = j
          · subst hjk
            have hlt : k < listed.size := by
              have h1 := (mem_ready.1 hr').1
              rcases Nat.lt_or_ge k listed.size with h' | h'
              · exact h'
              · simp [Array.getElem?_eq_none h'] at h1
            simp [hlt] at hj
          · rw [getD_set_ne true hjk] at hj
            have := hlist j hj
            omega
        · intro j hj
          have := hE (j + 1) (by simp; omega)
          simp only [List.getD_cons_succ] at this
          rw [← this]; congr 1; omega

section
variable {G : Gh} {M0 : Nat → Nat → Prop} {w0 : World} {s : St} {ρ : Nat → Option (Nat × Nat × Nat)} {a : Act} {w : World} {Q' : Exit → Act → World → Prop} {ops : Array Oper}

theorem gA_ok (R : Rel G M0 w0 s ρ a w) {o : Oper} {b : Bool} (h : gA ops o s = some b) : Region.wanted o (yielded ops a.tmps) = b := by
  unfold gA at h
  unfold Region.wanted
  cases hg : o.guard with
  | none => rw [hg] at h; simpa using h
  | some p =>
    obtain ⟨j, want⟩ := p
    rw [hg] at h
    simp only at h ⊢
    split at h
    · rename_i d hd
      split at h
      · rename_i c hc
        cases h
        have := R.tm d
        rw [hc] at this
        have := this.v_inv
        have hy : yielded ops a.tmps j = some c := by
          unfold yielded
          rw [hd]
          simp only [Option.bind_some]
          by_cases hlt : d < a.tmps.size
          · simp [hlt] at this ⊢
            rw [this]
          · simp [hlt, undef] at this
        rw [hy]
        rfl
      · rename_i cs ht
        split at h
        · rename_i he
          cases h
          have e : cs = #[] := Array.isEmpty_iff.1 he
          subst e
          have hy : yielded ops a.tmps j = none := by
            have := R.tm d
            rw [ht] at this
            have := this.v_inv
            unfold yielded
            rw [hd]
            simp only [Option.bind_some]
            by_cases hlt : d < a.tmps.size
            · simp [hlt] at this ⊢
              rw [this]
            · simp [hlt]
          rw [hy]
          rfl
        · cases h
      · cases h
    · cases h

theorem anyA_sound [Glob P] (hgl : Glob.ok P w0) {E : Nat → Eff} {Q : St → Prop} (hQ : ∀ s' ρ' a' w', Q s' → Rel G M0 w0 s' ρ' a' w' → Q' .normal a' w') :
    ∀ (fuel : Nat) (listed : Array Bool) (s : St) (ρ : Nat → Option (Nat × Nat × Nat)) (a : Act) (w : World), Rel G M0 w0 s ρ a w → anyA P ops E Q fuel listed s → wpAny P .any ops Q' fuel listed a w := by
  intro fuel
  induction fuel with
  | zero => intro listed s ρ a w R h; exact ⟨h.1, hQ _ _ _ _ h.2 R⟩
  | succ fuel ih =>
    intro listed s ρ a w R h
    refine ⟨fun h0 => hQ _ _ _ _ (h.1 h0) R, fun i hi => ?_⟩
    obtain ⟨o, ho, hy, hrest⟩ := h.2 i hi
    obtain ⟨hd, hy⟩ := hy
    unfold wpOp
    rw [ho]
    simp only
    cases hE : E i with
    | none =>
      rw [hE] at hy hrest
      simp only at hy
      rw [gA_ok R hy, if_neg (by simp)]
      exact ih _ _ _ _ _ (R.pure hd (.v _)) hrest
    | some p =>
      obtain ⟨nid, fx⟩ := p
      rw [hE] at hy hrest
      simp only at hy
      rw [gA_ok R hy.1, if_pos rfl]
      exact .inl (ex_sound hgl R hd hy.2.2 hy.2.1 fun ρ' a' w' R' => ih _ _ _ _ _ R' hrest)

theorem draw_sound [Glob P] (hgl : Glob.ok P w0) {id : Nat} {L : List Oper} {es : List Eff} {s' : St} (hm : P.follows .mixedOrders = true) (R : Rel G M0 w0 s ρ a w) (hB : Region.lexB .any L.toArray = true)
    (hmem : ∀ i j, i < j → j < L.length → ¬ depB (masks L []) i j → noConf (es.getD i none) (es.getD j none)) (hR : RunL P L.toArray L s es s') (hQ : ∀ ρ' a' w', Rel G M0 w0 s' ρ' a' w' → Q' .normal a' w') : (Code.region id L.toArray true).wp P Q' a w := by
  simp only [Region.lexB, Bool.and_eq_true] at hB
  refine wp_region_any hm ?_
  refine anyA_sound hgl (E := fun i => es.getD i none) (Q := fun t => t = s') (fun s1 ρ' a' w' e R' => by subst e; exact hQ _ _ _ R') _ _ s ρ a w.drew R.drew ?_
  have hsz : L.toArray.size = L.length := by simp
  rw [hsz] at hB ⊢
  refine anyA_lex hmem L 0 _ s s' es (by simp) ?_ (fun j _ => Nat.zero_le _) hB.2 (fun j hj => by simp) hR rfl
  intro k hk
  exfalso
  simp only [Array.getD_eq_getD_getElem?, Array.getElem?_replicate] at hk
  split at hk <;> simp at hk
end
end
end Go.Ab
end
section
namespace Go.Ab
open Go.RowKit (Below)

abbrev Log := List (Option (Nat × List Foot))

def disjB : Option (Nat × Nat × Nat) → Option (Nat × Nat × Nat) → Bool
  | some (i, lo, hi), some (i', lo', hi') => i != i' || Nat.ble hi lo' || Nat.ble hi' lo
  | _, _ => false

def confB : Option (Nat × List Foot) → Option (Nat × List Foot) → Bool
  | some (n1, f1), some (n2, f2) => f1.all (fun p => f2.all fun q => p.1 != q.1 || !(p.2.2 || q.2.2) || disjB p.2.1 q.2.1) && f1.all (fun p => !(Nat.ble n2 p.1 && Nat.blt p.1 (n2 + 8))) &&
      f2.all (fun p => !(Nat.ble n1 p.1 && Nat.blt p.1 (n1 + 8))) && (Nat.ble (n1 + 8) n2 || Nat.ble (n2 + 8) n1)
  | _, _ => true

def checkL (tab : List Nat) (log : Log) : Bool := (List.range log.length).all fun j => (List.range j).all fun i => (tab.getD j 0).testBit i || confB (log.getD i none) (log.getD j none)

def effLog (e : Eff) : Option (Nat × List Foot) := e.map fun p => (p.1, p.2.fp)

theorem disjB_ok {a b : Option (Nat × Nat × Nat)} (h : disjB a b = true) : disj a b := by
  cases a <;> cases b <;> simp only [disjB, disj] at h ⊢ <;> try (cases h; done)
  simp at h
  omega

theorem confB_ok {e1 e2 : Eff} (h : confB (effLog e1) (effLog e2) = true) : noConf e1 e2 := by
  cases e1 <;> cases e2 <;> simp only [noConf]
  rename_i p q
  obtain ⟨n1, f1⟩ := p
  obtain ⟨n2, f2⟩ := q
  simp only [effLog, Option.map_some, confB, Bool.and_eq_true, List.all_eq_true, Bool.or_eq_true, Bool.not_eq_true', Bool.and_eq_false_iff] at h
  obtain ⟨⟨⟨h1, h2⟩, h3⟩, h4⟩ := h
  refine ⟨fun p hp q hq e w => ?_, fun p hp hh => ?_, fun p hp hh => ?_, ?_⟩
  · have := h1 p hp q hq
    rcases this with (h | h) | h
    · simp [e] at h
    · rcases w with w | w <;> simp [w] at h
    · exact disjB_ok h
  · have := h2 p hp
    rcases this with h | h
    · rw [Nat.ble_eq_true_of_le hh.1] at h; cases h
    · have h5 : Nat.blt p.1 (n2 + 8) = true := by rw [Nat.blt_eq]; exact hh.2
      rw [h5] at h; cases h
  · have := h3 p hp
    rcases this with h | h
    · rw [Nat.ble_eq_true_of_le hh.1] at h; cases h
    · have h5 : Nat.blt p.1 (n1 + 8) = true := by rw [Nat.blt_eq]; exact hh.2
      rw [h5] at h; cases h
  · rcases h4 with h | h
    · exact .inl (Nat.le_of_ble_eq_true h)
    · exact .inr (Nat.le_of_ble_eq_true h)

def callFD (P : Program) [Glob P] (rest : LS → Log → (LS → Prop) → Prop) (d : Option Tmp) (s : LS) (log : Log) (N : LS → Prop) (f : FuncId) (xs : List AV) : Prop :=
  ∃ n ys, xs.mapM (frz (LS.hf s.h) n) = some ys ∧ ∃ y rows, CallOK P f ys y rows ∧ (rows s.nx).length ≤ 8 ∧
    ∃ lend : Bool, (lend = true → rows s.nx = [] ∧ (y s.nx).flat = true) ∧
    rest (s.app d { val := y s.nx, fp := (xs.flatMap (frzIds (LS.hf s.h) n)).map (fun p => (p.1, none, !lend)), fro := if lend then [] else xs.flatMap (frzIds (LS.hf s.h) n), new := rows s.nx })
      (log ++ [some (s.nx, (xs.flatMap (frzIds (LS.hf s.h) n)).map (fun p => (p.1, none, !lend)))]) N

def callD (P : Program) [Glob P] (rest : LS → Log → (LS → Prop) → Prop) (d : Option Tmp) (s : LS) (log : Log) (N : LS → Prop) (fv : AV) (xs : List AV) : Prop :=
  match fv with
  | .fn f caps => callFD P rest d s log N f (xs ++ caps)
  | _ => False

def endD (rest : LS → Log → (LS → Prop) → Prop) (d : Option Tmp) (s : LS) (log : Log) (N : LS → Prop) : Option (Prop × Fx) → Prop
  | some (c, fx) => c ∧ rest (s.app d fx) (log ++ [some (s.nx, fx.fp)]) N
  | none => False

def goD (P : Program) [Glob P] (rest : LS → Log → (LS → Prop) → Prop) (d : Option Tmp) (op : Op) (s : LS) (log : Log) (N : LS → Prop) : Prop :=
  match op with
  | .call c => match c.callee with
    | .value fv => callD P rest d s log N (LS.ev s.t fv) (c.args.toList.map (LS.ev s.t))
    | _ => endD rest d s log N (stepC P op s.t s.h s.nx)
  | op => endD rest d s log N (stepC P op s.t s.h s.nx)

def gdT (P : Program) [Glob P] (rest : LS → Log → (LS → Prop) → Prop) (d : Option Tmp) (op : Op) (s : LS) (log : Log) (N : LS → Prop) (want : Bool) (g : Tmp) (b : Bool) : Prop :=
  (b = want → dstC s d ∧ goD P rest d op (s.put (some g) (.v (.bool want))) log N) ∧ (b = (!want) → dstC s d ∧ rest ((s.put (some g) (.v (.bool (!want)))).put d AV.und) (log ++ [none]) N)

def gdD (P : Program) [Glob P] (rest : LS → Log → (LS → Prop) → Prop) (d : Option Tmp) (op : Op) (s : LS) (log : Log) (N : LS → Prop) (want : Bool) (g : Tmp) : AV → Prop
  | .v (.bool b) => gdT P rest d op s log N want g b
  | .v (.tuple cs) => cs.isEmpty = true ∧ dstC s d ∧ rest (s.put d AV.und) (log ++ [none]) N
  | _ => False

section
variable {P : Program} {rest : LS → Log → (LS → Prop) → Prop} {d : Option Tmp} {op : Op} {s : LS} {log : Log} {N : LS → Prop} {g : Tmp}
theorem gdD_b [Glob P] {want : Bool} {b : Bool} : gdD P rest d op s log N want g (.v (.bool b)) = gdT P rest d op s log N want g b := rfl
theorem gdD_und [Glob P] {want : Bool} : gdD P rest d op s log N want g AV.und = (dstC s d ∧ rest (s.put d AV.und) (log ++ [none]) N) := by simp [gdD, AV.und, undef]
theorem gdT_tt [Glob P] : gdT P rest d op s log N true g true = (dstC s d ∧ goD P rest d op (s.put (some g) (.v (.bool true))) log N) := by simp [gdT]
theorem gdT_ff [Glob P] : gdT P rest d op s log N false g false = (dstC s d ∧ goD P rest d op (s.put (some g) (.v (.bool false))) log N) := by simp [gdT]
theorem gdT_tf [Glob P] : gdT P rest d op s log N true g false = (dstC s d ∧ rest ((s.put (some g) (.v (.bool false))).put d AV.und) (log ++ [none]) N) := by simp [gdT]
theorem gdT_ft [Glob P] : gdT P rest d op s log N false g true = (dstC s d ∧ rest ((s.put (some g) (.v (.bool true))).put d AV.und) (log ++ [none]) N) := by simp [gdT]
theorem gdT_t [Glob P] {p : Prop} [Decidable p] : gdT P rest d op s log N true g (decide p) = ((p → dstC s d ∧ goD P rest d op (s.put (some g) (.v (.bool true))) log N) ∧ (¬ p → dstC s d ∧ rest ((s.put (some g) (.v (.bool false))).put d AV.und) (log ++ [none]) N)) := by simp [gdT]
theorem gdT_f [Glob P] {p : Prop} [Decidable p] : gdT P rest d op s log N false g (decide p) = ((p → dstC s d ∧ rest ((s.put (some g) (.v (.bool true))).put d AV.und) (log ++ [none]) N) ∧ (¬ p → dstC s d ∧ goD P rest d op (s.put (some g) (.v (.bool false))) log N)) := by
  simp only [gdT, decide_eq_false_iff_not, Bool.not_false, decide_eq_true_eq]
  exact propext And.comm
theorem gdT_tb [Glob P] {b : Bool} (h1 : b = true → dstC s d ∧ goD P rest d op (s.put (some g) (.v (.bool true))) log N) (h2 : b = false → dstC s d ∧ rest ((s.put (some g) (.v (.bool false))).put d AV.und) (log ++ [none]) N) : gdT P rest d op s log N true g b := ⟨h1, h2⟩
theorem gdT_fb [Glob P] {b : Bool} (h1 : b = false → dstC s d ∧ goD P rest d op (s.put (some g) (.v (.bool false))) log N) (h2 : b = true → dstC s d ∧ rest ((s.put (some g) (.v (.bool true))).put d AV.und) (log ++ [none]) N) : gdT P rest d op s log N false g b := ⟨h1, h2⟩
end

def runD (P : Program) [Glob P] (ops : List (Option Tmp)) (mk : List Nat) : List Oper → LS → Log → (LS → Prop) → Prop
  | [], s, log, N => checkL mk log = true ∧ N s
  | o :: rest, s, log, N => match o.guard with
    | none => dstC s o.dst ∧ goD P (runD P ops mk rest) o.dst o.op s log N
    | some (j, want) => match ops.getD j none with
      | some g => gdD P (runD P ops mk rest) o.dst o.op s log N want g (LS.tf s.t g)
      | none => False

section
variable {P : Program}

theorem goD_sound [Glob P] {ops : List Oper} {rest : List Oper} {o : Oper} {s : LS} {log : Log} {N : LS → Prop} (hok : s.ok) (hd : dstC s o.dst) (hg : gA ops.toArray o s.toSt = some true)
    (ih : ∀ s log N, s.ok → runD P (tabOf ops) (masks ops []) rest s log N → ∃ es s', es.length = rest.length ∧ RunL P ops.toArray rest s.toSt es s'.toSt ∧ checkL (masks ops []) (log ++ es.map effLog) = true ∧ N s' ∧ s'.ok)
    (h : goD P (runD P (tabOf ops) (masks ops []) rest) o.dst o.op s log N) :
    ∃ es s', es.length = rest.length + 1 ∧ RunL P ops.toArray (o :: rest) s.toSt es s'.toSt ∧ checkL (masks ops []) (log ++ es.map effLog) = true ∧ N s' ∧ s'.ok := by
  have fin : ∀ fx, ex P o s.toSt s.nx fx → runD P (tabOf ops) (masks ops []) rest (s.app o.dst fx) (log ++ [some (s.nx, fx.fp)]) N →
      ∃ es s', es.length = rest.length + 1 ∧ RunL P ops.toArray (o :: rest) s.toSt es s'.toSt ∧ checkL (masks ops []) (log ++ es.map effLog) = true ∧ N s' ∧ s'.ok := by
    intro fx hx h
    obtain ⟨h1, h2⟩ := app_toSt hok (dstC_ok hd) hx
    obtain ⟨es, s', g1, g2, g3, g4, g5⟩ := ih _ _ _ h2 h
    refine ⟨some (s.nx, fx) :: es, s', by simp [g1], ⟨⟨dstC_ok hd, hg, hx, fun k _ => LS.free hok (by omega)⟩, ?_⟩, ?_, g4, g5⟩
    · rw [h1] at g2; exact g2
    · simpa [effLog] using g3
  have fin2 : endD (runD P (tabOf ops) (masks ops []) rest) o.dst s log N (stepC P o.op s.t s.h s.nx) →
      ∃ es s', es.length = rest.length + 1 ∧ RunL P ops.toArray (o :: rest) s.toSt es s'.toSt ∧ checkL (masks ops []) (log ++ es.map effLog) = true ∧ N s' ∧ s'.ok := by
    intro h
    cases hst : stepC P o.op s.t s.h s.nx with
    | none => rw [hst] at h; exact h.elim
    | some p =>
      obtain ⟨c, fx⟩ := p
      rw [hst] at h
      exact fin fx (stepC_sound hst h.1) h.2
  unfold goD at h
  split at h
  · rename_i c ho
    split at h
    · rename_i fv hfv
      unfold callD at h
      split at h
      · rename_i f caps hf
        obtain ⟨n, ys, h1, y, rows, h2, h3, lend, hlend, h4⟩ := h
        refine fin _ ?_ h4
        unfold ex
        rw [ho]
        simp only [hfv]
        have e : s.toSt.ev = LS.ev s.t := funext fun x => LS.ev_eq s x
        rw [e]
        exact ⟨f, caps, hf, n, ys, h1, y, rows, h2, h3, lend, hlend, rfl⟩
      · exact h.elim
    · exact fin2 h
  · exact fin2 h

theorem runD_sound [Glob P] {ops : List Oper} : ∀ (l : List Oper) (s : LS) (log : Log) (N : LS → Prop), s.ok → runD P (tabOf ops) (masks ops []) l s log N →
    ∃ es s', es.length = l.length ∧ RunL P ops.toArray l s.toSt es s'.toSt ∧ checkL (masks ops []) (log ++ es.map effLog) = true ∧ N s' ∧ s'.ok := by
  intro l
  induction l with
  | nil => intro s log N hok h; exact ⟨[], s, rfl, rfl, by simpa using h.1, h.2, hok⟩
  | cons o rest ih =>
    intro s log N hok h
    simp only [runD, tabOf_get] at h
    split at h
    · rename_i hg
      exact goD_sound hok h.1 (by unfold gA; rw [hg]) ih h.2
    · rename_i j want hg
      split at h
      · rename_i g hg2
        unfold gdD at h
        split at h
        · rename_i b hb
          unfold gdT at h
          have hgA : gA ops.toArray o s.toSt = some (b == want) := by
            unfold gA
            rw [hg]
            simp only [List.getElem?_toArray, hg2]
            have : s.toSt.t g = .v (.bool b) := hb
            rw [this]
          by_cases hbw : b = want
          · obtain ⟨h1, h2⟩ := h.1 hbw
            rw [put_same (by rw [hb, hbw])] at h2
            exact goD_sound hok h1 (by rw [hgA, hbw]; simp) ih h2
          · have hbn : b = !want := by cases b <;> cases want <;> simp_all
            obtain ⟨h1, h2⟩ := h.2 hbn
            rw [put_same (by rw [hb, hbn])] at h2
            have hok' : (s.put o.dst AV.und).ok := by cases hd : o.dst <;> exact hok
            obtain ⟨es, s', g1, g2, g3, g4, g5⟩ := ih _ _ _ hok' h2
            refine ⟨none :: es, s', by simp [g1], ⟨⟨dstC_ok h1, ?_⟩, ?_⟩, ?_, g4, g5⟩
            · simp only [hgA, hbn]; cases want <;> rfl
            · rw [LS.put_toSt (dstC_ok h1)] at g2; exact g2
            · simpa [effLog] using g3
        · rename_i cs hb
          obtain ⟨h0, h1, h2⟩ := h
          have hgA : gA ops.toArray o s.toSt = some false := by
            unfold gA
            rw [hg]
            simp only [List.getElem?_toArray, hg2]
            have : s.toSt.t g = .v (.tuple cs) := hb
            rw [this]
            simp [h0]
          have hok' : (s.put o.dst AV.und).ok := by cases hd : o.dst <;> exact hok
          obtain ⟨es, s', g1, g2, g3, g4, g5⟩ := ih _ _ _ hok' h2
          refine ⟨none :: es, s', by simp [g1], ⟨⟨dstC_ok h1, hgA⟩, ?_⟩, ?_, g4, g5⟩
          · rw [LS.put_toSt (dstC_ok h1)] at g2; exact g2
          · simpa [effLog] using g3
        · exact h.elim
      · exact h.elim

/-- a region whose order the tape draws -/
theorem ak_regD [Glob P] {id : Nat} {l : List Oper} {k : List KF} {s : LS} {K : Exit → LS → Prop} (hm : P.follows .mixedOrders = true) (hB : Region.lexB .any l.toArray = true)
    (h : ∀ N : LS → Prop, (∀ s, kont P K k .normal s → N s) → ∀ mk, masks l [] = mk → runD P (tabOf l) mk l s [] N) : AK P (.region id l.toArray true) k s K := by
  intro G M0 w0 ρ a w Q hg R hQ
  obtain ⟨es, s', h1, h2, h3, h4, h5⟩ := runD_sound l s [] _ R.2 (h _ (fun _ k => k) _ rfl)
  refine draw_sound hg hm R.1 hB ?_ h2 fun ρ' a' w' R' => hQ _ _ _ _ _ h4 ⟨R', h5⟩
  intro i j hij hj hnd
  simp only [List.nil_append, checkL, List.length_map, List.all_eq_true, List.mem_range, Bool.or_eq_true] at h3
  rcases h3 j (by omega) i hij with g | g
  · exact absurd g hnd
  · have e : ∀ i, i < es.length → (es.map effLog).getD i none = effLog (es.getD i none) := by
      intro i hi
      simp [List.getD_eq_getElem?_getD, hi]
    rw [e i (by omega), e j (by omega)] at g
    exact confB_ok g
end
section
variable {P : Program} {ops : List (Option Tmp)} {mk : List Nat} {s : LS} {log : Log} {N : LS → Prop}
theorem runD_nil [Glob P] : runD P ops mk [] s log N = (checkL mk log = true ∧ N s) := rfl
theorem runD_cons [Glob P] {o : Oper} {rest : List Oper} : runD P ops mk (o :: rest) s log N = (match o.guard with
    | none => dstC s o.dst ∧ goD P (runD P ops mk rest) o.dst o.op s log N
    | some (j, want) => match ops.getD j none with
      | some g => gdD P (runD P ops mk rest) o.dst o.op s log N want g (LS.tf s.t g)
      | none => False) := rfl

theorem callFD_intro [Glob P] {rest : LS → Log → (LS → Prop) → Prop} {d : Option Tmp} {f : FuncId} {xs ys : List AV} {y : AV} (C : CallOK P f ys (fun _ => y) (fun _ => []))
    (h1 : xs.mapM (frz (LS.hf s.h) 6) = some ys) (h2 : xs.flatMap (frzIds (LS.hf s.h) 6) = []) (h : rest (s.app d ⟨y, [], none, [], none, []⟩) (log ++ [some (s.nx, [])]) N) : callFD P rest d s log N f xs :=
  ⟨6, ys, h1, _, _, C, Nat.zero_le 8, false, (fun h => nomatch h), by rw [h2]; exact h⟩
theorem callFD_gen [Glob P] {rest : LS → Log → (LS → Prop) → Prop} {d : Option Tmp} {f : FuncId} {xs ys : List AV} {y : Nat → AV} {rows : Nat → List Row} (C : CallOK P f ys y rows) {ids : List (Nat × Nat)}
    (h1 : xs.mapM (frz (LS.hf s.h) 6) = some ys) (h2 : xs.flatMap (frzIds (LS.hf s.h) 6) = ids) (hr : (rows s.nx).length ≤ 8)
    (h : rest (s.app d ⟨y s.nx, ids.map (fun p => (p.1, none, true)), none, ids, none, rows s.nx⟩) (log ++ [some (s.nx, ids.map (fun p => (p.1, none, true)))]) N) : callFD P rest d s log N f xs :=
  ⟨6, ys, h1, _, _, C, hr, false, (fun h => nomatch h), by rw [h2]; exact h⟩
theorem callFD_lend [Glob P] {rest : LS → Log → (LS → Prop) → Prop} {d : Option Tmp} {f : FuncId} {xs ys : List AV} {y : AV} (C : CallOK P f ys (fun _ => y) (fun _ => [])) (hy : y.flat = true) {ids : List (Nat × Nat)}
    (h1 : xs.mapM (frz (LS.hf s.h) 6) = some ys) (h2 : xs.flatMap (frzIds (LS.hf s.h) 6) = ids)
    (h : rest (s.app d ⟨y, ids.map (fun p => (p.1, none, false)), none, [], none, []⟩) (log ++ [some (s.nx, ids.map (fun p => (p.1, none, false)))]) N) : callFD P rest d s log N f xs :=
  ⟨6, ys, h1, _, _, C, Nat.zero_le 8, true, (fun _ => ⟨rfl, hy⟩), by rw [h2]; exact h⟩

theorem callFD_fix [Glob P] {rest : LS → Log → (LS → Prop) → Prop} {d : Option Tmp} {f : FuncId} {xs : List AV} {y : AV} (C : CallOK P f xs (fun _ => y) (fun _ => []))
    (hx : xs.all (AV.fixed 6) = true) (h : rest (s.app d ⟨y, [], none, [], none, []⟩) (log ++ [some (s.nx, [])]) N) : callFD P rest d s log N f xs :=
  callFD_intro C (mapM_fixed (fun x hx => (frz_fixed _ 6 x hx).1) _ hx) (flatMap_fixed (fun x hx => (frz_fixed _ 6 x hx).2) _ hx) h
end

theorem one_v (x : Value) : AV.one (.v x) = x.oneCell' := rfl
theorem one_dead : AV.one .dead = false := rfl
theorem one_agg (cs : List AV) : AV.one (.agg cs) = false := rfl
theorem one_tup (cs : List AV) : AV.one (.tup cs) = false := rfl
theorem one_anyb : AV.one .anyb = true := rfl
theorem one_imm (c : Bool) (es : List (List AV)) : AV.one (.imm c es) = true := rfl
theorem one_iat (es : List (List AV)) (i k : Nat) : AV.one (.iat es i k) = true := rfl
theorem one_own (id off n : Nat) : AV.one (.own id off n) = true := rfl
theorem one_ptr (id i k : Nat) : AV.one (.ptr id i k) = true := rfl
theorem one_ptx (id i k : Nat) : AV.one (.ptx id i k) = true := rfl
theorem one_fn (f : FuncId) (cs : List AV) : AV.one (.fn f cs) = true := rfl
/-- a fact that no tactic of the walk takes apart -/
structure Keep (p : Prop) : Prop where
  out : p
end Go.Ab
end
section
namespace Go.Ab
open Go.RowKit (Below)
theorem callOK_of_calls {P : Program} [Glob P] {f : FuncId} {xs : List Value} {y : Value} (hc : callable P f)
    (h : ∀ w, Glob.ok P w → Calls P f xs.toArray w fun e w' => e = .returned y ∧ Below w.heap.size w w') :
    CallOK P f (xs.map AV.v) (fun _ => .v y) (fun _ => []) := by
  refine ⟨hc, fun nid M w args hg hM hR => ?_⟩
  have e : args = xs.toArray := by
    obtain ⟨h1, h2⟩ := hR
    apply Array.ext
    · simpa using h1
    · intro i hi1 hi2
      have hx : (xs.map AV.v)[i]? = some (.v xs[i]) := by simp at hi2 ⊢
      have hr := h2 i _ _ hx (Array.getElem?_eq_getElem hi1)
      generalize hv : args[i] = v at hr
      generalize hu : xs[i] = u at hr
      cases hr
      simp [hu]
  subst e
  refine (h w hg).mono fun e w' ⟨he, hb⟩ => ⟨y, fun _ => none, he, ⟨?_, fun _ _ => rfl, ?_, hb, hM⟩, .v _⟩
  · intro id r hh; rw [rowsH, if_neg (by simp)] at hh; cases hh
  · intro id id' r r' b β β' z z' hh; rw [rowsH, if_neg (by simp)] at hh; cases hh
/-- the same, for a tuple of scalars -/
theorem callOK_of_calls2 {P : Program} [Glob P] {f : FuncId} {xs : List Value} {ys : List Value} (hc : callable P f)
    (h : ∀ w, Glob.ok P w → Calls P f xs.toArray w fun e w' => e = .returned (.tuple ys.toArray) ∧ Below w.heap.size w w') :
    CallOK P f (xs.map AV.v) (fun _ => .tup (ys.map AV.v)) (fun _ => []) := by
  refine ⟨hc, fun nid M w args hg hM hR => ?_⟩
  have e : args = xs.toArray := by
    obtain ⟨h1, h2⟩ := hR
    apply Array.ext
    · simpa using h1
    · intro i hi1 hi2
      have hx : (xs.map AV.v)[i]? = some (.v xs[i]) := by simp at hi2 ⊢
      have hr := h2 i _ _ hx (Array.getElem?_eq_getElem hi1)
      generalize hv : args[i] = v at hr
      generalize hu : xs[i] = u at hr
      cases hr
      simp [hu]
  subst e
  refine (h w hg).mono fun e w' ⟨he, hb⟩ => ⟨.tuple ys.toArray, fun _ => none, he, ⟨?_, fun _ _ => rfl, ?_, hb, hM⟩, .tup _ _ (by simp) ?_⟩
  · intro id r hh; rw [rowsH, if_neg (by simp)] at hh; cases hh
  · intro id id' r r' b β β' z z' hh; rw [rowsH, if_neg (by simp)] at hh; cases hh
  · intro i x u h1 h2
    simp only [List.getElem?_map, Option.map_eq_some_iff, List.getElem?_toArray] at h1 h2
    obtain ⟨a, h3, rfl⟩ := h1
    rw [h3] at h2
    cases h2
    exact .v _
end Go.Ab
end
section
namespace Go.Ab
open Go.RowKit Go.ChangeShapes Go.WideShapes Go.ChangeAt Go.Deep

/-- the form of plain data, cell by cell -/
inductive Sh where
  | int (k : IntKind)
  | bool
  | str
  | slice (e : Sh)
  | row (l : List Sh)

mutual
/-- cells of that form -/
def Sh.ok : Sh → List AV → Prop
  | .int k, cs => ∃ n : Int, cs = [.v (.int k n)] ∧ (Lit.int k n).wf = true
  | .bool, cs => ∃ b, cs = [.v (.bool b)]
  | .str, cs => ∃ s : ByteArray, cs = [.v (.string s)] ∧ s.size ≤ maxLen
  | .slice e, cs => ∃ es : List (List AV), cs = [.imm false es] ∧ es.length ≤ maxLen ∧ ∀ x ∈ es, Sh.ok e x
  | .row l, cs => Sh.okL l cs
def Sh.okL : List Sh → List AV → Prop
  | [], cs => cs = []
  | s :: l, cs => ∃ a b, cs = a ++ b ∧ Sh.ok s a ∧ Sh.okL l b
end

def shF (P : Program) (rec : TypeId → Option Sh) : List Field → Nat → Option (List Sh × Nat)
  | [], o => some ([], o)
  | f :: fs, o => if f.offset = o then (rec f.type).bind fun s => (shF P rec fs (o + P.cellsOf f.type)).map fun p => (s :: p.1, p.2) else none

def shOf (P : Program) : Nat → TypeId → Option Sh
  | 0, _ => none
  | n + 1, t => match P.underlying t with
    | some (.int k) => some (.int k)
    | some .bool => some .bool
    | some .string => some .str
    | some (.slice e) => if P.cellsOf e ≠ 0 then (shOf P n e).map .slice else none
    | some (.struct fs) => (shF P (shOf P n) fs.toList 0).bind fun p => if p.2 = P.cellsOf t then some (.row p.1) else none
    | some (.array m e) => if m * P.cellsOf e = P.cellsOf t then (shOf P n e).map fun s => .row (List.replicate m s) else none
    | _ => none

section
variable {H : Type} {enc : TypeId × Value → H} {P : Program} {w : World} {base : Nat} {spare : Nat → Bool} {held : Bool}

def RepC (w : World) (as : List AV) (cs : List Value) : Prop := as.length = cs.length ∧ ∀ (i : Nat) (a : AV) (c : Value), as[i]? = some a → cs[i]? = some c → Rep (fun _ _ => False) (fun _ => none) w a c

theorem RepC.nil : RepC w [] [] := ⟨rfl, by simp⟩
theorem RepC.one {a : AV} {c : Value} (h : Rep (fun _ _ => False) (fun _ => none) w a c) : RepC w [a] [c] := ⟨rfl, fun i x y h1 h2 => by
  match i, h1, h2 with
  | 0, h1, h2 => cases h1; cases h2; exact h⟩
theorem RepC.app {as bs : List AV} {cs ds : List Value} (h1 : RepC w as cs) (h2 : RepC w bs ds) : RepC w (as ++ bs) (cs ++ ds) := by
  refine ⟨by simp [h1.1, h2.1], fun i a c g1 g2 => ?_⟩
  by_cases hi : i < as.length
  · rw [List.getElem?_append_left hi] at g1
    rw [List.getElem?_append_left (by have := h1.1; omega)] at g2
    exact h1.2 i a c g1 g2
  · rw [List.getElem?_append_right (by omega)] at g1
    rw [List.getElem?_append_right (by have := h1.1; omega), ← h1.1] at g2
    exact h2.2 _ a c g1 g2

theorem cellsAt {a : Addr} {n : Nat} {cs : List Value} (h : w.cells? base a n = some cs) : cs.length = n ∧ ∀ j, j < n → w.cell? (a.add j) = cs[j]? := by
  unfold World.cells? at h
  split at h
  · have hl := mapM_len h
    simp only [List.length_range] at hl
    refine ⟨hl, fun j hj => ?_⟩
    obtain ⟨y, hy⟩ : ∃ y, cs[j]? = some y := ⟨_, List.getElem?_eq_getElem (by omega)⟩
    obtain ⟨x, h2, h3⟩ := mapM_get h j y hy
    rw [List.getElem?_range hj] at h2
    cases h2
    rw [h3, hy]
  · cases h

theorem spot_of {a : Addr} {c : Value} (h : w.cell? a = some c) : a.spot = none := by
  unfold World.cell? at h
  split at h
  · split at h
    · cases h
    · rename_i h2; simpa using h2
  · cases h

theorem add_flat {a : Addr} (h : a.spot = none) (i : Nat) : a.add i = ⟨a.block, a.off + i, none⟩ := by
  obtain ⟨b, o, sp⟩ := a
  cases h
  unfold Addr.add
  split
  · rename_i h0; subst h0; rfl
  · rfl

theorem open_fields {rec : TypeId → Option Sh} {fuel : Nat} {cs : List Value}
    (ih : ∀ t s cs x, rec t = some s → DataW.trod enc P w base spare held fuel t cs = some x → ∃ as, s.ok as ∧ RepC w as cs) :
    ∀ (fl : List Field) (o : Nat) (p : List Sh × Nat), shF P rec fl o = some p → (∀ f ∈ fl, ∃ y, DataW.trod enc P w base spare held fuel f.type ((cs.drop f.offset).take (P.cellsOf f.type)) = some y) →
    o ≤ p.2 ∧ (p.2 ≤ cs.length → ∃ as, Sh.okL p.1 as ∧ RepC w as ((cs.drop o).take (p.2 - o))) := by
  intro fl
  induction fl with
  | nil => intro o p h _; cases h; exact ⟨Nat.le_refl _, fun _ => ⟨[], rfl, by simp [RepC.nil]⟩⟩
  | cons f fl ihl =>
    intro o p h hf
    simp only [shF] at h
    split at h
    · rename_i ho
      cases hs : rec f.type with
      | none => rw [hs] at h; cases h
      | some s =>
        cases hr : shF P rec fl (o + P.cellsOf f.type) with
        | none => rw [hs, hr] at h; cases h
        | some q =>
          rw [hs, hr] at h
          simp only [Option.bind_some, Option.map_some, Option.some.injEq] at h
          subst h
          obtain ⟨h1, h2⟩ := ihl _ _ hr fun f' hf' => hf f' (List.mem_cons_of_mem _ hf')
          refine ⟨by simp only; omega, fun hz => ?_⟩
          simp only at hz
          obtain ⟨bs, g1, g2⟩ := h2 hz
          obtain ⟨y, hy⟩ := hf f (List.mem_cons_self ..)
          obtain ⟨as, g3, g4⟩ := ih _ _ _ _ hs hy
          refine ⟨as ++ bs, ⟨as, bs, rfl, g3, g1⟩, ?_⟩
          have e : (cs.drop o).take (q.2 - o) = (cs.drop f.offset).take (P.cellsOf f.type) ++ (cs.drop (o + P.cellsOf f.type)).take (q.2 - (o + P.cellsOf f.type)) := by
            rw [ho, ← List.drop_drop, show q.2 - o = P.cellsOf f.type + (q.2 - (o + P.cellsOf f.type)) by omega, List.take_add]
          simp only
          rw [e]
          exact g4.app g2
    · cases h

theorem open_reps {s : Sh} {c : Nat} {cs : List Value} : ∀ (m k : Nat), (∀ i, k ≤ i → i < k + m → ∃ as, s.ok as ∧ RepC w as ((cs.drop (i * c)).take c)) → ∃ as, Sh.okL (List.replicate m s) as ∧ RepC w as ((cs.drop (k * c)).take (m * c)) := by
  intro m
  induction m with
  | zero => intro k _; exact ⟨[], rfl, by simp [RepC.nil]⟩
  | succ m ih =>
    intro k h
    obtain ⟨as, g1, g2⟩ := h k (Nat.le_refl _) (by omega)
    obtain ⟨bs, g3, g4⟩ := ih (k + 1) fun i h1 h2 => h i (by omega) (by omega)
    refine ⟨as ++ bs, ⟨as, bs, rfl, g1, g3⟩, ?_⟩
    have e : (cs.drop (k * c)).take ((m + 1) * c) = (cs.drop (k * c)).take c ++ (cs.drop ((k + 1) * c)).take (m * c) := by
      rw [show (m + 1) * c = c + m * c by rw [Nat.add_mul]; omega, List.take_add, List.drop_drop, show (k + 1) * c = k * c + c by rw [Nat.add_mul]; omega]
    rw [e]
    exact g2.app g4

theorem open_sh : ∀ (n : Nat) (t : TypeId) (s : Sh) (fuel : Nat) (cs : List Value) (x : DataW H × List MemPlace), shOf P n t = some s → DataW.trod enc P w base spare held fuel t cs = some x → ∃ as, s.ok as ∧ RepC w as cs := by
  intro n
  induction n with
  | zero => intro t s fuel cs x h; cases h
  | succ n ih =>
    intro t s fuel cs x h hx
    simp only [shOf] at h
    split at h
    · rename_i k hu
      cases h
      obtain ⟨a, rfl, _, hw⟩ := DataW.trod_int hu hx
      exact ⟨[.v (.int k a)], ⟨a, rfl, hw⟩, .one (.v _)⟩
    · rename_i hu
      cases h
      obtain ⟨b, rfl, _⟩ := DataW.trod_bool hu hx
      exact ⟨[.v (.bool b)], ⟨b, rfl⟩, .one (.v _)⟩
    · rename_i hu
      cases h
      obtain ⟨b, rfl, _, hb⟩ := DataW.trod_string hu hx
      exact ⟨[.v (.string b)], ⟨b, rfl, hb⟩, .one (.v _)⟩
    · rename_i e hu
      split at h
      · rename_i hc
        cases hs : shOf P n e with
        | none => rw [hs] at h; cases h
        | some s' =>
          rw [hs] at h
          cases h
          rcases open_slice hu hx with ⟨rfl, _⟩ | ⟨a, len, cap, m, fu, D, Pl, rfl, _, hlc, hcm, hm, _, hel⟩
          · exact ⟨[.imm false []], ⟨[], rfl, Nat.zero_le _, by simp⟩, .one (.imm false [] none 0 0 0 0 (fun _ _ => undef) (by simp) (by simp) (by simp) (by simp) (by simp) (by simp))⟩
          · have hlm : len ≤ m := by subst hm; split <;> omega
            have key : ∀ i, i < len → ∃ p : List AV × List Value, Sh.ok s' p.1 ∧ RepC w p.1 p.2 ∧ w.cells? base (a.add (i * P.cellsOf e)) (P.cellsOf e) = some p.2 := fun i hi => by
              obtain ⟨cs', h1, h2⟩ := hel i (by omega)
              obtain ⟨as, h3, h4⟩ := ih _ _ _ _ _ hs h2
              exact ⟨(as, cs'), h3, h4, h1⟩
            obtain ⟨f, hf⟩ := choose_lt key
            have hsp : 0 < len → a.spot = none := fun hl => by
              have h1 := (cellsAt (hf 0 hl).2.2).2 0 (by omega)
              rw [List.getElem?_eq_getElem (by rw [(cellsAt (hf 0 hl).2.2).1]; omega)] at h1
              have := spot_of h1
              simpa [Addr.add] using this
            refine ⟨[.imm false ((List.range len).map fun i => (f i).1)], ⟨_, rfl, by simp; omega, fun x hx => ?_⟩, .one ?_⟩
            · simp only [List.mem_map, List.mem_range] at hx
              obtain ⟨i, hi, rfl⟩ := hx
              exact (hf i hi).1
            · have hl : ((List.range len).map fun i => (f i).1).length = len := by simp
              have := @Rep.imm (fun _ _ => False) (fun _ => none) w false ((List.range len).map fun i => (f i).1) (some a) cap a.block a.off (P.cellsOf e) (fun i j => (f i).2.getD j undef) (by omega) (by simp)
                (fun x hx => by
                  simp only [List.mem_map, List.mem_range] at hx
                  obtain ⟨i, hi, rfl⟩ := hx
                  rw [(hf i hi).2.1.1, (cellsAt (hf i hi).2.2).1])
                (fun hne => by
                  have : 0 < len := by
                    rcases Nat.eq_zero_or_pos len with h0 | h0
                    · subst h0; simp at hne
                    · exact h0
                  have := hsp this
                  obtain ⟨b, o, sp⟩ := a
                  cases this; rfl)
                (fun i j hi hj => by
                  rw [hl] at hi
                  refine ⟨fun h => h, ?_⟩
                  obtain ⟨h1, h2⟩ := cellsAt (hf i hi).2.2
                  have h3 := h2 j hj
                  have hs0 := hsp (by omega)
                  rw [add_add, add_flat hs0] at h3
                  rw [show a.off + i * P.cellsOf e + j = a.off + (i * P.cellsOf e + j) by omega, h3, List.getElem?_eq_getElem (by omega), List.getD_eq_getElem?_getD, List.getElem?_eq_getElem (by omega)]
                  rfl)
                (fun i j e' x h1 h2 => by
                  rw [List.getElem?_map] at h1
                  have hi : i < len := by
                    rcases Nat.lt_or_ge i len with h | h
                    · exact h
                    · rw [List.getElem?_eq_none (by simpa using h)] at h1; cases h1
                  rw [List.getElem?_range hi] at h1
                  cases h1
                  obtain ⟨g1, g2⟩ := (hf i hi).2.1
                  have hj : j < (f i).1.length := (List.getElem?_eq_some_iff.1 h2).1
                  exact g2 j x _ h2 (by rw [List.getD_eq_getElem?_getD, List.getElem?_eq_getElem (by omega)]; rfl))
              rw [hl] at this
              exact this
      · cases h
    · rename_i fs hu
      cases hp : shF P (shOf P n) fs.toList 0 with
      | none => rw [hp] at h; cases h
      | some p =>
        rw [hp] at h
        simp only [Option.bind_some] at h
        split at h
        · rename_i hz
          cases h
          obtain ⟨xs, fu, rfl, _, hl, hxl, hxs⟩ := DataW.trod_struct hu hx
          have := open_fields (w := w) (enc := enc) (base := base) (spare := spare) (held := held) (fuel := fu) (cs := cs) (fun t s cs x h1 h2 => ih t s fu cs x h1 h2) fs.toList 0 p hp (fun f hf => by
            obtain ⟨i, hi, rfl⟩ := List.mem_iff_getElem.1 hf
            have hi' : i < fs.size := by simpa using hi
            obtain ⟨y, hy⟩ : ∃ y, xs[i]? = some y := ⟨_, List.getElem?_eq_getElem (by omega)⟩
            exact ⟨y, by rw [hxs i _ (by rw [Array.getElem?_eq_getElem hi']; rfl), hy]⟩)
          obtain ⟨as, g1, g2⟩ := this.2 (by omega)
          refine ⟨as, g1, ?_⟩
          rw [List.drop_zero, Nat.sub_zero, hz, ← hl, List.take_length] at g2
          exact g2
        · cases h
    · rename_i m e hu
      split at h
      · rename_i hz
        cases hs : shOf P n e with
        | none => rw [hs] at h; cases h
        | some s' =>
          rw [hs] at h
          cases h
          obtain ⟨xs, fu, _, _, hl, hxl, hxs⟩ := DataW.trod_array hu hx
          have := open_reps (w := w) (s := s') (c := P.cellsOf e) (cs := cs) m 0 (fun i _ hi => by
            have h1 := hxs i (by omega)
            rw [List.getElem?_eq_getElem (by omega)] at h1
            exact ih _ _ _ _ _ hs h1)
          obtain ⟨as, g1, g2⟩ := this
          refine ⟨as, g1, ?_⟩
          rw [Nat.zero_mul, List.drop_zero, hz, ← hl, List.take_length] at g2
          exact g2
      · cases h
    · cases h
end
end Go.Ab
end
section
namespace Go.Ab
open Go.RowKit Go.ChangeShapes Go.WideShapes Go.ChangeAt Go.Deep

/-- an argument by its form -/
def packS (s : Sh) (as : List AV) : AV := match s with | .row _ => .agg as | _ => as.headD .dead

section
variable {H : Type} {enc : TypeId × Value → H} {P : Program} {w : World} {base : Nat} {spare : Nat → Bool} {held : Bool}

theorem shOf_und {n : Nat} {t : TypeId} {s : Sh} (h : shOf P n t = some s) : ((∃ fs, P.underlying t = some (.struct fs)) ∨ (∃ m e, P.underlying t = some (.array m e))) ∧ (∃ l, s = .row l) ∨
    ((∃ k, P.underlying t = some (.int k)) ∨ P.underlying t = some .bool ∨ P.underlying t = some .string ∨ ∃ e, P.underlying t = some (.slice e)) ∧ ∀ l, s ≠ .row l := by
  cases n with
  | zero => cases h
  | succ n =>
    simp only [shOf] at h
    split at h
    · rename_i k hu; cases h; exact .inr ⟨.inl ⟨k, hu⟩, fun l h => by cases h⟩
    · rename_i hu; cases h; exact .inr ⟨.inr (.inl hu), fun l h => by cases h⟩
    · rename_i hu; cases h; exact .inr ⟨.inr (.inr (.inl hu)), fun l h => by cases h⟩
    · rename_i e hu
      split at h
      · simp only [Option.map_eq_some_iff] at h
        obtain ⟨a, _, rfl⟩ := h
        exact .inr ⟨.inr (.inr (.inr ⟨e, hu⟩)), fun l h => by cases h⟩
      · cases h
    · rename_i fs hu
      simp only [Option.bind_eq_some_iff] at h
      obtain ⟨p, _, h⟩ := h
      split at h
      · cases h; exact .inl ⟨.inl ⟨fs, hu⟩, _, rfl⟩
      · cases h
    · rename_i m e hu
      split at h
      · simp only [Option.map_eq_some_iff] at h
        obtain ⟨a, _, rfl⟩ := h
        exact .inl ⟨.inr ⟨m, e, hu⟩, _, rfl⟩
      · cases h
    · cases h

theorem open_arg {r : Reach} {b0 n : Nat} {t : TypeId} {v : Value} {d : DataW H} {p : List MemPlace} {s : Sh} (hs : shOf P n t = some s) (hv : Value.okWide P w r b0 t v) (h : DataW.Trod enc P w base spare held t v d p) :
    ∃ as, s.ok as ∧ Rep (fun _ _ => False) (fun _ => none) w (packS s as) v := by
  obtain ⟨fuel, hf⟩ := h
  obtain ⟨as, h1, h2⟩ := open_sh n t s fuel _ _ hs hf
  refine ⟨as, h1, ?_⟩
  rcases shOf_und hs with ⟨hu, l, rfl⟩ | ⟨hu, hne⟩
  · have : ∃ cs, v = .agg cs := by
      rcases hu with ⟨fs, hu⟩ | ⟨m, e, hu⟩ <;> simp only [Value.okWide, hu] at hv <;> (obtain ⟨cs, rfl, _⟩ := hv; exact ⟨cs, rfl⟩)
    obtain ⟨cs, rfl⟩ := this
    simp only [Value.cells] at h2
    exact .agg as cs (by simpa using h2.1.symm) fun i x u g1 g2 => h2.2 i x u g1 (by simpa using g2)
  · have : v.cells = #[v] := by
      cases v <;> first | rfl | skip
      exfalso
      rcases hu with ⟨k, hu⟩ | hu | hu | ⟨e, hu⟩ <;> simp only [Value.okWide, Cell.okWide, Cell.ok, hu] at hv
    rw [this] at h2
    have h3 : packS s as = as.headD .dead := by cases s <;> first | rfl | (exact absurd rfl (hne _))
    rw [h3]
    have hl := h2.1
    match as, hl with
    | [a], _ => exact h2.2 0 a v rfl rfl

/-- arguments of these forms -/
def okArgs : List Sh → List AV → Prop
  | [], xs => xs = []
  | s :: ss, xs => ∃ as ys, xs = packS s as :: ys ∧ s.ok as ∧ okArgs ss ys

theorem open_args {r : Reach} {b0 n : Nat} : ∀ (ts : List TypeId) (ss : List Sh) (vs : List Value) (ds : List (DataW H)) (ps : List MemPlace), ts.mapM (shOf P n) = some ss → (∀ (j : Nat) t v, ts[j]? = some t → vs[j]? = some v → Value.okWide P w r b0 t v) →
    DataW.TrodAll enc P w base spare held ts vs ds ps → ∃ xs, okArgs ss xs ∧ xs.length = vs.length ∧ ∀ (i : Nat) x u, xs[i]? = some x → vs[i]? = some u → Rep (fun _ _ => False) (fun _ => none) w x u := by
  intro ts
  induction ts with
  | nil =>
    intro ss vs ds ps hs _ h
    obtain ⟨rfl, _, _⟩ := trodAll_nil h
    cases hs
    exact ⟨[], rfl, rfl, by simp⟩
  | cons t ts ih =>
    intro ss vs ds ps hs hv h
    obtain ⟨v, vs', d, ds', p, q, rfl, rfl, rfl, h1, h2⟩ := trodAll_cons h
    rw [List.mapM_cons] at hs
    cases ht : shOf P n t with
    | none => rw [ht] at hs; cases hs
    | some s =>
      cases hm : ts.mapM (shOf P n) with
      | none => rw [ht, hm] at hs; cases hs
      | some ss' =>
        rw [ht, hm] at hs
        cases hs
        obtain ⟨xs, g1, g2, g3⟩ := ih _ _ _ _ hm (fun j t v e1 e2 => hv (j + 1) t v e1 e2) h2
        obtain ⟨as, g4, g5⟩ := open_arg ht (hv 0 t v rfl rfl) h1
        refine ⟨packS s as :: xs, ⟨as, xs, rfl, g4, g1⟩, by simp [g2], fun i x u e1 e2 => ?_⟩
        cases i with
        | zero => cases e1; cases e2; exact g5
        | succ i => exact g3 i x u e1 e2

theorem again_args {W W' : World} (hl : laidOutB P = true) (hb : Below W.heap.size W W') : ∀ (ts : List TypeId) (vs : List Value) (ds : List (DataW H)) (ps : List MemPlace), (ts.all fun t => P.readableRec t && decide (t < P.types.size)) = true →
    DataW.TrodAll enc P W 0 (fun _ => true) true ts vs ds ps → (∀ x ∈ ps, x.block < W.heap.size) → DataW.TrodAll enc P W' 0 (fun b => decide (b < W.heap.size)) true ts vs ds ps := by
  intro ts
  induction ts with
  | nil =>
    intro vs ds ps _ h _
    obtain ⟨rfl, rfl, rfl⟩ := trodAll_nil h
    exact trodAll_mk0
  | cons t ts ih =>
    intro vs ds ps ha h hp
    obtain ⟨v, vs', d, ds', p, q, rfl, rfl, rfl, h1, h2⟩ := trodAll_cons h
    simp only [List.all_cons, Bool.and_eq_true, decide_eq_true_eq] at ha
    exact trodAll_cons_mk (Below.trod hl ha.1.1 ha.1.2 h1 hb fun x hx => hp x (List.mem_append_left _ hx)) (ih _ _ _ (by simpa using ha.2) h2 fun x hx => hp x (List.mem_append_right _ hx))
end

/-- a row 'it returns true; the arguments read as they did', of plain data, without variables -/
theorem row_lifted {C : Checked} [Glob C.prog] {f : FuncId} {fn : Func} {s : ChangeSpec} {os : Os} {H : Type} {enc : TypeId × Value → H} {ss : List Sh} {tb : TypeId}
    (own : ownKnob C.prog.godebug = none) (started : os.Started) (hin : C.prog.inits.idxOf? f = none) (hfn : C.prog.funcs[f]? = some fn) (args0 : Array Value)
    (w1 : World.variablesB C.prog (World.plainHolding C.prog os ⟨#[], args0, []⟩) = true)
    (w2 : List.take ((begin C.prog (fun _ _ => 0) default).world.heap.size - C.prog.globals.size) (List.drop C.prog.globals.size (World.plainHolding C.prog os ⟨#[], args0, []⟩).heap.toList) = List.drop C.prog.globals.size (begin C.prog (fun _ _ => 0) default).world.heap.toList)
    (w3 : Input.okWideB C.prog (World.plainHolding C.prog os ⟨#[], args0, []⟩) f { blocks := #[], args := args0 } = true)
    (w4 : ChangeSpec.preB enc C.prog fn s [] false (World.plainHolding C.prog os ⟨#[], args0, []⟩).memory args0 8 = true)
    (w5 : ChangeSpec.sizedB enc C.prog fn s false (World.plainHolding C.prog os ⟨#[], args0, []⟩).memory args0 8 = true)
    (hg : ∀ w, Glob.ok C.prog w) (hvars : s.vars = []) (hspec : ∀ ds : List (DataW H), ds.length = fn.params.size → s.fn H (ds ++ []) = { results := [.lit (.bool true)], args := ds })
    (hres : fn.resultTypes = #[tb]) (htb : C.prog.underlying tb = some .bool) (hsh : fn.params.toList.mapM (shOf C.prog 20) = some ss) (hl : laidOutB C.prog = true)
    (hread : (fn.params.toList.all fun t => C.prog.readableRec t && decide (t < C.prog.types.size)) = true)
    (hC : ∀ xs, okArgs ss xs → CallOK C.prog f xs (fun _ => .v (.bool true)) (fun _ => [])) :
    ReturnsInHanded {} C os f .any (s.pre6 enc C.prog fn [] false) (s.post enc C.prog fn false true false false) := by
  refine returnsInHanded_of_change own started hin hfn (ChangeSpec.witness6 (enc := enc) (C := C) false ⟨#[], args0, []⟩ 8 w1 w2 w3 w4 w5) ?_
  intro W base args ds gs before hval hW _ _
  have hW' := hW
  obtain ⟨p, q, hA, hV, rfl, hfz, hnd⟩ := hW
  rw [hvars] at hV
  obtain ⟨rfl, rfl⟩ := trodVars_none hV
  obtain ⟨xs, h1, h2, h3⟩ := open_args (w := W) fn.params.toList ss _ _ _ hsh (fun j t v e1 e2 => hval j t v (by simpa using e1) (by simpa using e2)) hA
  have hlen : ds.length = fn.params.size := by
    have key : ∀ (ts : List TypeId) (vs : List Value) (ds : List (DataW H)) (ps : List MemPlace), DataW.TrodAll enc C.prog W 0 (fun _ => true) true ts vs ds ps → ds.length = ts.length := by
      intro ts
      induction ts with
      | nil => intro vs ds ps h; obtain ⟨_, rfl, _⟩ := trodAll_nil h; rfl
      | cons t ts ih => intro vs ds ps h; obtain ⟨v, vs', d, ds', p, q, rfl, rfl, rfl, _, h2⟩ := trodAll_cons h; simp [ih _ _ _ h2]
    simpa using key _ _ _ _ hA
  refine ((hC xs h1).2 0 (fun _ _ => False) W args (hg W) (fun _ _ h => h.elim) ⟨by simpa using h2.symm, fun i x u e1 e2 => h3 i x u e1 (by simpa using e2)⟩).mono fun e w' ⟨v, ρ, he, hH, hv⟩ => ?_
  cases hv
  subst he
  refine ⟨_, rfl, ds, [], p ++ [], [], p, [], hW', ?_, ?_, ?_, hH.bel.frame _, fun h => by cases h⟩
  · rw [hspec ds hlen, hres]
    exact trodAll_cons_mk (shut_bool htb _) trodAll_mk0
  · rw [hspec ds hlen]
    exact again_args hl hH.bel _ _ _ _ hread hA fun x hx => hW'.lt x (by simpa using hx)
  · rw [hspec ds hlen, hvars]
    rfl
end Go.Ab
end
section
namespace Go.Ab
open Go.RowKit (Below)

theorem hf_froL (ids : List (Nat × Nat)) (l : List (Nat × RS)) : LS.hf (froL ids l) = raise ids (LS.hf l) := by
  funext id
  simp only [LS.hf, raise]
  induction l with
  | nil => rfl
  | cons p l ih =>
    obtain ⟨i, x⟩ := p
    simp only [froL, List.lookup_cons]
    by_cases h : (id == i) = true
    · rw [h]
      have : id = i := by simpa using h
      subst this
      cases x <;> rfl
    · have h : (id == i) = false := by simpa using h
      rw [h]; exact ih
theorem froL_ok {ids : List (Nat × Nat)} {n : Nat} : ∀ {l : List (Nat × RS)}, (∀ p ∈ l, p.1 < n) → ∀ p ∈ froL ids l, p.1 < n := by
  intro l
  induction l with
  | nil => intro _ p hp; cases hp
  | cons q l ih =>
    intro h p hp
    simp only [froL, List.mem_cons] at hp
    rcases hp with rfl | hp
    · exact h q (List.mem_cons_self ..)
    · exact ih (fun p hp => h p (List.mem_cons_of_mem _ hp)) p hp
theorem raise_live {ids : List (Nat × Nat)} {h : Nat → RS} {id : Nat} {r : Row} (hr : raise ids h id = .live r) : ∃ r0, h id = .live r0 ∧ r = { r0 with fro := froTo ids id r0.fro } := by
  unfold raise at hr
  split at hr
  · rename_i r0 h0; cases hr; exact ⟨r0, h0, rfl⟩
  · rename_i hn; exact absurd hr (hn _)
theorem raise_else {ids : List (Nat × Nat)} {h : Nat → RS} {id : Nat} {x : RS} (hr : raise ids h id = x) (hx : ∀ r, x ≠ .live r) : h id = x := by
  unfold raise at hr
  split at hr
  · exact absurd hr.symm (hx _)
  · exact hr

/-- a value of the call's own, taken for good as it stands -/
theorem weak_frz {s : LS} (d n : Nat) (y : AV) (h : frz (LS.hf s.h) n (LS.tf s.t d) = some y) : Weak s ⟨s.t.set d y, froL (frzIds (LS.hf s.h) n (LS.tf s.t d)) s.h, s.nx⟩ := by
  intro G M0 w0 ρ a w ⟨R, hok⟩
  refine ⟨ρ, ?_, froL_ok hok⟩
  generalize hids : frzIds (LS.hf s.h) n (LS.tf s.t d) = ids
  have hH : LS.hf (froL ids s.h) = raise ids s.toSt.h := hf_froL ids s.h
  have hy : Rep (Mof M0 ρ (raise ids s.toSt.h)) (fun _ => none) w y (a.tmps.getD d undef) := frz_sound R.toH ids n _ y _ (fun p hp => by rw [← hids]; exact hp) h (R.tm d)
  refine { n := ?_, tm := fun t => ?_, live := fun id r hr => ?_, free := fun id hr => ?_, inj := fun id id' r r' b β β' z z' h1 h2 h3 h4 => ?_, bel := R.bel, m0 := R.m0, defers := R.defers, gho := fun id k cs hg i x hx => ?_, frm := fun x u hx => ?_, mps := fun id b q f hm => ?_ }
  · show a.tmps.size = (s.t.set d y).length
    rw [List.length_set]; exact R.n
  · show Rep (Mof M0 ρ (LS.hf (froL ids s.h))) ρ w (LS.tf (s.t.set d y) t) _
    rw [hH]
    unfold LS.tf
    rw [List.getD_eq_getElem?_getD, List.getElem?_set]
    by_cases ht : d = t
    · subst ht
      by_cases hl : d < s.t.length
      · simp only [hl, if_true, Option.getD_some]; exact hy.up
      · simp only [hl, if_false, if_true, Option.getD_none]; exact .dead _
    · rw [if_neg ht, ← List.getD_eq_getElem?_getD]; exact (R.tm t).raise
  · have hr : LS.hf (froL ids s.h) id = .live r := hr
    rw [hH] at hr
    obtain ⟨r0, h0, rfl⟩ := raise_live hr
    obtain ⟨b, β, arr, e, l1, l2, l3, l4, l5, l6⟩ := R.live id r0 h0
    refine ⟨b, β, arr, e, l1, l2, l3, l4, l5, fun i j e x u g1 g2 g3 => ?_⟩
    show Rep (Mof M0 ρ (LS.hf (froL ids s.h))) ρ w x u
    rw [hH]; exact (l6 i j e x u g1 g2 g3).raise
  · have hr : LS.hf (froL ids s.h) id = .free := hr
    rw [hH] at hr
    exact R.free id (raise_else hr fun r h => by cases h)
  · have h1 : LS.hf (froL ids s.h) id = .live r := h1
    have h2 : LS.hf (froL ids s.h) id' = .live r' := h2
    rw [hH] at h1 h2
    obtain ⟨r0, g0, _⟩ := raise_live h1
    obtain ⟨r1, g1, _⟩ := raise_live h2
    exact R.inj id id' r0 r1 b β β' z z' g0 g1 h3 h4
  · have hg : LS.hf (froL ids s.h) id = .ghost k cs := hg
    rw [hH] at hg
    show Rep (Mof M0 ρ (LS.hf (froL ids s.h))) ρ w x _
    rw [hH]
    exact (R.gho id k cs (raise_else hg fun r h => by cases h) i x hx).raise
  · show Rep (Mof M0 ρ (LS.hf (froL ids s.h))) _ w x u
    rw [hH]; exact (R.frm x u hx).mono (fun _ _ h => h) (fun _ _ _ g1 g2 => ⟨fun g => g1 (Mof_raise g), g2⟩) (fun _ _ h => h)
  · have hm : LS.hf (froL ids s.h) id = .mp b q f := hm
    rw [hH] at hm
    exact R.mps id b q f (raise_else hm fun r h => by cases h)

/-- the same, step by step in a text -/
theorem ak_frz {P : Program} [Glob P] {c : Code} {k : List KF} {s : LS} {K : Exit → LS → Prop} (d : Nat) {y : AV} {ids : List (Nat × Nat)} (h : frz (LS.hf s.h) 6 (LS.tf s.t d) = some y) (hi : frzIds (LS.hf s.h) 6 (LS.tf s.t d) = ids)
    (h' : AK P c k ⟨s.t.set d y, froL ids s.h, s.nx⟩ K) : AK P c k s K := by
  subst hi
  exact ak_weak (weak_frz d 6 y h) h'

theorem splice_nil (e : List AV) : splice e 0 [] = e := by cases e <;> rfl
theorem splice_one (y : AV) : ∀ (e : List AV) (k : Nat), splice e k [y] = e.set k y := by
  intro e
  induction e with
  | nil => intro k; rfl
  | cons x e ih =>
    intro k
    cases k with
    | zero => simp [splice, splice_nil]
    | succ k => simp [splice, ih]
theorem hf_wrL (id i k : Nat) (cs : List AV) (l : List (Nat × RS)) (id' : Nat) : LS.hf (wrL id i k cs l) id' = if id' = id then (match LS.hf l id with | .live r => .live { r with es := r.es.modify i (fun e => splice e k cs) } | x => x) else LS.hf l id' := by
  simp only [LS.hf]
  induction l with
  | nil => simp [wrL]
  | cons p l ih =>
    obtain ⟨i0, x⟩ := p
    simp only [wrL]
    by_cases h : i0 = id
    · subst h
      simp only [if_true, List.lookup_cons]
      by_cases h2 : id' = i0
      · subst h2; cases x <;> simp
      · have : (id' == i0) = false := by simpa using h2
        rw [this]; simp only [if_neg h2]
        rw [ih, if_neg h2]
    · rw [if_neg h]
      simp only [List.lookup_cons]
      by_cases h2 : id' = i0
      · subst h2
        simp only [beq_self_eq_true, if_neg h, Option.getD_some]
      · have : (id' == i0) = false := by simpa using h2
        rw [this]
        have h3 : (id == i0) = false := by simpa using Ne.symm h
        rw [h3]; exact ih
theorem wrL_ok {id i k : Nat} {cs : List AV} {n : Nat} : ∀ {l : List (Nat × RS)}, (∀ p ∈ l, p.1 < n) → ∀ p ∈ wrL id i k cs l, p.1 < n := by
  intro l
  induction l with
  | nil => intro _ p hp; cases hp
  | cons q l ih =>
    intro h p hp
    obtain ⟨i0, x⟩ := q
    simp only [wrL] at hp
    split at hp <;> (simp only [List.mem_cons] at hp; rcases hp with rfl | hp; exact h (i0, x) (List.mem_cons_self ..); exact ih (fun p hp => h p (List.mem_cons_of_mem _ hp)) p hp)

/-- a value in memory of the call's own, taken for good as it stands -/
theorem weak_frzR {s : LS} (id i j n : Nat) (x y : AV) {r : Row} (hr : LS.hf s.h id = .live r) (hx : (r.es[i]?).bind (·[j]?) = some x) (h : frz (LS.hf s.h) n x = some y) : Weak s ⟨s.t, froL (frzIds (LS.hf s.h) n x) (wrL id i j [y] s.h), s.nx⟩ := by
  intro G M0 w0 ρ a w ⟨R, hok⟩
  refine ⟨ρ, ?_, froL_ok (wrL_ok hok)⟩
  generalize hids : frzIds (LS.hf s.h) n x = ids
  have hH : ∀ id', LS.hf (froL ids (wrL id i j [y] s.h)) id' = if id' = id then .live ⟨r.sz, r.es.modify i (fun e => e.set j y), froTo ids id r.fro⟩ else raise ids (LS.hf s.h) id' := by
    intro id'
    rw [hf_froL]
    unfold raise
    rw [hf_wrL, hr]
    by_cases h : id' = id
    · subst h; simp [splice_one]
    · simp [h]
  have hM : ∀ b o, Mof M0 ρ (LS.hf (froL ids (wrL id i j [y] s.h))) b o → Mof M0 ρ (raise ids (LS.hf s.h)) b o := by
    rintro b o (g | ⟨id', q, β, z, h1, h2, h3⟩)
    · exact .inl g
    · rw [hH] at h1
      split at h1
      · rename_i e
        cases h1
        exact .inr ⟨id, { r with fro := froTo ids id r.fro }, β, z, by unfold raise; rw [hr], by rw [← e]; exact h2, h3⟩
      · exact .inr ⟨id', q, β, z, h1, h2, h3⟩
  have inH : ∀ {x : AV} {u : Value} {ρ' : Nat → Option (Nat × Nat × Nat)}, Rep (Mof M0 ρ (raise ids (LS.hf s.h))) ρ' w x u → Rep (Mof M0 ρ (LS.hf (froL ids (wrL id i j [y] s.h)))) ρ' w x u := fun hx =>
    hx.mono (fun _ _ h => h) (fun _ _ _ g1 g2 => ⟨fun g => g1 (hM _ _ g), g2⟩) (fun _ _ h => h)
  have up : ∀ {x : AV} {u : Value} {ρ' : Nat → Option (Nat × Nat × Nat)}, Rep (Mof M0 ρ (LS.hf s.h)) ρ' w x u → Rep (Mof M0 ρ (LS.hf (froL ids (wrL id i j [y] s.h)))) ρ' w x u := fun hx =>
    inH (hx.mono (fun _ _ h => h) (fun _ _ _ g1 g2 => ⟨fun g => g1 (Mof_raise g), g2⟩) (fun _ _ h => h))
  refine { n := R.n, tm := fun t => up (R.tm t), live := fun id' r' hr' => ?_, free := fun id' hr' => ?_, inj := fun id1 id2 r1 r2 b β β' z z' h1 h2 h3 h4 => ?_, bel := R.bel, m0 := R.m0, defers := R.defers, gho := fun id' k cs hg i' x' hx' => ?_, frm := fun x u hx => up (R.frm x u hx), mps := fun id' b q f hm => ?_ }
  · have hr' : LS.hf (froL ids (wrL id i j [y] s.h)) id' = .live r' := hr'
    rw [hH] at hr'
    split at hr'
    · rename_i e
      subst e
      cases hr'
      obtain ⟨b, β, arr, e, l1, l2, l3, l4, l5, l6⟩ := R.live id' r hr
      refine ⟨b, β, arr, e, l1, l2, l3, by simpa using l4, fun e0 he0 => ?_, fun i' j' e0 x0 u g1 g2 g3 => ?_⟩
      · obtain ⟨m, hm, rfl⟩ := List.mem_iff_getElem.1 he0
        have hm' : m < r.es.length := by simpa using hm
        rw [List.getElem_modify]
        split
        · rw [List.length_set]; exact l5 _ (List.getElem_mem hm')
        · exact l5 _ (List.getElem_mem hm')
      · rw [List.getElem?_modify] at g1
        cases hq : r.es[i']? with
        | none => rw [hq] at g1; cases g1
        | some e1 =>
          rw [hq] at g1
          simp only [Option.map_eq_map, Option.map_some, Option.some.injEq] at g1
          by_cases hi : i = i'
          · subst hi
            rw [if_pos rfl] at g1
            subst g1
            rw [List.getElem?_set] at g2
            by_cases hj : j = j'
            · subst hj
              rw [if_pos rfl] at g2
              split at g2
              · cases g2
                rw [hq] at hx
                exact (inH (frz_sound R.toH ids n x y u (fun p hp => by rw [← hids]; exact hp) h (l6 i j e1 x u hq hx g3))).up
              · cases g2
            · rw [if_neg hj] at g2
              exact up (l6 i j' e1 x0 u hq g2 g3)
          · rw [if_neg hi] at g1
            subst g1
            exact up (l6 i' j' e1 x0 u hq g2 g3)
    · obtain ⟨r0, h0, rfl⟩ := raise_live hr'
      obtain ⟨b, β, arr, e, l1, l2, l3, l4, l5, l6⟩ := R.live id' r0 h0
      exact ⟨b, β, arr, e, l1, l2, l3, l4, l5, fun i j e x u g1 g2 g3 => up (l6 i j e x u g1 g2 g3)⟩
  · have hr' : LS.hf (froL ids (wrL id i j [y] s.h)) id' = .free := hr'
    rw [hH] at hr'
    split at hr'
    · cases hr'
    · exact R.free id' (raise_else hr' fun r h => by cases h)
  · have key : ∀ {id' r'}, LS.hf (froL ids (wrL id i j [y] s.h)) id' = .live r' → ∃ r0, LS.hf s.h id' = .live r0 := by
      intro id' r' h
      rw [hH] at h
      split at h
      · rename_i e; subst e; exact ⟨r, hr⟩
      · obtain ⟨r0, h0, _⟩ := raise_live h; exact ⟨r0, h0⟩
    obtain ⟨q1, g1⟩ := key h1
    obtain ⟨q2, g2⟩ := key h2
    exact R.inj id1 id2 q1 q2 b β β' z z' g1 g2 h3 h4
  · have hg : LS.hf (froL ids (wrL id i j [y] s.h)) id' = .ghost k cs := hg
    rw [hH] at hg
    split at hg
    · cases hg
    · exact up (R.gho id' k cs (raise_else hg fun r h => by cases h) i' x' hx')
  · have hm : LS.hf (froL ids (wrL id i j [y] s.h)) id' = .mp b q f := hm
    rw [hH] at hm
    split at hm
    · cases hm
    · exact R.mps id' b q f (raise_else hm fun r h => by cases h)
theorem ak_frzR {P : Program} [Glob P] {c : Code} {k : List KF} {s : LS} {K : Exit → LS → Prop} (id i j : Nat) {x y : AV} {r : Row} {ids : List (Nat × Nat)} (hr : LS.hf s.h id = .live r) (hx : (r.es[i]?).bind (·[j]?) = some x) (h : frz (LS.hf s.h) 6 x = some y) (hi : frzIds (LS.hf s.h) 6 x = ids)
    (h' : AK P c k ⟨s.t, froL ids (wrL id i j [y] s.h), s.nx⟩ K) : AK P c k s K := by
  subst hi
  exact ak_weak (weak_frzR id i j 6 x y hr hx h) h'
/-- ways that part and meet again in a state of which some values are not told -/
theorem ak_joinx {P : Program} [Glob P] {x z : Code} {k : List KF} {s : LS} {K : Exit → LS → Prop} {α : Type} (S : α → LS) (I : α → Prop) (h1 : AK P x [] s (thenA (fun s' => ∃ a, I a ∧ Weak s' (S a)) (kont P K k))) (h2 : ∀ a, I a → AK P z k (S a) K) : AK P (.seq x z) k s K := by
  refine awp_seq (AWP.mono h1 fun e s' h => ?_)
  cases e with
  | normal =>
    obtain ⟨a, hI, hw⟩ := h
    exact AWP.weak hw (h2 a hI)
  | _ => exact h
theorem joinx_end {α : Type} {S : α → LS} {I : α → Prop} {s s' : LS} {keep ids : List Nat} (a : α) (h : compact keep ids s = some s') (e : s' = S a) (hI : I a) : ∃ a, Keep (I a) ∧ Weak s (S a) := ⟨a, ⟨hI⟩, weak_of h e⟩
end Go.Ab
end
