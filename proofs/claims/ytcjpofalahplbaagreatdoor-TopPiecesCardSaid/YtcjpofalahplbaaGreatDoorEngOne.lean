/- A part of the proof that radiolinktop.TopPieces returns true for every list of numbers. -/
import Derived.WalkKit
section
namespace Go.Eng
inductive Tr (α : Type) where
  | lf
  | nd (v : Option α) (l r : Tr α)
namespace Tr
variable {α : Type}
noncomputable def sel {β : Type} (k : Nat) (z : β) (a b : Nat → β) : β :=
  Nat.rec (motive := fun _ => β) z (fun j _ => Bool.rec (motive := fun _ => β) (b (Nat.div j 2)) (a (Nat.div j 2)) (Nat.beq (Nat.mod j 2) 0)) k
noncomputable def get (t : Tr α) : Nat → Option α :=
  Tr.rec (motive := fun _ => Nat → Option α) (fun _ => none) (fun v _ _ gl gr k => sel k v gl gr) t
noncomputable def putAux (x : α) (f : Nat) : Nat → Tr α → Tr α :=
  Nat.rec (motive := fun _ => Nat → Tr α → Tr α) (fun _ t => t)
    (fun _ ih k t => Tr.rec (motive := fun _ => Tr α)
      (sel k (nd (some x) lf lf) (fun j => nd none (ih j lf) lf) (fun j => nd none lf (ih j lf)))
      (fun v l r _ _ => sel k (nd (some x) l r) (fun j => nd v (ih j l) r) (fun j => nd v l (ih j r))) t) f
noncomputable def put (f : Nat) (t : Tr α) (k : Nat) (x : α) : Tr α := putAux x f k t
theorem sel_zero {β : Type} (z : β) (a b : Nat → β) : sel 0 z a b = z := rfl
theorem sel_succ {β : Type} (j : Nat) (z : β) (a b : Nat → β) : sel (j + 1) z a b = if j % 2 = 0 then a (j / 2) else b (j / 2) := by
  have h : sel (j + 1) z a b = Bool.rec (motive := fun _ => β) (b (j / 2)) (a (j / 2)) (Nat.beq (j % 2) 0) := rfl
  rw [h]
  by_cases hj : j % 2 = 0
  · rw [if_pos hj, hj]; rfl
  · have h1 : j % 2 = 1 := by omega
    rw [if_neg hj, h1]; rfl
theorem get_lf (k : Nat) : (lf : Tr α).get k = none := rfl
theorem get_nd (v : Option α) (l r : Tr α) (k : Nat) : (nd v l r).get k = sel k v l.get r.get := rfl
theorem put_succ_lf (x : α) (f k : Nat) : put (f + 1) lf k x = sel k (nd (some x) lf lf) (fun j => nd none (put f lf j x) lf) (fun j => nd none lf (put f lf j x)) := rfl
theorem put_succ_nd (x : α) (f k : Nat) (v : Option α) (l r : Tr α) : put (f + 1) (nd v l r) k x = sel k (nd (some x) l r) (fun j => nd v (put f l j x) r) (fun j => nd v l (put f r j x)) := rfl
theorem get_put : ∀ (f : Nat) (t : Tr α) (k : Nat) (x : α) (j : Nat), k < 2 ^ f - 1 → (put f t k x).get j = if j = k then some x else t.get j := by
  intro f
  induction f with
  | zero => intro t k x j h; simp at h
  | succ f ih =>
    intro t k x j h
    have hp : 0 < 2 ^ f := Nat.two_pow_pos f
    have h2 : 2 ^ (f + 1) = 2 * 2 ^ f := by rw [Nat.pow_succ]; omega
    cases t with
    | lf =>
      rw [put_succ_lf]
      cases k with
      | zero => cases j <;> simp [sel_zero, sel_succ, get_nd, get_lf]
      | succ k =>
        rw [sel_succ]
        by_cases hk : k % 2 = 0
        · rw [if_pos hk]
          cases j with
          | zero => simp [get_nd, get_lf, sel_zero]
          | succ j =>
            rw [get_nd, sel_succ, get_lf]
            by_cases hj : j % 2 = 0
            · rw [if_pos hj, ih _ _ _ _ (by omega), get_lf]
              by_cases e : j = k
              · subst e; simp
              · rw [if_neg (by omega), if_neg (by omega)]; rfl
            · rw [if_neg hj, if_neg (by omega), get_lf]
        · rw [if_neg hk]
          cases j with
          | zero => simp [get_nd, get_lf, sel_zero]
          | succ j =>
            rw [get_nd, sel_succ, get_lf]
            by_cases hj : j % 2 = 0
            · rw [if_pos hj, if_neg (by omega), get_lf]
            · rw [if_neg hj, ih _ _ _ _ (by omega), get_lf]
              by_cases e : j = k
              · subst e; simp
              · rw [if_neg (by omega), if_neg (by omega)]; rfl
    | nd v l r =>
      rw [put_succ_nd]
      cases k with
      | zero => cases j <;> simp [sel_zero, sel_succ, get_nd]
      | succ k =>
        rw [sel_succ]
        by_cases hk : k % 2 = 0
        · rw [if_pos hk]
          cases j with
          | zero => simp [get_nd, sel_zero]
          | succ j =>
            rw [get_nd, get_nd, sel_succ, sel_succ]
            by_cases hj : j % 2 = 0
            · rw [if_pos hj, if_pos hj, ih _ _ _ _ (by omega)]
              by_cases e : j = k
              · subst e; simp
              · rw [if_neg (by omega), if_neg (by omega)]
            · rw [if_neg hj, if_neg hj, if_neg (by omega)]
        · rw [if_neg hk]
          cases j with
          | zero => simp [get_nd, sel_zero]
          | succ j =>
            rw [get_nd, get_nd, sel_succ, sel_succ]
            by_cases hj : j % 2 = 0
            · rw [if_pos hj, if_pos hj, if_neg (by omega)]
            · rw [if_neg hj, if_neg hj, ih _ _ _ _ (by omega)]
              by_cases e : j = k
              · subst e; simp
              · rw [if_neg (by omega), if_neg (by omega)]
end Tr
end Go.Eng
end
section
set_option linter.unusedVariables false
namespace Go.Eng
open Go Go.RowKit

/-! ### Abstract values -/
inductive AV where
  /-- a value that is itself: a number, a bool, a string, a nil -/
  | sc (v : Value)
  /-- a pointer into a block of the abstract heap -/
  | ptr (b off : Nat)
  /-- a slice of such a block; its capacity, if it is known; the cells of an element -/
  | sl (b off len : Nat) (cap : Option Nat) (sz : Nat)
  /-- a slice that is read alone, by its cells; 'own': it lies in memory made since the run began -/
  | ro (own : Bool) (cells : List AV) (len : Nat) (cap : Option Nat) (sz : Nat)
  /-- a pointer through which is read alone, by the cells from it on -/
  | rp (own : Bool) (cells : List AV)
  | fn (f : FuncId) (first captured : List AV)
  | ifc (t : TypeId) (v : AV)
  | agg (cs : List AV)
  | tup (vs : List AV)
  /-- whatever -/
  | any

def undefA : AV := .tup []

def ofVal1 : Value → AV
  | .agg cs => .agg (cs.toList.map .sc)
  | v => .sc v
def ofVal : Value → AV
  | .tuple vs => .tup (vs.toList.map ofVal1)
  | v => ofVal1 v

def allSc : List AV → Option (List Value)
  | [] => some []
  | .sc v :: r => match allSc r with | some l => some (v :: l) | none => none
  | _ :: _ => none
def toVal : AV → Option Value
  | .sc v => some v
  | .agg cs => match allSc cs with | some l => some (.agg l.toArray) | none => none
  | _ => none
def AV.cells : AV → List AV
  | .agg cs => cs
  | v => [v]
def AV.one : AV → Bool
  | .agg _ | .tup _ | .any => false
  | .sc (.agg _) | .sc (.tuple _) => false
  | _ => true

def pv (P : Program) {α : Type} : Sem α → Option α
  | .pure a => some a
  | .program k => pv P (k P)
  | _ => none

/-! ### The heap -/
structure Blk where
  cells : List AV
  alive : Bool
structure Hp where
  n : Nat
  t : Tr Blk
  wl : List Nat
noncomputable def Hp.get (h : Hp) (b : Nat) : Option Blk := h.t.get b
def fuelT : Nat := 30
noncomputable def Hp.set (h : Hp) (b : Nat) (x : Blk) : Hp := match h with | ⟨n, t, wl⟩ => ⟨n, t.put fuelT b x, wl⟩
noncomputable def Hp.new (h : Hp) (cells : List AV) : Hp := match h with | ⟨n, t, wl⟩ => ⟨n + 1, t.put fuelT n ⟨cells, true⟩, wl⟩
def Hp.log (h : Hp) (b : Nat) : Hp := match h with | ⟨n, t, wl⟩ => ⟨n, t, b :: wl⟩
def Hp.wlSet (h : Hp) (l : List Nat) : Hp := match h with | ⟨n, t, _⟩ => ⟨n, t, l⟩
def Hp.empty : Hp := ⟨0, .lf, []⟩
noncomputable def Hp.read (h : Hp) (b off n : Nat) : Option (List AV) :=
  match h.get b with
  | some ⟨cs, true⟩ => let r := (cs.drop off).take n; if r.length = n then some r else none
  | _ => none
def setMany : List AV → Nat → List AV → List AV
  | cs, _, [] => cs
  | cs, i, x :: xs => setMany (cs.set i x) (i + 1) xs
noncomputable def Hp.write (h : Hp) (b off : Nat) (xs : List AV) : Option Hp :=
  match h.get b with
  | some ⟨cs, true⟩ => if off + xs.length ≤ cs.length then some ((h.set b ⟨setMany cs off xs, true⟩).log b) else none
  | _ => none

/-! ### Operations without memory -/
section
variable (P : Program) (ev : Operand → Option AV)

def szOf (t : TypeId) : Option Nat := match P.info? t with | some i => some i.size | none => none
def isAggT (t : TypeId) : Option Bool := match P.underlying t with
  | some (.struct _) | some (.array _ _) => some true
  | some _ => some false
  | none => none

def asIx : AV → Option Int
  | .sc (.int _ i) => some i
  | _ => none

def partA (t : TypeId) (cs : List AV) (off : Nat) : Option AV :=
  match isAggT P t, szOf P t with
  | some true, some n => let r := (cs.drop off).take n; if r.length = n then some (.agg r) else none
  | some false, _ => cs[off]?
  | _, _ => none

def fieldA (s : TypeId) (x : AV) (f : Nat) : Option AV :=
  match P.underlying s with
  | some (.struct fs) => match fs[f]? with
    | some fd => match szOf P fd.type with
      | some (_ + 1) => (match x with
        | .ptr b o => some (.ptr b (o + fd.offset))
        | .rp w cs => if fd.offset ≤ cs.length then some (.rp w (cs.drop fd.offset)) else none
        | _ => none)
      | _ => none
    | none => none
  | _ => none

def indexA (t : TypeId) (x ix : AV) : Option AV :=
  match asIx ix with
  | none => none
  | some i => match P.underlying t with
    | some (.array len e) => match szOf P e with
      | some sz => if 0 ≤ i ∧ i < len then (match x with
        | .ptr b o => some (.ptr b (o + i.toNat * sz))
        | .rp w cs => if i.toNat * sz ≤ cs.length then some (.rp w (cs.drop (i.toNat * sz))) else none
        | _ => none) else none
      | none => none
    | some (.slice e) => match szOf P e with
      | some sz => (match x with
        | .sl b o len _ s => if s = sz then if 0 ≤ i ∧ i < len then some (.ptr b (o + i.toNat * sz)) else none else none
        | .ro w cs len _ s => if s = sz ∧ sz ≠ 0 then if 0 ≤ i ∧ i < len then some (.rp w (cs.drop (i.toNat * sz))) else none else none
        | _ => none)
      | none => none
    | _ => none

def boundA (x : Option (Option AV)) (d : Nat) : Option Int :=
  match x with
  | none => some d
  | some (some v) => asIx v
  | some none => none

def cutA (len : Nat) (cap : Option Nat) (lo hi mx : Option (Option AV)) : Option (Nat × Nat × Option Nat) :=
  match boundA lo 0, boundA hi len with
  | some l, some h => match mx with
    | none => match cap with
      | some c => if 0 ≤ l ∧ l ≤ h ∧ h ≤ c then some (l.toNat, h.toNat - l.toNat, some (c - l.toNat)) else none
      | none => if 0 ≤ l ∧ l ≤ h ∧ h ≤ len then some (l.toNat, h.toNat - l.toNat, none) else none
    | some m => match hi, boundA (some m) 0 with
      | some _, some m => if 0 ≤ l ∧ l ≤ h ∧ h ≤ m ∧ m ≤ (match cap with | some c => c | none => len) then some (l.toNat, h.toNat - l.toNat, some (m.toNat - l.toNat)) else none
      | _, _ => none
  | _, _ => none

def sliceA (t : TypeId) (x : AV) (lo hi mx : Option (Option AV)) : Option AV :=
  match P.underlying t with
  | some (.slice e) => match szOf P e with
    | some sz => (match x with
      | .sl b o len cap s => if s = sz then (match cutA len cap lo hi mx with
        | some (l, n, c) => some (.sl b (o + l * sz) n c sz)
        | none => none) else none
      | .ro w cs len cap s => if s = sz then (match cutA len cap lo hi mx with
        | some (l, n, c) => if l + n ≤ len then some (.ro w ((cs.drop (l * sz)).take (n * sz)) n c sz) else none
        | none => none) else none
      | .sc (.slice none 0 0) => (match cutA 0 (some 0) lo hi mx with
        | some _ => some (.sc (.slice none 0 0))
        | none => none)
      | _ => none)
    | none => none
  | some (.array n e) => match szOf P e with
    | some sz => (match x with
      | .ptr b o => (match cutA n (some n) lo hi mx with
        | some (l, m, c) => some (.sl b (o + l * sz) m c sz)
        | none => none)
      | _ => none)
    | none => none
  | some .string => (match x with
    | .sc (.string s) => (match mx, cutA s.size (some s.size) lo hi none with
      | none, some (l, n, _) => some (.sc (.string (s.extract l (l + n))))
      | _, _ => none)
    | _ => none)
  | _ => none

def evL : List Operand → Option (List AV)
  | [] => some []
  | x :: r => match ev x, evL r with
    | some v, some l => some (v :: l)
    | _, _ => none
def evP : List (Nat × Operand) → Option (List (Nat × AV))
  | [] => some []
  | (i, x) :: r => match ev x, evP r with
    | some v, some l => some ((i, v) :: l)
    | _, _ => none

def fillA (place : Nat → Option (Nat × Nat)) (cells : List AV) : List (Nat × AV) → Option (List AV)
  | [] => some cells
  | (i, v) :: rest => match place i with
    | none => none
    | some (off, size) =>
      if v.cells.length = size ∧ off + v.cells.length ≤ cells.length ∧ (v.cells.all AV.one) = true then fillA place (setMany cells off v.cells) rest else none

def zeroA (t : TypeId) : Option (List AV) := match P.info? t with
  | some i => match i.zero with
    | some z => some (z.cells.toList.map .sc)
    | none => none
  | none => none

def placesA (fs : Array Field) : Option (List (Nat × Nat)) := go fs.toList
where go : List Field → Option (List (Nat × Nat))
  | [] => some []
  | f :: r => match szOf P f.type, go r with
    | some s, some l => some ((f.offset, s) :: l)
    | _, _ => none

def buildA (t : TypeId) (parts : List (Nat × AV)) : Option AV :=
  match zeroA P t with
  | none => none
  | some z => match P.underlying t with
    | some (.struct fs) => match placesA P fs with
      | some ps => (match fillA (fun i => ps[i]?) z parts with
        | some cs => some (.agg cs)
        | none => none)
      | none => none
    | some (.array _ e) => match szOf P e with
      | some sz => (match fillA (fun i => some (i * sz, sz)) z parts with
        | some cs => some (.agg cs)
        | none => none)
      | none => none
    | _ => none

def lenA (t : TypeId) (x : AV) : Option AV :=
  match P.underlying t with
  | some (.slice _) => (match x with
    | .sl _ _ n _ _ => some (.sc (goInt n))
    | .ro _ _ n _ _ => some (.sc (goInt n))
    | .sc (.slice none n 0) => some (.sc (goInt n))
    | _ => none)
  | some .string => (match x with
    | .sc (.string s) => some (.sc (goInt s.size))
    | _ => none)
  | some (.array n _) => some (.sc (goInt n))
  | _ => none
def capA (t : TypeId) (x : AV) : Option AV :=
  match P.underlying t with
  | some (.slice _) => (match x with
    | .sl _ _ _ (some c) _ => some (.sc (goInt c))
    | .ro _ _ _ (some c) _ => some (.sc (goInt c))
    | .sc (.slice none _ n) => some (.sc (goInt n))
    | _ => none)
  | _ => none

def isNilSl : AV → Bool
  | .sc (.slice none _ _) => true
  | _ => false
def someSl : AV → Bool
  | .sl .. => true
  | .ro _ _ (_ + 1) _ _ => true
  | _ => false
def binA (op : BinOp) (t : TypeId) (x y : Operand) (a b : AV) : Option AV :=
  match toVal a, toVal b with
  | some u, some v => (match pv P (do eqGuard op t x y u v; binOp op t u v) with
    | some r => some (.sc r)
    | none => none)
  | _, _ =>
    if (someSl a && isNilSl b) || (isNilSl a && someSl b) then
      (match P.underlying t, op with
      | some (.slice _), .eql => some (.sc (.bool false))
      | some (.slice _), .neq => some (.sc (.bool true))
      | _, _ => none)
    else none

def fastInt (op : BinOp) (k : IntKind) (a b : Int) : Option Value := match op with
  | .add => some (.int k (k.wrap (a + b)))
  | .sub => some (.int k (k.wrap (a - b)))
  | .lss => some (.bool (decide (a < b)))
  | .leq => some (.bool (decide (a ≤ b)))
  | .gtr => some (.bool (decide (b < a)))
  | .geq => some (.bool (decide (b ≤ a)))
  | .eql => some (.bool (a == b))
  | .neq => some (.bool (a != b))
  | _ => none
def fastOr (op : BinOp) (t : TypeId) (x y : Operand) (a b : AV) (r : Option Value) : Option AV := match r with
  | some v => some (.sc v)
  | none => binA P op t x y a b
def sameKind : IntKind → IntKind → Bool
  | .i64, .i64 => true
  | .u8, .u8 => true
  | .u32, .u32 => true
  | .u64, .u64 => true
  | _, _ => false
def bin3 (op : BinOp) (t : TypeId) (x y : Operand) (k k' : IntKind) (a b : Int) : Option AV := match sameKind k k' with
  | true => fastOr P op t x y (.sc (.int k a)) (.sc (.int k' b)) (fastInt op k a b)
  | false => binA P op t x y (.sc (.int k a)) (.sc (.int k' b))
def bin2 (op : BinOp) (t : TypeId) (x y : Operand) (a b : AV) : Option AV := match a, b with
  | .sc (.int k m), .sc (.int k' n) => bin3 P op t x y k k' m n
  | a, b => binA P op t x y a b
noncomputable def pPick (c a b : Operand) : Option AV := match ev c with
  | some (.sc (.bool t)) => if t then ev a else ev b
  | _ => none
noncomputable def pNil (x : Operand) : Option AV := match ev x with
  | some (.ptr b f) => some (.ptr b f)
  | some (.rp w c) => some (.rp w c)
  | some (.fn f l c) => some (.fn f l c)
  | _ => none
noncomputable def pBin (op : BinOp) (t : TypeId) (x y : Operand) : Option AV := match ev x, ev y with
  | some a, some b => bin2 P op t x y a b
  | _, _ => none
noncomputable def scOf (r : Option Value) : Option AV := match r with
  | some v => some (.sc v)
  | none => none
noncomputable def pUn (op : UnOp) (x : Operand) : Option AV := match ev x with
  | some (.sc v) => scOf (pv P (Op.unary op v))
  | _ => none
noncomputable def pConv (s d : TypeId) (x : Operand) : Option AV := match ev x with
  | some (.sc v) => scOf (pv P (convert s d v))
  | _ => none
noncomputable def pFA (s : TypeId) (x : Operand) (f : Nat) : Option AV := match ev x with
  | some v => fieldA P s v f
  | none => none
noncomputable def pIA (t : TypeId) (x i : Operand) : Option AV := match ev x, ev i with
  | some v, some j => indexA P t v j
  | _, _ => none
noncomputable def pField (t : TypeId) (x : Operand) (f : Nat) : Option AV := match ev x, P.underlying t with
  | some (.agg cs), some (.struct fs) => (match fs[f]? with
    | some fd => partA P fd.type cs fd.offset
    | none => none)
  | _, _ => none
noncomputable def pIndex (t : TypeId) (x i : Operand) : Option AV := match ev x, ev i with
  | some (.agg cs), some j => (match asIx j, P.underlying t with
    | some i, some (.array len e) => (match szOf P e with
      | some sz => if 0 ≤ i ∧ i < len then partA P e cs (i.toNat * sz) else none
      | none => none)
    | _, _ => none)
  | some (.sc v), some (.sc j) => scOf (pv P (Instr.index t v j))
  | _, _ => none
noncomputable def pExtract (x : Operand) (i : Nat) : Option AV := match ev x with
  | some (.tup vs) => vs[i]?
  | _ => none
noncomputable def pSlice (t : TypeId) (x : Operand) (lo hi mx : Option Operand) : Option AV := match ev x with
  | some v => sliceA P t v (lo.map ev) (hi.map ev) (mx.map ev)
  | none => none
noncomputable def pFunc (fn : Fn) (first cap : Array Operand) : Option AV := match fn, evL ev first.toList, evL ev cap.toList with
  | .func f, some l, some c => some (.fn f l c)
  | _, _, _ => none
noncomputable def pIfc (t : TypeId) (x : Operand) : Option AV := match ev x, P.underlying t with
  | some _, some (.interface _) => none
  | some v, some _ => some (.ifc t v)
  | _, _ => none
noncomputable def pBuild (t : TypeId) (parts : Array (Nat × Operand)) : Option AV := match evP ev parts.toList with
  | some l => buildA P t l
  | none => none
noncomputable def pLen (ts : Array TypeId) (xs : Array Operand) : Option AV := match ts[0]?, xs[0]? with
  | some t, some x => (match ev x with
    | some v => lenA P t v
    | none => none)
  | _, _ => none
noncomputable def pCap (ts : Array TypeId) (xs : Array Operand) : Option AV := match ts[0]?, xs[0]? with
  | some t, some x => (match ev x with
    | some v => capA P t v
    | none => none)
  | _, _ => none
noncomputable def pMin (t : TypeId) (ts : Array TypeId) (xs : Array Operand) : Option AV := match evL ev xs.toList with
  | some l => (match allSc l with
    | some vs => scOf (pv P (Builtin.min_ ts t vs.toArray))
    | none => none)
  | none => none
noncomputable def pMax (t : TypeId) (ts : Array TypeId) (xs : Array Operand) : Option AV := match evL ev xs.toList with
  | some l => (match allSc l with
    | some vs => scOf (pv P (Builtin.max_ ts t vs.toArray))
    | none => none)
  | none => none
noncomputable def pBuiltin (t : TypeId) (ts : Array TypeId) (xs : Array Operand) (b : Builtin) : Option AV := match b with
  | .len => pLen P ev ts xs
  | .cap => pCap P ev ts xs
  | .min => pMin P ev t ts xs
  | .max => pMax P ev t ts xs
  | _ => none
noncomputable def pCall (t : TypeId) (c : Call) : Option AV := match c.callee with
  | .builtin b => pBuiltin P ev t c.argTypes c.args b
  | _ => none
noncomputable def opPure (t : TypeId) (o : Op) : Option AV := match o with
  | .move x => ev x
  | .assign x => ev x
  | .pick c a b => pPick ev c a b
  | .nilCheck x => pNil ev x
  | .binOp op t x y _ => pBin P ev op t x y
  | .unOp op _ x => pUn P ev op x
  | .convert s d x => pConv P ev s d x
  | .fieldAddr s x f => pFA P ev s x f
  | .indexAddr t x i => pIA P ev t x i
  | .field t x f => pField P ev t x f
  | .index t x i => pIndex P ev t x i
  | .extract x i => pExtract ev x i
  | .slice t x lo hi mx => pSlice P ev t x lo hi mx
  | .makeFunc fn first cap => pFunc ev fn first cap
  | .makeInterface t x => pIfc P ev t x
  | .build t parts => pBuild P ev t parts
  | .call c => pCall P ev t c
  | _ => none

/-! ### Reading, making -/
noncomputable def loadA (hp : Hp) (t : TypeId) (x : AV) : Option (AV × Option Nat) :=
  match isAggT P t, szOf P t with
  | some true, some n => (match x with
    | .ptr b o => (match hp.read b o n with
      | some r => some (.agg r, some b)
      | none => none)
    | .rp _ cs => if n ≤ cs.length then some (.agg (cs.take n), none) else none
    | _ => none)
  | some false, some _ => (match x with
    | .ptr b o => (match hp.read b o 1 with
      | some [v] => some (v, some b)
      | _ => none)
    | .rp _ (v :: _) => some (v, none)
    | _ => none)
  | _, _ => none

def bytesOf : List AV → Option (List UInt8)
  | [] => some []
  | .sc (.int .u8 n) :: r => match bytesOf r with
    | some l => some (UInt8.ofNat n.toNat :: l)
    | none => none
  | _ :: _ => none
noncomputable def strA (hp : Hp) (s d : TypeId) (x : AV) : Option (AV × Option Nat) :=
  match P.underlying s, P.underlying d with
  | some (.slice e), some .string => match P.underlying e with
    | some (.int .u8) => (match x with
      | .sl b o len _ 1 => (match hp.read b o len with
        | some cs => (match bytesOf cs with
          | some l => some (.sc (.string ⟨l.toArray⟩), some b)
          | none => none)
        | none => none)
      | .ro _ cs len _ 1 => if cs.length = len then (match bytesOf cs with
        | some l => some (.sc (.string ⟨l.toArray⟩), none)
        | none => none) else none
      | .sc (.slice none _ _) => some (.sc (.string ⟨#[]⟩), none)
      | _ => none)
    | _ => none
  | _, _ => none

noncomputable def qLoad (hp : Hp) (t : TypeId) (x : Operand) : Option (AV × Option Nat) := match ev x with
  | some v => loadA P hp t v
  | none => none
noncomputable def qStr (hp : Hp) (s d : TypeId) (x : Operand) : Option (AV × Option Nat) := match ev x with
  | some v => strA P hp s d v
  | none => none
noncomputable def opLoad (hp : Hp) (o : Op) : Option (AV × Option Nat) := match o with
  | .load t x => qLoad P ev hp t x
  | .convert s d x => qStr P ev hp s d x
  | _ => none

def repA (z : List AV) : Nat → List AV
  | 0 => []
  | n + 1 => z ++ repA z n

noncomputable def aAlloc (t : TypeId) : Option (List AV × (Nat → AV)) := match zeroA P t with
  | some z => some (z, fun b => .ptr b 0)
  | none => none
noncomputable def aBox (x : Operand) : Option (List AV × (Nat → AV)) := match ev x with
  | some v => if v.cells.all AV.one = true then some (v.cells, fun b => .ptr b 0) else none
  | none => none
noncomputable def aBuild (t : TypeId) (len : Nat) (parts : Array (Nat × Operand)) : Option (List AV × (Nat → AV)) := match P.underlying t with
  | some (.slice e) => (match szOf P e, evP ev parts.toList, zeroA P e with
    | some sz, some ps, some z => if len * sz ≤ 16777216 ∧ z.length = sz then (match fillA (fun i => some (i * sz, sz)) (repA z len) ps with
      | some cs => some (cs, fun b => .sl b 0 len (some len) sz)
      | none => none) else none
    | _, _, _ => none)
  | _ => none
noncomputable def aMake (t : TypeId) (l c : Operand) : Option (List AV × (Nat → AV)) := match P.underlying t, ev l, ev c with
  | some (.slice e), some (.sc (.int _ l)), some (.sc (.int _ c)) => (match P.info? e, zeroA P e with
    | some i, some z => if 0 ≤ l ∧ l ≤ c ∧ c ≤ 1048576 ∧ i.bytes ≤ 65536 ∧ z.length = i.size then some (repA z c.toNat, fun b => .sl b 0 l.toNat (some c.toNat) i.size) else none
    | _, _ => none)
  | _, _, _ => none
noncomputable def opAlloc (o : Op) : Option (List AV × (Nat → AV)) := match o with
  | .alloc t => aAlloc P t
  | .box _ x => aBox ev x
  | .buildSlice t len parts => aBuild P ev t len parts
  | .makeSlice t l c => aMake P ev t l c
  | _ => none
end

/-! ### Effects -/
section
variable (P : Program)
noncomputable def srcCells (hp : Hp) (sz n : Nat) : AV → Option (List AV)
  | .sl b o len _ s => if s = sz ∧ n ≤ len then hp.read b o (n * sz) else none
  | .ro _ cs len _ s => if s = sz ∧ n ≤ len ∧ cs.length = len * sz then some (cs.take (n * sz)) else none
  | .sc (.slice none _ _) => if n = 0 then some [] else none
  | .sc (.string s) => if sz = 1 ∧ n ≤ s.size then some ((s.data.toList.take n).map fun b => .sc (.int .u8 b.toNat)) else none
  | _ => none
def srcLen : AV → Option Nat
  | .sl _ _ len _ _ => some len
  | .ro _ _ len _ _ => some len
  | .sc (.slice none n 0) => some n
  | .sc (.string s) => some s.size
  | _ => none
def mostLen : Nat := 1048576

noncomputable def freshA (hp : Hp) (cells : List AV) (n sz : Nat) : Option (AV × Hp) := if hp.n < 1000000000 then some (.sl hp.n 0 n none sz, hp.new cells) else none

def zerosA (e : TypeId) (x : AV) : Option (Nat × List AV) :=
  match x, zeroA P e with
  | .sc (.int _ l), some z => if 0 ≤ l ∧ l ≤ mostLen then some (l.toNat, repA z l.toNat) else none
  | _, _ => none

noncomputable def appendA (hp : Hp) (sz : Nat) (old : AV) (m : Nat) (new : List AV) : Option (AV × Hp) :=
  if m = 0 then (match old with
    | .sl .. => some (old, hp)
    | .sc (.slice none 0 0) => some (old, hp)
    | .ro _ _ _ _ _ => some (old, hp)
    | _ => none)
  else match old with
  | .sc (.slice none 0 0) => if m ≤ mostLen then freshA hp new m sz else none
  | .ro _ cs len (some c) s =>
    if s = sz ∧ cs.length = len * sz ∧ c < len + m ∧ len + m ≤ mostLen then freshA hp (cs ++ new) (len + m) sz else none
  | .sl b o len (some c) s =>
    if s = sz ∧ len + m ≤ mostLen then
      if len + m ≤ c then (if new.all AV.one = true then (match hp.write b (o + len * sz) new with
        | some hp => some (.sl b o (len + m) (some c) sz, hp)
        | none => none) else none)
      else (match hp.read b o (len * sz) with
        | some cs => freshA hp (cs ++ new) (len + m) sz
        | none => none)
    else none
  | .sl b o len none s =>
    if s = sz ∧ len + m ≤ mostLen ∧ new.all AV.one = true then (match hp.get b with
      | some ⟨cs, true⟩ =>
        if o + (len + m) * sz ≤ cs.length then (match hp.write b (o + len * sz) new with
          | some hp => some (.sl b o (len + m) none sz, hp)
          | none => none)
        else if o + len * sz = cs.length then
          freshA ((hp.set b ⟨cs, false⟩).log b) (cs.drop o ++ new) (len + m) sz
        else none
      | _ => none) else none
  | _ => none

def zeroFits (i : TypeInfo) (e : TypeId) : Bool := match zeroA P e with
  | some z => decide (z.length = i.size ∧ i.size ≠ 0 ∧ i.bytes ≠ 0 ∧ i.bytes ≤ 65536)
  | none => false
noncomputable def opAppend (hp : Hp) (t : TypeId) (s x : AV) : Option (AV × Hp) :=
  match P.underlying t with
  | some (.slice e) => match P.info? e with
    | some i => (match srcLen x with
      | some m => (match srcCells hp i.size m x with
        | some new => if zeroFits P i e = true then appendA hp i.size s m new else none
        | none => none)
      | none => none)
    | none => none
  | _ => none

noncomputable def opAppendZ (hp : Hp) (t : TypeId) (s x : AV) : Option (AV × Hp) :=
  match P.underlying t with
  | some (.slice e) => match P.info? e with
    | some i => (match zerosA P e x with
      | some (m, new) => if zeroFits P i e = true then appendA hp i.size s m new else none
      | none => none)
    | none => none
  | _ => none

noncomputable def opCopy (hp : Hp) (t : TypeId) (d s : AV) : Option (AV × Hp) :=
  match P.underlying t with
  | some (.slice e) => match szOf P e with
    | some sz => (match srcLen s, d with
      | some n, .sl b o len _ k => if k = sz then (match srcCells hp sz (Nat.min n len) s with
        | some cs => if cs.all AV.one = true then (match hp.write b o cs with
          | some hp => some (.sc (goInt (Nat.min n len : Nat)), hp)
          | none => none) else none
        | none => none) else none
      | some n, .sc (.slice none 0 0) => some (.sc (goInt 0), hp)
      | _, _ => none)
    | none => none
  | _ => none

noncomputable def storeA (hp : Hp) (t : TypeId) (p v : AV) : Option Hp :=
  match szOf P t, p with
  | some n, .ptr b o => if v.cells.length = n ∧ v.cells.all AV.one = true then hp.write b o v.cells else none
  | _, _ => none

abbrev CallT := FuncId → List AV → Hp → Option (AV × Hp)
noncomputable def eStore (ev : Operand → Option AV) (hp : Hp) (t : TypeId) (a x : Operand) : Option (AV × Hp) := match ev a, ev x with
  | some p, some v => (match storeA P hp t p v with
    | some hp => some (undefA, hp)
    | none => none)
  | _, _ => none
noncomputable def eValue (call : CallT) (ev : Operand → Option AV) (hp : Hp) (f : Operand) (xs : Array Operand) : Option (AV × Hp) := match ev f, evL ev xs.toList with
  | some (.fn g first cap), some l => call g ((first ++ l) ++ cap) hp
  | _, _ => none
noncomputable def eAppend (ev : Operand → Option AV) (hp : Hp) (ts : Array TypeId) (xs : List Operand) : Option (AV × Hp) := match ts[0]?, ts[1]?, xs with
  | some t, some u, [s, x] => (match ev s, ev x, P.underlying u with
    | some s, some x, some (.int _) => opAppendZ P hp t s x
    | some s, some x, some _ => opAppend P hp t s x
    | _, _, _ => none)
  | _, _, _ => none
noncomputable def eCopy (ev : Operand → Option AV) (hp : Hp) (ts : Array TypeId) (xs : List Operand) : Option (AV × Hp) := match ts[0]?, xs with
  | some t, [d, s] => (match ev d, ev s with
    | some d, some s => opCopy P hp t d s
    | _, _ => none)
  | _, _ => none
noncomputable def eBuiltin (ev : Operand → Option AV) (hp : Hp) (ts : Array TypeId) (xs : Array Operand) (b : Builtin) : Option (AV × Hp) := match b with
  | .append => eAppend P ev hp ts xs.toList
  | .copy => eCopy P ev hp ts xs.toList
  | _ => none
noncomputable def eCall (call : CallT) (ev : Operand → Option AV) (hp : Hp) (c : Call) : Option (AV × Hp) := match c.callee with
  | .value f => eValue call ev hp f c.args
  | .builtin b => eBuiltin P ev hp c.argTypes c.args b
  | _ => none
noncomputable def opEff (call : CallT) (ev : Operand → Option AV) (hp : Hp) (o : Op) : Option (AV × Hp) := match o with
  | .store t a x => eStore P ev hp t a x
  | .call c => eCall P call ev hp c
  | _ => none

inductive Cls where
  | pure | load | alloc | eff
  deriving DecidableEq
def clsConv (s : TypeId) : Cls := match P.underlying s with
  | some (.slice _) => .load
  | _ => .pure
def clsCall (c : Call) : Cls := match c.callee with
  | .builtin b => (match b with
    | .len => .pure
    | .cap => .pure
    | .min => .pure
    | .max => .pure
    | _ => .eff)
  | _ => .eff
def clsOf (o : Op) : Cls := match o with
  | .load .. => .load
  | .convert s _ _ => clsConv P s
  | .alloc _ | .box .. | .buildSlice .. | .makeSlice .. => .alloc
  | .move _ | .assign _ | .pick .. | .nilCheck _ | .binOp .. | .unOp .. | .fieldAddr .. | .indexAddr .. | .field .. | .index .. | .extract .. | .slice .. | .makeFunc .. | .makeInterface .. | .build .. => .pure
  | .call c => clsCall c
  | _ => .eff
end

/-! ### States, regions, code -/
structure St where
  nt : Nat
  tm : Tr AV
  hp : Hp
noncomputable def St.tmp (s : St) (t : Nat) : AV := match s.tm.get t with | some v => v | none => undefA
noncomputable def St.put (s : St) (d : Option Tmp) (v : AV) : Option St :=
  match d with
  | none => some s
  | some d => match s with
    | ⟨nt, tm, hp⟩ => if d < nt then some ⟨nt, tm.put fuelT d v, hp⟩ else none
def St.withHp (s : St) (h : Hp) : St := match s with | ⟨nt, tm, _⟩ => ⟨nt, tm, h⟩

structure Globs where
  rd : Nat → Option (List AV)
  ob : List (Nat × Obj)
structure Env where
  P : Program
  glob : Globs
  sp : FuncId → Option (List AV → Hp → Option (AV × Hp))

noncomputable def evalA (E : Env) (s : St) : Operand → Option AV
  | .tmp t => some (s.tmp t)
  | .const v => some (ofVal v)
  | .global g => match E.glob.rd g with | some cs => some (.rp false cs) | none => none
  | .func f => some (.fn f [] [])

abbrev Done := List (Nat × List Nat)

noncomputable def putD (s : St) (dst : Option Tmp) (v : AV) (dn : Done) : Option (St × Done) := match s.put dst v with
  | some s => some (s, dn)
  | none => none
noncomputable def forceN {β : Type} (n : Nat) (K : Nat → β) : β := Nat.rec (motive := fun _ => β) (K 0) (fun j _ => K (Nat.succ j)) n
theorem forceN_eq {β : Type} (n : Nat) (K : Nat → β) : forceN n K = K n := by cases n <;> rfl
noncomputable def forceI {β : Type} (n : Int) (K : Int → β) : β := Int.rec (motive := fun _ => β) (fun m => forceN m fun m => K (.ofNat m)) (fun m => forceN m fun m => K (.negSucc m)) n
theorem forceI_eq {β : Type} (n : Int) (K : Int → β) : forceI n K = K n := by
  cases n with
  | ofNat m => exact forceN_eq m fun m => K (.ofNat m)
  | negSucc m => exact forceN_eq m fun m => K (.negSucc m)
noncomputable def forceB {β : Type} (b : Bool) (K : Bool → β) : β := Bool.rec (motive := fun _ => β) (K false) (K true) b
theorem forceB_eq {β : Type} (b : Bool) (K : Bool → β) : forceB b K = K b := by cases b <;> rfl
noncomputable def forceV {β : Type} (v : AV) (K : AV → β) : β := match v with
  | .sc (.int k n) => forceI n fun n => K (.sc (.int k n))
  | .sc (.bool b) => forceB b fun b => K (.sc (.bool b))
  | v => K v
theorem forceV_eq {β : Type} (v : AV) (K : AV → β) : forceV v K = K v := by
  unfold forceV
  split
  · exact forceI_eq _ _
  · exact forceB_eq _ _
  · rfl
noncomputable def stPure (E : Env) (s : St) (dn : Done) (o : Oper) : Option (St × Done) := match opPure E.P (evalA E s) o.type o.op with
  | some v => forceV v fun v => putD s o.dst v dn
  | none => none
def fresh1 (anc : Nat → Nat) (i : Nat) (r : Option Nat) (dn : Done) : Bool := match r with
  | none => true
  | some b => dn.all fun p => (anc i).testBit p.1 || !p.2.contains b
noncomputable def stLoad (E : Env) (anc : Nat → Nat) (s : St) (dn : Done) (i : Nat) (o : Oper) : Option (St × Done) := match opLoad E.P (evalA E s) s.hp o.op with
  | some (v, r) => if fresh1 anc i r dn = true then putD s o.dst v dn else none
  | none => none
noncomputable def stAlloc (E : Env) (s : St) (dn : Done) (o : Oper) : Option (St × Done) := match opAlloc E.P (evalA E s) o.op with
  | some (cs, f) => (match s.put o.dst (f s.hp.n) with
    | some t => if s.hp.n < 1000000000 then some (t.withHp (s.hp.new cs), dn) else none
    | none => none)
  | none => none
noncomputable def stEff (E : Env) (call : CallT) (s : St) (dn : Done) (i : Nat) (o : Oper) : Option (St × Done) := match opEff E.P call (evalA E s) (s.hp.wlSet []) o.op with
  | some (v, hp) => (match s.put o.dst v with
    | some t => some (t.withHp (hp.wlSet (hp.wl ++ s.hp.wl)), (i, hp.wl) :: dn)
    | none => none)
  | none => none
noncomputable def stepOp (E : Env) (call : CallT) (anc : Nat → Nat) (s : St) (dn : Done) (i : Nat) (o : Oper) : Option (St × Done) :=
  match clsOf E.P o.op with
  | .pure => stPure E s dn o
  | .load => stLoad E anc s dn i o
  | .alloc => stAlloc E s dn o
  | .eff => stEff E call s dn i o

noncomputable def wantedG (ops : Array Oper) (s : St) (j : Nat) (want : Bool) : Option Bool := match (ops[j]?).bind (·.dst) with
  | some d => if d < s.nt then (match s.tmp d with
    | .sc (.bool b) => some (b == want)
    | .tup [] => some false
    | _ => none) else none
  | none => none
noncomputable def wantedA (ops : Array Oper) (s : St) (o : Oper) : Option Bool :=
  match o.guard with
  | none => some true
  | some (j, want) => wantedG ops s j want

abbrev Run := St → Done → Option (St × Done)
noncomputable def contD (ih : Run) (r : Option (St × Done)) : Option (St × Done) := match r with
  | some (s, dn) => ih s dn
  | none => none
noncomputable def runO (E : Env) (call : CallT) (ops : Array Oper) (anc : Nat → Nat) (i : Nat) (ih : Run) (o : Oper) : Run := fun s dn =>
  match wantedA ops s o with
  | some true => contD ih (stepOp E call anc s dn i o)
  | some false => contD ih (putD s o.dst undefA dn)
  | none => none
noncomputable def run1 (E : Env) (call : CallT) (ops : Array Oper) (anc : Nat → Nat) (i : Nat) (ih : Run) : Run :=
  match ops[i]? with
  | some o => runO E call ops anc i ih o
  | none => fun _ _ => none
noncomputable def runOps (E : Env) (call : CallT) (ops : Array Oper) (anc : Nat → Nat) (l : List Nat) : Run :=
  List.rec (motive := fun _ => Run) (fun s dn => some (s, dn)) (fun i _ ih => run1 E call ops anc i ih) l
theorem runOps_nil (E : Env) (call : CallT) (ops : Array Oper) (anc : Nat → Nat) (s : St) (dn : Done) : runOps E call ops anc [] s dn = some (s, dn) := rfl
theorem runOps_cons (E : Env) (call : CallT) (ops : Array Oper) (anc : Nat → Nat) (i : Nat) (l : List Nat) (s : St) (dn : Done) : runOps E call ops anc (i :: l) s dn = run1 E call ops anc i (runOps E call ops anc l) s dn := rfl
end Go.Eng
end
section
set_option linter.unusedVariables false
namespace Go.Eng
open Go Go.RowKit

def ancStep (acc : List Nat) (o : Oper) : Nat :=
  o.after.toList.foldl (fun s e => if Region.binds .any e then (s ||| 2 ^ e.on) ||| acc.getD e.on 0 else s) 0
def ancGo : List Oper → List Nat → List Nat
  | [], acc => acc
  | o :: r, acc => ancGo r (acc ++ [ancStep acc o])
def ancs (ops : Array Oper) : List Nat := ancGo ops.toList []
def ancOf (M : List Nat) (i : Nat) : Nat := M.getD i 0

def effAt (P : Program) (ops : Array Oper) (i : Nat) : Bool := match ops[i]? with
  | some o => clsOf P o.op == .eff
  | none => false
def tauGo (M : List Nat) (n : Nat) : List Nat → List Nat → List Nat
  | [], done => done ++ (List.range n).filter fun i => !done.contains i
  | e :: r, done => tauGo M n r (done ++ ((List.range n).filter fun i => (ancOf M e).testBit i && !done.contains i) ++ [e])
def tau (P : Program) (ops : Array Oper) (M : List Nat) : List Nat :=
  tauGo M ops.size ((List.range ops.size).filter (effAt P ops)) []
def orderOk (P : Program) (ops : Array Oper) (M : List Nat) : List Nat → Nat → Bool
  | [], D => D == 2 ^ ops.size - 1
  | i :: r, D => decide (i < ops.size) && !D.testBit i && (ancOf M i &&& D == ancOf M i) && (!effAt P ops i || D &&& ancOf M i == D) && orderOk P ops M r (D ||| 2 ^ i)
def namesOk1 (ops : Array Oper) (M : List Nat) (i : Nat) (o : Oper) : Bool :=
  match o.dst with
  | none => true
  | some d => (List.range ops.size).all fun j => j == i || (ancOf M i).testBit j || (ancOf M j).testBit i || match ops[j]? with
    | some q => !(q.looksAt ops).contains d && q.dst != some d
    | none => true
def namesOk (ops : Array Oper) (M : List Nat) : Bool := (List.range ops.size).all fun i => match ops[i]? with
  | some o => namesOk1 ops M i o
  | none => true
def edgesOk (ops : Array Oper) : Bool := (List.range ops.size).all fun i => match ops[i]? with
  | some o => o.after.toList.all fun e => !Region.binds .any e || decide (e.on < i)
  | none => true
def regOk (P : Program) (ops : Array Oper) (M : List Nat) : Bool :=
  edgesOk ops && namesOk ops M && orderOk P ops M (tau P ops M) 0

inductive Ex where
  | nrm
  | ext (id : Nat)
  | ret

def fdata (P : Program) (g : FuncId) : Option (Code × Nat × Array ResultVar) :=
  match P.funcs[g]? with
  | some fn => if fn.name == "runtime.NumGoroutine" then none else match fn.body with
    | some c => some (c, fn.ntmps, fn.results)
    | none => none
  | none => none

noncomputable def tmOf : List AV → Nat → Tr AV → Tr AV
  | [], _, t => t
  | v :: r, i, t => tmOf r (i + 1) (t.put fuelT i v)

noncomputable def resA (E : Env) (s : St) : List ResultVar → Option (List AV)
  | [] => some []
  | .tmp t :: r => match resA E s r with
    | some l => some (s.tmp t :: l)
    | none => none
  | .cell a t :: r => match loadA E.P s.hp t (s.tmp a), resA E s r with
    | some (v, _), some l => some (v :: l)
    | _, _ => none
noncomputable def resultsA (E : Env) (s : St) (rs : Array ResultVar) : Option AV :=
  match resA E s rs.toList with
  | some [v] => some v
  | some l => some (.tup l)
  | none => none

abbrev Ih := Code → St → Option (Ex × St)
noncomputable def backA (E : Env) (n0 : Nat) (rs : Array ResultVar) (s : St) : Option (AV × Hp) := match resultsA E s rs with
  | some v => some (v, s.hp.wlSet (s.hp.wl.filter (· < n0)))
  | none => none
noncomputable def endA (E : Env) (n0 : Nat) (rs : Array ResultVar) (r : Option (Ex × St)) : Option (AV × Hp) := match r with
  | some (.nrm, s) => backA E n0 rs s
  | some (.ret, s) => backA E n0 rs s
  | _ => none
noncomputable def inA (E : Env) (ih : Ih) (args : List AV) (hp : Hp) (c : Code) (nt : Nat) (rs : Array ResultVar) : Option (AV × Hp) :=
  if args.length ≤ nt ∧ nt < 1000000 then endA E hp.n rs (ih c ⟨nt, tmOf args 0 .lf, hp⟩) else none
noncomputable def bodyA (E : Env) (ih : Ih) : CallT := fun g args hp => match fdata E.P g with
  | some (c, nt, rs) => inA E ih args hp c nt rs
  | none => none
noncomputable def callA (E : Env) (ih : Ih) : CallT := fun g args hp => match E.sp g with
  | some f => f args hp
  | none => bodyA E ih g args hp

noncomputable def endR (r : Option (St × Done)) : Option (Ex × St) := match r with
  | some (s, _) => some (.nrm, s)
  | none => none
noncomputable def evDraw (E : Env) (ih : Ih) (ops : Array Oper) (M : List Nat) (s : St) : Option (Ex × St) :=
  if regOk E.P ops M = true then endR (runOps E (callA E ih) ops (ancOf M) (tau E.P ops M) s []) else none
noncomputable def evRegion (E : Env) (ih : Ih) (ops : Array Oper) (draw : Bool) (s : St) : Option (Ex × St) := match draw with
  | true => evDraw E ih ops (ancs ops) s
  | false => endR (runOps E (callA E ih) ops (fun _ => 0) (List.range ops.size) s [])
noncomputable def evSeq (ih : Ih) (b : Code) (r : Option (Ex × St)) : Option (Ex × St) := match r with
  | some (.nrm, s) => ih b s
  | r => r
noncomputable def evCond (ih : Ih) (a b : Code) (s : St) (r : Option AV) : Option (Ex × St) := match r with
  | some (.sc (.bool true)) => ih a s
  | some (.sc (.bool false)) => ih b s
  | _ => none
noncomputable def evBlock (id : Nat) (r : Option (Ex × St)) : Option (Ex × St) := match r with
  | some (.ext i, s) => if i = id then some (.nrm, s) else some (.ext i, s)
  | r => r
noncomputable def evB (E : Env) (ih : Ih) (c : Code) (s : St) : Option (Ex × St) :=
  match c with
  | .skip => some (.nrm, s)
  | .label _ => some (.nrm, s)
  | .region _ ops draw => evRegion E ih ops draw s
  | .seq a b => evSeq ih b (ih a s)
  | .cond x a b => evCond ih a b s (evalA E s x)
  | .block id b => evBlock id (ih b s)
  | .loop b => evSeq ih (.loop b) (ih b s)
  | .exit id => some (.ext id, s)
  | .ret => some (.ret, s)
  | _ => none

noncomputable def evC (E : Env) (n : Nat) : Ih :=
  Nat.rec (motive := fun _ => Ih) (fun _ _ => none) (fun _ ih => evB E ih) n
theorem evC_zero (E : Env) (c : Code) (s : St) : evC E 0 c s = none := rfl
theorem evC_succ (E : Env) (n : Nat) (c : Code) (s : St) : evC E (n + 1) c s = evB E (evC E n) c s := rfl
noncomputable def evF (E : Env) (n : Nat) : CallT := bodyA E (evC E n)
end Go.Eng
end
section
set_option linter.unusedVariables false
namespace Go.Eng
open Go Go.RowKit

structure Loc where
  c : Nat
  sh : Nat
  n : Nat
abbrev Rho := Nat → Option Loc
def Managed (ρ : Rho) (c : Nat) : Prop := ∃ b l, ρ b = some l ∧ l.c = c

inductive VR (ρ : Rho) (B : Nat) (w : World) : AV → Value → Prop
  | sc (v : Value) : VR ρ B w (.sc v) v
  | ptr {b off : Nat} {l : Loc} : ρ b = some l → VR ρ B w (.ptr b off) (.pointer (some ⟨l.c, l.sh + off, none⟩))
  | sl {b off len : Nat} {cap : Option Nat} {sz : Nat} {l : Loc} {ck o : Nat} : ρ b = some l → len ≤ ck → (∀ k, cap = some k → ck = k) →
      (ck = 0 ∨ o = l.sh + off) → (cap = none → l.sh + off + ck * sz = l.n) →
      VR ρ B w (.sl b off len cap sz) (.slice (some ⟨l.c, o, none⟩) len ck)
  | ro {own : Bool} {cells : List AV} {len : Nat} {cap : Option Nat} {sz : Nat} {a : Option Addr} {ck : Nat} (ys : Nat → Value) : cells.length = len * sz → len ≤ ck →
      (∀ k, cap = some k → ck = k) → (len ≠ 0 → a ≠ none) →
      (cells ≠ [] → ∃ c o, a = some ⟨c, o, none⟩ ∧ ¬ Managed ρ c ∧ (own = true → B ≤ c) ∧ ∀ i : Nat, i < cells.length → w.cell? ⟨c, o + i, none⟩ = some (ys i)) →
      (∀ (i : Nat) x, cells[i]? = some x → VR ρ B w x (ys i)) → VR ρ B w (.ro own cells len cap sz) (.slice a len ck)
  | rp {own : Bool} {cells : List AV} {c o : Nat} (ys : Nat → Value) : ¬ Managed ρ c → (own = true → B ≤ c) →
      (∀ i : Nat, i < cells.length → w.cell? ⟨c, o + i, none⟩ = some (ys i)) → (c < w.heap.size) →
      (∀ (i : Nat) x, cells[i]? = some x → VR ρ B w x (ys i)) → VR ρ B w (.rp own cells) (.pointer (some ⟨c, o, none⟩))
  | fn {f : FuncId} {first cap : List AV} {l c : List Value} : first.length = l.length → cap.length = c.length →
      (∀ (i : Nat) x y, first[i]? = some x → l[i]? = some y → VR ρ B w x y) → (∀ (i : Nat) x y, cap[i]? = some x → c[i]? = some y → VR ρ B w x y) →
      VR ρ B w (.fn f first cap) (.func (.func f) ⟨l⟩ ⟨c⟩)
  | ifc {t : TypeId} {v : AV} {y : Value} : VR ρ B w v y → VR ρ B w (.ifc t v) (.iface t y)
  | agg {cs : List AV} {vs : List Value} : cs.length = vs.length → (∀ (i : Nat) x y, cs[i]? = some x → vs[i]? = some y → VR ρ B w x y) → VR ρ B w (.agg cs) (.agg ⟨vs⟩)
  | tup {cs : List AV} {vs : List Value} : cs.length = vs.length → (∀ (i : Nat) x y, cs[i]? = some x → vs[i]? = some y → VR ρ B w x y) → VR ρ B w (.tup cs) (.tuple ⟨vs⟩)
  | any {v : Value} : VR ρ B w .any v

def VRs (ρ : Rho) (B : Nat) (w : World) (cs : List AV) (vs : List Value) : Prop :=
  cs.length = vs.length ∧ ∀ (i : Nat) x y, cs[i]? = some x → vs[i]? = some y → VR ρ B w x y

section
variable {ρ : Rho} {B : Nat} {w : World}
theorem VRs.nil : VRs ρ B w [] [] := ⟨rfl, fun i x y h => by simp at h⟩
theorem VRs.cons {x : AV} {y : Value} {cs : List AV} {vs : List Value} (h : VR ρ B w x y) (t : VRs ρ B w cs vs) : VRs ρ B w (x :: cs) (y :: vs) := by
  refine ⟨by simp [t.1], fun i a b ha hb => ?_⟩
  cases i with
  | zero => simp at ha hb; subst ha; subst hb; exact h
  | succ i => simp at ha hb; exact t.2 i a b ha hb
theorem VRs.cons_inv {x : AV} {cs : List AV} {vs : List Value} (h : VRs ρ B w (x :: cs) vs) : ∃ y l, vs = y :: l ∧ VR ρ B w x y ∧ VRs ρ B w cs l := by
  cases vs with
  | nil => simp [VRs] at h
  | cons y l => exact ⟨y, l, rfl, h.2 0 x y rfl rfl, by simpa using h.1, fun i a b ha hb => h.2 (i + 1) a b (by simpa using ha) (by simpa using hb)⟩
theorem VRs.nil_inv {vs : List Value} (h : VRs ρ B w [] vs) : vs = [] := by
  have := h.1
  exact List.eq_nil_of_length_eq_zero (by simpa using this.symm)
theorem VRs.append {cs ds : List AV} {vs us : List Value} (h : VRs ρ B w cs vs) (t : VRs ρ B w ds us) : VRs ρ B w (cs ++ ds) (vs ++ us) := by
  induction cs generalizing vs with
  | nil => rw [h.nil_inv]; exact t
  | cons x cs ih =>
    obtain ⟨y, l, rfl, hx, hl⟩ := h.cons_inv
    exact VRs.cons hx (ih hl)
theorem VRs.get {cs : List AV} {vs : List Value} (h : VRs ρ B w cs vs) {i : Nat} {x : AV} (hx : cs[i]? = some x) : ∃ y, vs[i]? = some y ∧ VR ρ B w x y := by
  have hi : i < cs.length := by
    rcases Nat.lt_or_ge i cs.length with h1 | h1
    · exact h1
    · rw [List.getElem?_eq_none h1] at hx; cases hx
  have hv : i < vs.length := by rw [← h.1]; exact hi
  exact ⟨vs[i], List.getElem?_eq_getElem hv, h.2 i x _ hx (List.getElem?_eq_getElem hv)⟩
theorem VRs.drop {cs : List AV} {vs : List Value} (h : VRs ρ B w cs vs) (n : Nat) : VRs ρ B w (cs.drop n) (vs.drop n) :=
  ⟨by simp [h.1], fun i x y hx hy => h.2 (n + i) x y (by simpa using hx) (by simpa using hy)⟩
theorem VRs.take {cs : List AV} {vs : List Value} (h : VRs ρ B w cs vs) (n : Nat) : VRs ρ B w (cs.take n) (vs.take n) := by
  refine ⟨by simp [h.1], fun i x y hx hy => ?_⟩
  rw [List.getElem?_take] at hx hy
  split at hx
  · rw [if_pos (by assumption)] at hy
    exact h.2 i x y hx hy
  · cases hx
theorem VR.agg' {cs : List AV} {vs : List Value} (h : VRs ρ B w cs vs) : VR ρ B w (.agg cs) (.agg ⟨vs⟩) := .agg h.1 h.2
theorem VR.tup' {cs : List AV} {vs : List Value} (h : VRs ρ B w cs vs) : VR ρ B w (.tup cs) (.tuple ⟨vs⟩) := .tup h.1 h.2
theorem VR.agg_inv {cs : List AV} {v : Value} (h : VR ρ B w (.agg cs) v) : ∃ vs, v = .agg ⟨vs⟩ ∧ VRs ρ B w cs vs := by
  cases h with
  | agg h1 h2 => exact ⟨_, rfl, h1, h2⟩
theorem VR.tup_inv {cs : List AV} {v : Value} (h : VR ρ B w (.tup cs) v) : ∃ vs, v = .tuple ⟨vs⟩ ∧ VRs ρ B w cs vs := by
  cases h with
  | tup h1 h2 => exact ⟨_, rfl, h1, h2⟩
theorem VR.sc_inv {u v : Value} (h : VR ρ B w (.sc u) v) : v = u := by cases h; rfl
theorem VR.ptr_inv {b off : Nat} {v : Value} (h : VR ρ B w (.ptr b off) v) : ∃ l, ρ b = some l ∧ v = .pointer (some ⟨l.c, l.sh + off, none⟩) := by
  cases h with
  | ptr h => exact ⟨_, h, rfl⟩
theorem VR.sl_inv {b off len : Nat} {cap : Option Nat} {sz : Nat} {v : Value} (h : VR ρ B w (.sl b off len cap sz) v) :
    ∃ l ck o, v = .slice (some ⟨l.c, o, none⟩) len ck ∧ ρ b = some l ∧ len ≤ ck ∧ (∀ k, cap = some k → ck = k) ∧ (ck = 0 ∨ o = l.sh + off) ∧ (cap = none → l.sh + off + ck * sz = l.n) := by
  cases h with
  | sl h1 h2 h3 h4 h5 => exact ⟨_, _, _, rfl, h1, h2, h3, h4, h5⟩
theorem VR.ro_inv {own : Bool} {cells : List AV} {len : Nat} {cap : Option Nat} {sz : Nat} {v : Value} (h : VR ρ B w (.ro own cells len cap sz) v) :
    ∃ (a : Option Addr) (ck : Nat) (ys : Nat → Value), v = .slice a len ck ∧ cells.length = len * sz ∧ len ≤ ck ∧ (∀ k, cap = some k → ck = k) ∧ (len ≠ 0 → a ≠ none) ∧
      (cells ≠ [] → ∃ c o, a = some ⟨c, o, none⟩ ∧ ¬ Managed ρ c ∧ (own = true → B ≤ c) ∧ ∀ i : Nat, i < cells.length → w.cell? ⟨c, o + i, none⟩ = some (ys i)) ∧
      (∀ (i : Nat) x, cells[i]? = some x → VR ρ B w x (ys i)) := by
  cases h with
  | ro ys h1 h2 h3 h4 h5 h6 => exact ⟨_, _, ys, rfl, h1, h2, h3, h4, h5, h6⟩
theorem VR.fn_inv {f : FuncId} {first cap : List AV} {v : Value} (h : VR ρ B w (.fn f first cap) v) : ∃ l c, v = .func (.func f) ⟨l⟩ ⟨c⟩ ∧ VRs ρ B w first l ∧ VRs ρ B w cap c := by
  cases h with
  | fn h1 h2 h3 h4 => exact ⟨_, _, rfl, ⟨h1, h3⟩, ⟨h2, h4⟩⟩
theorem VR.undef : VR ρ B w undefA undef := .tup' VRs.nil

theorem VRs.sc (l : List Value) : VRs ρ B w (l.map .sc) l := by
  induction l with
  | nil => exact VRs.nil
  | cons x l ih => exact VRs.cons (.sc x) ih
theorem VR.ofVal1 (v : Value) : VR ρ B w (ofVal1 v) v := by
  unfold Eng.ofVal1
  split
  · rename_i cs
    obtain ⟨l⟩ := cs
    exact .agg' (VRs.sc l)
  · exact .sc _
theorem VRs.ofVal1 (l : List Value) : VRs ρ B w (l.map Eng.ofVal1) l := by
  induction l with
  | nil => exact VRs.nil
  | cons x l ih => exact VRs.cons (VR.ofVal1 x) ih
theorem VR.ofVal (v : Value) : VR ρ B w (ofVal v) v := by
  unfold Eng.ofVal
  split
  · rename_i vs
    obtain ⟨l⟩ := vs
    exact .tup' (VRs.ofVal1 l)
  · exact VR.ofVal1 _
theorem allSc_inv {cs : List AV} {l vs : List Value} (h : allSc cs = some l) (hr : VRs ρ B w cs vs) : vs = l := by
  induction cs generalizing l vs with
  | nil => rw [hr.nil_inv]; simp [allSc] at h; exact h.symm ▸ rfl
  | cons x cs ih =>
    obtain ⟨y, l', rfl, hx, hl⟩ := hr.cons_inv
    cases x <;> simp only [allSc] at h <;> try (cases h; done)
    rename_i v
    split at h
    · rename_i r hr'
      injection h with h
      rw [← h, ih hr' hl, hx.sc_inv]
    · cases h
theorem toVal_inv {a : AV} {u v : Value} (h : toVal a = some u) (hr : VR ρ B w a v) : v = u := by
  unfold toVal at h
  split at h
  · injection h with h; rw [hr.sc_inv, h]
  · split at h
    · injection h with h
      obtain ⟨vs, rfl, hv⟩ := hr.agg_inv
      rw [allSc_inv (by assumption) hv, ← h]
    · cases h
  · cases h
end

/-! ### Steps -/
def Free (ρ : Rho) (lo hi : Nat) : Prop := ∀ b, lo ≤ b → b < hi → ρ b = none
theorem Free.self (ρ : Rho) (n : Nat) : Free ρ n n := fun b h1 h2 => by omega
structure Step (n : Nat) (ρ : Rho) (w : World) (ρ' : Rho) (w' : World) : Prop where
  ext : ∀ b l, ρ b = some l → ρ' b = some l
  man : ∀ b l, ρ' b = some l → ρ b = some l ∨ w.heap.size ≤ l.c ∨ ∃ b0 l0, b0 < n ∧ ρ b0 = some l0 ∧ l0.c = l.c
  keep : ∀ c, c < w.heap.size → (∀ b l, b < n → ρ b = some l → l.c ≠ c) → w'.heap[c]? = w.heap[c]?
  size : w.heap.size ≤ w'.heap.size
  os : w'.os = w.os
  tape : w'.tape = w.tape
  output : w'.output = w.output
theorem Step.managed {n : Nat} {ρ ρ' : Rho} {w w' : World} (h : Step n ρ w ρ' w') {c : Nat} (hc : Managed ρ' c) : Managed ρ c ∨ w.heap.size ≤ c := by
  obtain ⟨b, l, hb, rfl⟩ := hc
  rcases h.man b l hb with h1 | h1 | ⟨b0, l0, _, h0, h1⟩
  · exact .inl ⟨b, l, h1, rfl⟩
  · exact .inr h1
  · exact .inl ⟨b0, l0, h0, h1⟩
theorem Step.keepM {n : Nat} {ρ ρ' : Rho} {w w' : World} (h : Step n ρ w ρ' w') {c : Nat} (hc : c < w.heap.size) (hm : ¬ Managed ρ c) : w'.heap[c]? = w.heap[c]? :=
  h.keep c hc fun b l _ hb e => hm ⟨b, l, hb, e⟩
theorem Step.refl (n : Nat) (ρ : Rho) (w : World) : Step n ρ w ρ w := ⟨fun _ _ h => h, fun _ _ h => .inl h, fun _ _ _ => rfl, Nat.le_refl _, rfl, rfl, rfl⟩
theorem Step.trans {n n1 : Nat} {ρ ρ1 ρ2 : Rho} {w w1 w2 : World} (h : Step n ρ w ρ1 w1) (k : Step n1 ρ1 w1 ρ2 w2) (hf : Free ρ n n1) : Step n ρ w ρ2 w2 := by
  refine ⟨fun b l hb => k.ext b l (h.ext b l hb), fun b l hb => ?_, fun c hc hm => ?_, Nat.le_trans h.size k.size, k.os.trans h.os, k.tape.trans h.tape, k.output.trans h.output⟩
  · rcases k.man b l hb with h1 | h1 | ⟨b0, l0, hlt, h0, h1⟩
    · exact h.man b l h1
    · exact .inr (.inl (Nat.le_trans h.size h1))
    · rcases h.man b0 l0 h0 with h2 | h2 | ⟨b1, l1, hlt1, h3, h2⟩
      · by_cases hb0 : b0 < n
        · exact .inr (.inr ⟨b0, l0, hb0, h2, h1⟩)
        · rw [hf b0 (by omega) hlt] at h2; cases h2
      · exact .inr (.inl (by omega))
      · exact .inr (.inr ⟨b1, l1, hlt1, h3, by omega⟩)
  · rw [k.keep c (Nat.lt_of_lt_of_le hc h.size) ?_, h.keep c hc hm]
    intro b l hlt hb e
    rcases h.man b l hb with h2 | h2 | ⟨b1, l1, hlt1, h3, h2⟩
    · by_cases hb0 : b < n
      · exact hm b l hb0 h2 e
      · rw [hf b (by omega) hlt] at h2; cases h2
    · omega
    · exact hm b1 l1 hlt1 h3 (by omega)
theorem Step.drew (n : Nat) (ρ : Rho) (w : World) : Step n ρ w ρ w.drew := ⟨fun _ _ h => h, fun _ _ h => .inl h, fun _ _ _ => rfl, Nat.le_refl _, rfl, rfl, rfl⟩

theorem VR.step {n : Nat} {ρ ρ' : Rho} {B : Nat} {w w' : World} {a : AV} {v : Value} (h : VR ρ B w a v) (s : Step n ρ w ρ' w') : VR ρ' B w' a v := by
  have fr : ∀ c o i y, ¬ Managed ρ c → w.cell? ⟨c, o + i, none⟩ = some y → ¬ Managed ρ' c ∧ w'.cell? ⟨c, o + i, none⟩ = some y := by
    intro c o i y hm hc
    have hlt : c < w.heap.size := World.block_lt_of_cell? w _ hc
    refine ⟨fun hm' => ?_, ?_⟩
    · rcases s.managed hm' with h1 | h1
      · exact hm h1
      · omega
    · rw [← hc]
      exact World.cell?_of_block (w := w) (s.keepM hlt hm)
  induction h with
  | sc v => exact .sc v
  | ptr h => exact .ptr (s.ext _ _ h)
  | sl h h1 h2 h3 h4 => exact .sl (s.ext _ _ h) h1 h2 h3 h4
  | @ro own cells len cap sz a ck ys h1 h2 h3 h4 h5 h6 ih =>
    refine .ro ys h1 h2 h3 h4 (fun hne => ?_) ih
    obtain ⟨c, o, ha, hm, hB, hc⟩ := h5 hne
    have h0 : 0 < cells.length := List.length_pos_iff.2 hne
    exact ⟨c, o, ha, (fr c o 0 _ hm (hc 0 h0)).1, hB, fun i hi => (fr c o i _ hm (hc i hi)).2⟩
  | @rp own cells c o ys hm hB hc hlt h6 ih =>
    refine .rp ys (fun hm' => ?_) hB (fun i hi => (fr c o i _ hm (hc i hi)).2) (Nat.lt_of_lt_of_le hlt s.size) ih
    rcases s.managed hm' with h1 | h1
    · exact hm h1
    · omega
  | fn h1 h2 h3 h4 ih1 ih2 => exact .fn h1 h2 ih1 ih2
  | ifc h ih => exact .ifc ih
  | agg h1 h2 ih => exact .agg h1 ih
  | tup h1 h2 ih => exact .tup h1 ih
  | any => exact .any
theorem VRs.step {n : Nat} {ρ ρ' : Rho} {B : Nat} {w w' : World} {a : List AV} {v : List Value} (h : VRs ρ B w a v) (s : Step n ρ w ρ' w') : VRs ρ' B w' a v :=
  ⟨h.1, fun i x y hx hy => (h.2 i x y hx hy).step s⟩

/-! ### Heaps -/
def CellsAt (ρ : Rho) (B : Nat) (w : World) (l : Loc) (cells : List AV) : Prop :=
  ∃ (arr : Array Value) (el : TypeId), w.heap[l.c]? = some (.cells arr el (0, 0)) ∧ arr.size = l.n ∧ l.sh + cells.length ≤ l.n ∧
    ∀ (i : Nat) x, cells[i]? = some x → ∃ y, arr[l.sh + i]? = some y ∧ VR ρ B w x y
structure Sim (ρ : Rho) (B : Nat) (w : World) (hp : Hp) : Prop where
  blk : ∀ b cs, hp.get b = some ⟨cs, true⟩ → ∃ l, ρ b = some l ∧ CellsAt ρ B w l cs
  inj : ∀ b b' cs cs' l l', hp.get b = some ⟨cs, true⟩ → hp.get b' = some ⟨cs', true⟩ → ρ b = some l → ρ b' = some l' → l.c = l'.c → b = b'
  new : ∀ b l, ρ b = some l → B ≤ l.c ∧ l.c < w.heap.size
  out : ∀ b, hp.n ≤ b → hp.get b = none
  low : hp.n ≤ 1000000000

structure HpKeep (hp hp' : Hp) : Prop where
  n : hp.n ≤ hp'.n
  wl : ∀ b, b < hp.n → b ∈ hp.wl → b ∈ hp'.wl
  get : ∀ b, b < hp.n → b ∉ hp'.wl → hp'.get b = hp.get b
theorem HpKeep.refl (hp : Hp) : HpKeep hp hp := ⟨Nat.le_refl _, fun _ _ h => h, fun _ _ _ => rfl⟩
theorem HpKeep.trans {a b c : Hp} (h : HpKeep a b) (k : HpKeep b c) : HpKeep a c := by
  refine ⟨Nat.le_trans h.n k.n, fun x hx hm => k.wl x (Nat.lt_of_lt_of_le hx h.n) (h.wl x hx hm), fun x hx hm => ?_⟩
  have h1 : x ∉ b.wl := fun hb => hm (k.wl x (Nat.lt_of_lt_of_le hx h.n) hb)
  rw [k.get x (Nat.lt_of_lt_of_le hx h.n) hm, h.get x hx h1]

theorem Hp.get_wlSet (h : Hp) (l : List Nat) (b : Nat) : (h.wlSet l).get b = h.get b := by cases h; rfl
theorem Hp.n_wlSet (h : Hp) (l : List Nat) : (h.wlSet l).n = h.n := by cases h; rfl
theorem Hp.wl_wlSet (h : Hp) (l : List Nat) : (h.wlSet l).wl = l := by cases h; rfl
theorem Hp.get_log (h : Hp) (c b : Nat) : (h.log c).get b = h.get b := by cases h; rfl
theorem Hp.n_log (h : Hp) (c : Nat) : (h.log c).n = h.n := by cases h; rfl
theorem Hp.wl_log (h : Hp) (c : Nat) : (h.log c).wl = c :: h.wl := by cases h; rfl
theorem Hp.n_set (h : Hp) (b : Nat) (x : Blk) : (h.set b x).n = h.n := by cases h; rfl
theorem Hp.wl_set (h : Hp) (b : Nat) (x : Blk) : (h.set b x).wl = h.wl := by cases h; rfl
theorem Hp.n_new (h : Hp) (c : List AV) : (h.new c).n = h.n + 1 := by cases h; rfl
theorem Hp.wl_new (h : Hp) (c : List AV) : (h.new c).wl = h.wl := by cases h; rfl
theorem Hp.get_set (h : Hp) (b : Nat) (x : Blk) (j : Nat) (hb : b < 1000000000) : (h.set b x).get j = if j = b then some x else h.get j := by
  cases h; exact Tr.get_put fuelT _ b _ _ (by show b < 2 ^ 30 - 1; omega)
theorem Hp.get_new (h : Hp) (c : List AV) (j : Nat) (hb : h.n < 1000000000) : (h.new c).get j = if j = h.n then some ⟨c, true⟩ else h.get j := by
  obtain ⟨n, t, wl⟩ := h; exact Tr.get_put fuelT _ n _ _ (by show n < 2 ^ 30 - 1; simp only at hb; omega)

theorem Sim.wlSet {ρ : Rho} {B : Nat} {w : World} {hp : Hp} (h : Sim ρ B w hp) (l : List Nat) : Sim ρ B w (hp.wlSet l) := by
  refine ⟨?_, ?_, h.new, ?_, ?_⟩
  · intro b cs; rw [Hp.get_wlSet]; exact h.blk b cs
  · intro b b' cs cs' l l'; rw [Hp.get_wlSet, Hp.get_wlSet]; exact h.inj b b' cs cs' l l'
  · intro b; rw [Hp.n_wlSet, Hp.get_wlSet]; exact h.out b
  · rw [Hp.n_wlSet]; exact h.low
theorem Sim.unset {ρ : Rho} {B : Nat} {w : World} {hp : Hp} {l : List Nat} (h : Sim ρ B w (hp.wlSet l)) : Sim ρ B w hp := by
  have := h.wlSet hp.wl
  cases hp; exact this
theorem CellsAt.step {n : Nat} {ρ ρ' : Rho} {B : Nat} {w w' : World} {l : Loc} {cs : List AV} (h : CellsAt ρ B w l cs) (s : Step n ρ w ρ' w') (hb : w'.heap[l.c]? = w.heap[l.c]?) : CellsAt ρ' B w' l cs := by
  obtain ⟨arr, el, h1, h2, h3, h4⟩ := h
  exact ⟨arr, el, hb.trans h1, h2, h3, fun i x hx => by obtain ⟨y, hy, hv⟩ := h4 i x hx; exact ⟨y, hy, hv.step s⟩⟩

theorem Sim.drew {ρ : Rho} {B : Nat} {w : World} {hp : Hp} (h : Sim ρ B w hp) : Sim ρ B w.drew hp :=
  ⟨fun b cs hb => by obtain ⟨l, hl, hc⟩ := h.blk b cs hb; exact ⟨l, hl, hc.step (Step.drew 0 ρ w) rfl⟩, h.inj, h.new, h.out, h.low⟩

def Rho.add (ρ : Rho) (b : Nat) (l : Loc) : Rho := fun x => if x = b then some l else ρ x
theorem Rho.add_same (ρ : Rho) (b : Nat) (l : Loc) : ρ.add b l b = some l := by simp [Rho.add]
theorem Rho.add_other (ρ : Rho) {b x : Nat} (l : Loc) (h : x ≠ b) : ρ.add b l x = ρ x := by simp [Rho.add, h]

theorem Step.alloc {n : Nat} {ρ : Rho} {w : World} {b : Nat} (hb : ρ b = none) (o : Obj) (l : Loc) (hl : l.c = w.heap.size) : Step n ρ w (ρ.add b l) (w.alloc o) := by
  refine ⟨fun x k hx => ?_, fun x k hx => ?_, fun c hc _ => ?_, by simp, rfl, rfl, rfl⟩
  · rw [Rho.add_other _ _ (fun e => by subst e; rw [hb] at hx; cases hx)]; exact hx
  · by_cases e : x = b
    · subst e; rw [Rho.add_same] at hx; injection hx with hx; subst hx; right; left; omega
    · rw [Rho.add_other _ _ e] at hx; exact .inl hx
  · exact Below.heap_alloc w o c hc
theorem Step.allocOnly (n : Nat) (ρ : Rho) (w : World) (o : Obj) : Step n ρ w ρ (w.alloc o) :=
  ⟨fun _ _ h => h, fun _ _ h => .inl h, fun c hc _ => Below.heap_alloc w o c hc, by simp, rfl, rfl, rfl⟩
theorem Sim.allocOnly {ρ : Rho} {B : Nat} {w : World} {hp : Hp} (h : Sim ρ B w hp) (o : Obj) : Sim ρ B (w.alloc o) hp :=
  ⟨fun b cs hb => by
    obtain ⟨l, hl, hc⟩ := h.blk b cs hb
    exact ⟨l, hl, hc.step (Step.allocOnly 0 ρ w o) (Below.heap_alloc w o _ (h.new b l hl).2)⟩, h.inj, fun b l hl => by have := h.new b l hl; simp; omega, h.out, h.low⟩

theorem Sim.adopt {ρ : Rho} {B : Nat} {w : World} {hp : Hp} (h : Sim ρ B w hp) (cs : List AV) (l : Loc) (hn : hp.n < 1000000000) (hl : ρ hp.n = some l)
    (hm : ∀ b cs k, hp.get b = some ⟨cs, true⟩ → ρ b = some k → k.c ≠ l.c) (hc : CellsAt ρ B w l cs) : Sim ρ B w (hp.new cs) := by
  refine ⟨fun b ds hb => ?_, fun b b' ds ds' k k' hb hb' hk hk' hkk => ?_, h.new, fun b hb => ?_, ?_⟩
  · rw [Hp.get_new _ _ _ hn] at hb
    by_cases e : b = hp.n
    · rw [if_pos e] at hb; injection hb with hb; injection hb with h1; subst h1; subst e
      exact ⟨l, hl, hc⟩
    · rw [if_neg e] at hb
      exact h.blk b ds hb
  · rw [Hp.get_new _ _ _ hn] at hb hb'
    by_cases e : b = hp.n
    · by_cases e' : b' = hp.n
      · omega
      · exfalso
        rw [if_neg e'] at hb'
        subst e
        rw [hl] at hk; injection hk with hk; subst hk
        exact hm b' ds' k' hb' hk' hkk.symm
    · by_cases e' : b' = hp.n
      · exfalso
        rw [if_neg e] at hb
        subst e'
        rw [hl] at hk'; injection hk' with hk'; subst hk'
        exact hm b ds k hb hk hkk
      · rw [if_neg e] at hb; rw [if_neg e'] at hb'
        exact h.inj b b' ds ds' k k' hb hb' hk hk' hkk
  · rw [Hp.n_new] at hb
    rw [Hp.get_new _ _ _ hn, if_neg (by omega)]; exact h.out b (by omega)
  · rw [Hp.n_new]; omega
theorem Sim.place {ρ : Rho} {B : Nat} {w : World} {hp : Hp} (h : Sim ρ B w hp) {b : Nat} (hb : hp.n ≤ b) (hf : ρ b = none) (o : Obj) (l : Loc) (hl : l.c = w.heap.size) (hB : B ≤ w.heap.size) :
    (∀ n, Step n ρ w (ρ.add b l) (w.alloc o)) ∧ Sim (ρ.add b l) B (w.alloc o) hp := by
  have s0 : ∀ n, Step n ρ w (ρ.add b l) (w.alloc o) := fun n => Step.alloc (w := w) hf o l hl
  have s1 := s0 0
  have ne : ∀ x cs, hp.get x = some ⟨cs, true⟩ → x ≠ b := fun x cs hx e => by
    subst e; rw [h.out _ hb] at hx; cases hx
  refine ⟨s0, fun x cs hx => ?_, fun x x' cs cs' k k' hx hx' hk hk' hkk => ?_, fun x k hx => ?_, h.out, h.low⟩
  · obtain ⟨k, hk, hc⟩ := h.blk x cs hx
    exact ⟨k, by rw [Rho.add_other _ _ (ne x cs hx)]; exact hk, hc.step s1 (Below.heap_alloc w o _ (h.new x k hk).2)⟩
  · rw [Rho.add_other _ _ (ne x cs hx)] at hk; rw [Rho.add_other _ _ (ne x' cs' hx')] at hk'
    exact h.inj x x' cs cs' k k' hx hx' hk hk' hkk
  · by_cases e : x = b
    · subst e; rw [Rho.add_same] at hx; injection hx with hx; subst hx; rw [hl]; exact ⟨hB, by simp⟩
    · rw [Rho.add_other _ _ e] at hx; have := h.new x k hx; simp; omega

theorem HpKeep.new (hp : Hp) (cs : List AV) (hn : hp.n < 1000000000) : HpKeep hp (hp.new cs) :=
  ⟨by rw [Hp.n_new]; omega, fun b _ h => by rw [Hp.wl_new]; exact h, fun b hb _ => by rw [Hp.get_new _ _ _ hn, if_neg (by omega)]⟩

theorem Sim.notNew {ρ : Rho} {B : Nat} {w : World} {hp : Hp} (h : Sim ρ B w hp) : ¬ Managed ρ w.heap.size := by
  rintro ⟨b, l, hb, hl⟩
  have := (h.new b l hb).2
  omega
def RhoIn (ρ ρ' : Rho) (lo hi : Nat) : Prop := ∀ b, ¬ (lo ≤ b ∧ b < hi) → ρ' b = ρ b
theorem RhoIn.refl (ρ : Rho) (lo hi : Nat) : RhoIn ρ ρ lo hi := fun _ _ => rfl
theorem RhoIn.trans {a b c : Rho} {l m h : Nat} (x : RhoIn a b l m) (y : RhoIn b c m h) (hm : l ≤ m) (hh : m ≤ h) : RhoIn a c l h := fun k hk => by
  rw [y k (by omega), x k (by omega)]
theorem Free.next {a b : Rho} {l m h : Nat} (f : Free a l h) (x : RhoIn a b l m) (hm : l ≤ m) : Free b m h := fun k h1 h2 => by
  rw [x k (by omega)]; exact f k (by omega) h2
theorem Free.cut {a : Rho} {l m h : Nat} (f : Free a l h) (hm : m ≤ h) : Free a l m := fun k h1 h2 => f k h1 (by omega)
theorem Sim.alloc {ρ : Rho} {B : Nat} {w : World} {hp : Hp} (h : Sim ρ B w hp) (cs : List AV) (arr : Array Value) (el : TypeId) (hn : hp.n < 1000000000) (hf : ρ hp.n = none) (hB : B ≤ w.heap.size)
    (hlen : cs.length ≤ arr.size) (hc : ∀ (i : Nat) x, cs[i]? = some x → ∃ y, arr[i]? = some y ∧ VR ρ B w x y) :
    (∀ n, Step n ρ w (ρ.add hp.n ⟨w.heap.size, 0, arr.size⟩) (w.alloc (.cells arr el))) ∧ Sim (ρ.add hp.n ⟨w.heap.size, 0, arr.size⟩) B (w.alloc (.cells arr el)) (hp.new cs) ∧ RhoIn ρ (ρ.add hp.n ⟨w.heap.size, 0, arr.size⟩) hp.n (hp.n + 1) := by
  obtain ⟨s1, h1⟩ := h.place (Nat.le_refl _) hf (.cells arr el) ⟨w.heap.size, 0, arr.size⟩ rfl hB
  refine ⟨s1, h1.adopt cs ⟨w.heap.size, 0, arr.size⟩ hn (Rho.add_same _ _ _) (fun b ds k hb hk => ?_) ?_, fun b hb => Rho.add_other _ _ (by omega)⟩
  · have e : b ≠ hp.n := fun e => by subst e; rw [h.out _ (Nat.le_refl _)] at hb; cases hb
    rw [Rho.add_other _ _ e] at hk
    have := (h.new b k hk).2
    simp; omega
  · refine ⟨arr, el, by simpa using heap_alloc_new w _, rfl, by simpa using hlen, fun i x hx => ?_⟩
    obtain ⟨y, hy, hv⟩ := hc i x hx
    exact ⟨y, by simpa using hy, hv.step (s1 0)⟩
end Go.Eng
end
section
set_option linter.unusedVariables false
set_option linter.unusedSimpArgs false
namespace Go.Eng
open Go Go.RowKit

theorem run_pv {P : Program} {α : Type} (s : Sem α) {a : α} (h : pv P s = some a) (w : World) : s.run P w = .ok a w := by
  induction s with
  | pure b => simp [pv] at h; subst h; rfl
  | program k ih => exact ih P (by simpa [pv] using h)
  | _ => simp [pv] at h

section
variable {P : Program} {ρ : Rho} {B : Nat} {w : World}

def EvR (ρ : Rho) (B : Nat) (w : World) (ev : Operand → Option AV) (e : Operand → Value) : Prop := ∀ x u, ev x = some u → VR ρ B w u (e x)
variable {ev : Operand → Option AV} {e : Operand → Value}

theorem run_info {t : TypeId} {i : TypeInfo} (h : P.info? t = some i) : (typeInfo t).run P w = .ok i w := by simp [typeInfo, h]
theorem run_sizeOf {t : TypeId} {n : Nat} (h : szOf P t = some n) : (sizeOf t).run P w = .ok n w := by
  unfold szOf at h
  split at h
  · rename_i i hi
    injection h with h
    simp [sizeOf, run_info hi, h]
  · cases h
theorem run_isAgg {t : TypeId} {b : Bool} (h : isAggT P t = some b) : (isAgg t).run P w = .ok b w := by
  unfold isAggT at h
  split at h
  · rename_i hu; injection h with h; subst h; simp [isAgg, run_underlying hu]
  · rename_i hu; injection h with h; subst h; simp [isAgg, run_underlying hu]
  · rename_i d h1 h2 hu
    injection h with h; subst h
    simp only [isAgg, Sem.run_bind, run_underlying hu, Result.andThen]
    cases d <;> first | rfl | exact absurd rfl (h1 _) | exact absurd rfl (h2 _ _) | simp_all
  · cases h
theorem asIx_inv {a : AV} {i : Int} {v : Value} (h : asIx a = some i) (hr : VR ρ B w a v) : ∃ k, v = .int k i := by
  unfold asIx at h
  split at h
  · injection h with h; subst h; exact ⟨_, hr.sc_inv⟩
  · cases h

theorem partA_ok {t : TypeId} {cs : List AV} {off : Nat} {v : AV} {vs : List Value} (h : partA P t cs off = some v) (hr : VRs ρ B w cs vs) :
    ∃ y, (part t ⟨vs⟩ off).run P w = .ok y w ∧ VR ρ B w v y := by
  unfold partA at h
  split at h
  · rename_i n ha hs
    simp only at h
    split at h
    · rename_i hl
      injection h with h; subst h
      refine ⟨.agg ⟨(vs.drop off).take n⟩, ?_, .agg' ((hr.drop off).take n)⟩
      simp only [part, Sem.run_bind, run_isAgg ha, Result.andThen, if_true, run_sizeOf hs]
      simp [List.extract_eq_take_drop]
    · cases h
  · rename_i n ha
    obtain ⟨y, hy, hv⟩ := hr.get h
    refine ⟨y, ?_, hv⟩
    simp only [part, Sem.run_bind, run_isAgg ha, Result.andThen, Bool.false_eq_true, if_false]
    simp [hy]
  · cases h

theorem VR.ptrOf {own : Bool} {cells : List AV} {v : Value} (h : VR ρ B w (.rp own cells) v) (n : Nat) (hn : n ≤ cells.length) :
    ∃ c o, v = .pointer (some ⟨c, o, none⟩) ∧ VR ρ B w (.rp own (cells.drop n)) (.pointer (some ⟨c, o + n, none⟩)) := by
  cases h with
  | @rp _ _ c o ys h1 h2 h3 h4 h5 =>
    refine ⟨c, o, rfl, .rp (fun i => ys (n + i)) h1 h2 (fun i hi => ?_) h4 (fun i x hx => h5 (n + i) x (by simpa using hx))⟩
    rw [Nat.add_assoc]
    exact h3 (n + i) (by simp at hi; omega)

theorem addr_add {c o n : Nat} : (⟨c, o, none⟩ : Addr).add n = ⟨c, o + n, none⟩ := by
  unfold Addr.add; split <;> simp_all

theorem fieldA_ok {s : TypeId} {x v : AV} {f : Nat} {u : Value} (h : fieldA P s x f = some v) (hr : VR ρ B w x u) :
    ∃ y, (Instr.fieldAt s u f).run P w = .ok y w ∧ VR ρ B w v y := by
  unfold fieldA at h
  split at h
  · rename_i fs hu
    split at h
    · rename_i fd hf
      split at h
      · rename_i n hs
        have run1 : ∀ c o, (Instr.fieldAt s (.pointer (some ⟨c, o, none⟩)) f).run P w = .ok (.pointer (some ⟨c, o + fd.offset, none⟩)) w := by
          intro c o
          simp [Instr.fieldAt, run_underlying hu, hf, Instr.sureAddr, fieldPlace, run_sizeOf hs, addr_add]
        split at h
        · injection h with h; subst h
          obtain ⟨l, hl, rfl⟩ := hr.ptr_inv
          exact ⟨_, run1 _ _, by rw [Nat.add_assoc]; exact .ptr hl⟩
        · split at h
          · injection h with h; subst h
            obtain ⟨c, o, rfl, hv⟩ := hr.ptrOf fd.offset (by assumption)
            exact ⟨_, run1 _ _, hv⟩
          · cases h
        · cases h
      · cases h
    · cases h
  · cases h

theorem indexA_ok {t : TypeId} {x ix v : AV} {u j : Value} (h : indexA P t x ix = some v) (hr : VR ρ B w x u) (hj : VR ρ B w ix j) :
    ∃ y, (Instr.indexAt t u j).run P w = .ok y w ∧ VR ρ B w v y := by
  unfold indexA at h
  split at h
  · cases h
  · rename_i i hi
    obtain ⟨k, rfl⟩ := asIx_inv hi hj
    split at h
    · rename_i len el hu
      split at h
      · rename_i sz hs
        split at h
        · rename_i hb
          have run1 : ∀ c o, (Instr.indexAt t (.pointer (some ⟨c, o, none⟩)) (.int k i)).run P w = .ok (.pointer (some ⟨c, o + i.toNat * sz, none⟩)) w := by
            intro c o
            simp [Instr.indexAt, run_underlying hu, Instr.sureAddr, asIntOf, run_sizeOf hs, addr_add, hb]
          split at h
          · injection h with h; subst h
            obtain ⟨l, hl, rfl⟩ := hr.ptr_inv
            exact ⟨_, run1 _ _, by rw [Nat.add_assoc]; exact .ptr hl⟩
          · split at h
            · injection h with h; subst h
              obtain ⟨c, o, rfl, hv⟩ := hr.ptrOf (i.toNat * sz) (by assumption)
              exact ⟨_, run1 _ _, hv⟩
            · cases h
          · cases h
        · cases h
      · cases h
    · rename_i el hu
      split at h
      · rename_i sz hs
        have run1 : ∀ c o len cap, (0 ≤ i ∧ i < (len : Nat)) → (Instr.indexAt t (.slice (some ⟨c, o, none⟩) len cap) (.int k i)).run P w = .ok (.pointer (some ⟨c, o + i.toNat * sz, none⟩)) w := by
          intro c o len cap hb
          simp [Instr.indexAt, run_underlying hu, asIntOf, run_sizeOf hs, addr_add, hb]
        split at h
        · split at h
          · rename_i es
            split at h
            · rename_i hb
              injection h with h; subst h
              obtain ⟨l, ck, o', rfl, hl, h1, h2, h3, h4⟩ := hr.sl_inv
              have hck : ck ≠ 0 := by omega
              have ho := h3.resolve_left hck
              subst ho
              exact ⟨_, run1 _ _ _ _ hb, by rw [Nat.add_assoc]; exact .ptr hl⟩
            · cases h
          · cases h
        · rename_i _ cellsx lenx _ szx
          split at h
          · rename_i es
            obtain ⟨es, hz⟩ := es
            split at h
            · rename_i hb
              injection h with h; subst h
              obtain ⟨a, ck, ys, rfl, h1, h2, h3, h4, h5, h6⟩ := hr.ro_inv
              subst es
              have hbound := Nat.mul_le_mul_right (k := szx) (show i.toNat + 1 ≤ lenx by omega)
              rw [Nat.add_mul] at hbound
              have hne : cellsx ≠ [] := by intro e; subst e; simp at h1; omega
              obtain ⟨c, o, rfl, hm, hB, hc⟩ := h5 hne
              refine ⟨_, run1 _ _ _ _ hb, .rp (fun q => ys (i.toNat * szx + q)) hm hB (fun q hq => ?_) ?_ (fun q x hx => h6 _ x (by simpa using hx))⟩
              · rw [Nat.add_assoc]; exact hc _ (by simp at hq; omega)
              · exact World.block_lt_of_cell? w _ (hc 0 (List.length_pos_iff.2 hne))
            · cases h
          · cases h
        · cases h
      · cases h
    · cases h

def OptR (ρ : Rho) (B : Nat) (w : World) (x : Option (Option AV)) (y : Option Value) : Prop :=
  (x = none ∧ y = none) ∨ ∃ a v, x = some (some a) ∧ y = some v ∧ VR ρ B w a v
theorem run_sliceBound {k : IntKind} {i : Int} {y : Nat} {code : BoundsCode} (h : 0 ≤ i ∧ i ≤ y) : (Instr.sliceBound (.int k i) y code).run P w = .ok i.toNat w := by
  simp [Instr.sliceBound, asIntOf, h]
theorem boundA_inv {x : Option (Option AV)} {y : Option Value} {d : Nat} {i : Int} (h : boundA x d = some i) (hr : OptR ρ B w x y) :
    (x = none ∧ y = none ∧ i = d) ∨ ∃ k, y = some (.int k i) ∧ x ≠ none := by
  rcases hr with ⟨rfl, rfl⟩ | ⟨a, v, rfl, rfl, hv⟩
  · simp [boundA] at h; exact .inl ⟨rfl, rfl, h.symm⟩
  · obtain ⟨k, rfl⟩ := asIx_inv h hv
    exact .inr ⟨k, rfl, by simp⟩
theorem cutA_ok {isSl : Bool} {len ck : Nat} {cap : Option Nat} {lo hi mx : Option (Option AV)} {lo' hi' mx' : Option Value} {l n : Nat} {c : Option Nat}
    (h : cutA len cap lo hi mx = some (l, n, c)) (h1 : OptR ρ B w lo lo') (h2 : OptR ρ B w hi hi') (h3 : OptR ρ B w mx mx') (hlen : len ≤ ck) (hcap : ∀ k, cap = some k → ck = k) :
    ∃ m, (Instr.sliceBounds isSl len ck lo' hi' mx').run P w = .ok (l, l + n, m) w ∧ l + n ≤ m ∧ m ≤ ck ∧ (∀ k, c = some k → m - l = k) ∧ (c = none → m = ck ∧ cap = none) := by
  unfold cutA at h
  split at h
  · rename_i _ _ il ih hl hh
    have bl := boundA_inv hl h1
    have bh := boundA_inv hh h2
    split at h
    · -- no max
      have hmx : mx' = none := by
        rcases h3 with ⟨_, h3⟩ | ⟨a, v, h3, _⟩
        · exact h3
        · cases h3
      subst hmx
      have fin : ∀ k : Nat, k ≤ ck → 0 ≤ il → il ≤ ih → ih ≤ k → (Instr.sliceBounds isSl len ck lo' hi' none).run P w = .ok (il.toNat, il.toNat + (ih.toNat - il.toNat), ck) w := by
        intro k hk a1 a2 a3
        have e : il.toNat + (ih.toNat - il.toNat) = ih.toNat := by omega
        rw [e]
        rcases bl with ⟨rfl, rfl, rfl⟩ | ⟨kl, rfl, _⟩
        · rcases bh with ⟨rfl, rfl, rfl⟩ | ⟨kh, rfl, _⟩
          · simp [Instr.sliceBounds]
          · simp [Instr.sliceBounds, run_sliceBound (P := P) (w := w) (k := kh) (i := ih) (y := ck) (by omega)]
        · rcases bh with ⟨rfl, rfl, rfl⟩ | ⟨kh, rfl, _⟩
          · simp [Instr.sliceBounds, run_sliceBound (P := P) (w := w) (k := kl) (i := il) (y := len) (by omega)]
          · simp [Instr.sliceBounds, run_sliceBound (P := P) (w := w) (k := kh) (i := ih) (y := ck) (by omega), run_sliceBound (P := P) (w := w) (k := kl) (i := il) (y := ih.toNat) (by omega)]
      split at h
      · rename_i cc
        by_cases hb : 0 ≤ il ∧ il ≤ ih ∧ ih ≤ cc
        · rw [if_pos hb] at h
          simp only [Option.some.injEq, Prod.mk.injEq] at h
          obtain ⟨e1, e2, e3⟩ := h
          have e := hcap _ rfl
          subst e1 e2 e3 e
          refine ⟨ck, fin ck (Nat.le_refl _) hb.1 hb.2.1 hb.2.2, by omega, Nat.le_refl _, fun k hk => (by injection hk), fun hk => (by cases hk)⟩
        · rw [if_neg hb] at h; cases h
      · by_cases hb : 0 ≤ il ∧ il ≤ ih ∧ ih ≤ len
        · rw [if_pos hb] at h
          simp only [Option.some.injEq, Prod.mk.injEq] at h
          obtain ⟨e1, e2, e3⟩ := h
          subst e1 e2 e3
          refine ⟨ck, fin len hlen hb.1 hb.2.1 hb.2.2, by omega, Nat.le_refl _, fun k hk => (by cases hk), fun _ => ⟨rfl, rfl⟩⟩
        · rw [if_neg hb] at h; cases h
    · rename_i m0
      split at h
      · rename_i hi0 im hm
        rcases boundA_inv hm h3 with ⟨hx, _⟩ | ⟨km, rfl, _⟩
        · cases hx
        · rcases bh with ⟨hx, _⟩ | ⟨kh, rfl, _⟩
          · cases hx
          · have hmc : 0 ≤ il ∧ il ≤ ih ∧ ih ≤ im ∧ im ≤ ck ∧ some (il.toNat, ih.toNat - il.toNat, some (im.toNat - il.toNat)) = some (l, n, c) := by
              cases cap with
              | none =>
                simp only at h
                by_cases hb : 0 ≤ il ∧ il ≤ ih ∧ ih ≤ im ∧ im ≤ (len : Int)
                · rw [if_pos hb] at h; exact ⟨hb.1, hb.2.1, hb.2.2.1, by omega, h⟩
                · rw [if_neg hb] at h; cases h
              | some k =>
                have e := hcap k rfl
                simp only at h
                by_cases hb : 0 ≤ il ∧ il ≤ ih ∧ ih ≤ im ∧ im ≤ (k : Int)
                · rw [if_pos hb] at h; exact ⟨hb.1, hb.2.1, hb.2.2.1, by omega, h⟩
                · rw [if_neg hb] at h; cases h
            obtain ⟨b1, b2, b3, b4, h⟩ := hmc
            simp only [Option.some.injEq, Prod.mk.injEq] at h
            obtain ⟨e1, e2, e3⟩ := h
            subst e1 e2 e3
            refine ⟨im.toNat, ?_, by omega, by omega, fun k hk => (by injection hk), fun hk => (by cases hk)⟩
            have e : il.toNat + (ih.toNat - il.toNat) = ih.toNat := by omega
            rw [e]
            rcases bl with ⟨rfl, rfl, rfl⟩ | ⟨kl, rfl, _⟩
            · simp [Instr.sliceBounds, run_sliceBound (P := P) (w := w) (k := km) (i := im) (y := ck) (by omega), run_sliceBound (P := P) (w := w) (k := kh) (i := ih) (y := im.toNat) (by omega)]
            · simp [Instr.sliceBounds, run_sliceBound (P := P) (w := w) (k := km) (i := im) (y := ck) (by omega), run_sliceBound (P := P) (w := w) (k := kh) (i := ih) (y := im.toNat) (by omega), run_sliceBound (P := P) (w := w) (k := kl) (i := il) (y := ih.toNat) (by omega)]
      · cases h
  · cases h

theorem sliceA_ok {t : TypeId} {x v : AV} {lo hi mx : Option (Option AV)} {u : Value} {lo' hi' mx' : Option Value} (h : sliceA P t x lo hi mx = some v) (hr : VR ρ B w x u)
    (h1 : OptR ρ B w lo lo') (h2 : OptR ρ B w hi hi') (h3 : OptR ρ B w mx mx') : ∃ y, (Instr.sliceAt t u lo' hi' mx').run P w = .ok y w ∧ VR ρ B w v y := by
  unfold sliceA at h
  split at h
  · rename_i el hu
    split at h
    · rename_i sz hs
      split at h
      · rename_i b o0 len0 cap0 s
        by_cases hz : s = sz
        · rw [if_pos hz] at h
          subst hz
          split at h
          · rename_i l n c hc
            injection h with h; subst h
            obtain ⟨L, ck, o, rfl, hl, g1, g2, g3, g5⟩ := hr.sl_inv
            obtain ⟨m, hrun, q1, q2, q3, q4⟩ := cutA_ok (P := P) (isSl := true) hc h1 h2 h3 g1 g2
            refine ⟨_, by simp only [Instr.sliceAt, Sem.run_bind, run_underlying hu, Result.andThen, Instr.slice, hrun, run_sizeOf hs]; rfl, ?_⟩
            have hk1 := Nat.mul_le_mul_right s q2
            have hk2 : (m - l) * s + l * s = m * s := by rw [← Nat.add_mul]; congr 1; omega
            have hne : ck ≠ 0 → o = L.sh + _ := fun hck => g3.resolve_left hck
            rw [show l + n - l = n from by omega]
            split
            · refine .sl hl (by omega) q3 (.inl (by omega)) (fun hcn => ?_)
              have e := (q4 hcn).1; have e2 := g5 (q4 hcn).2; rw [← e] at e2; omega
            · simp only [Option.map_some, addr_add]
              refine .sl hl (by omega) q3 (.inr ?_) (fun hcn => ?_)
              · have := hne (by omega); omega
              · have e := (q4 hcn).1; have e2 := g5 (q4 hcn).2; rw [← e] at e2; omega
          · cases h
        · rw [if_neg hz] at h; cases h
      · rename_i w0 cs len0 cap0 s
        by_cases hz : s = sz
        · rw [if_pos hz] at h
          subst hz
          split at h
          · rename_i l n c hc
            by_cases hcl : l + n ≤ len0
            · rw [if_pos hcl] at h
              injection h with h; subst h
              obtain ⟨a, ck, ys, rfl, g1, g2, g3, g4, g5, g6⟩ := hr.ro_inv
              obtain ⟨m, hrun, q1, q2, q3, q4⟩ := cutA_ok (P := P) (isSl := true) hc h1 h2 h3 g2 g3
              refine ⟨_, by simp only [Instr.sliceAt, Sem.run_bind, run_underlying hu, Result.andThen, Instr.slice, hrun, run_sizeOf hs]; rfl, ?_⟩
              have hk2 : (l + n) * s = l * s + n * s := Nat.add_mul ..
              have hk3 := Nat.mul_le_mul_right s hcl
              rw [show l + n - l = n from by omega]
              refine .ro (fun i => ys (l * s + i)) (by simp; omega) (by omega) q3 (fun hn => ?_) (fun hne => ?_) (fun i x hx => ?_)
              · rw [if_neg (by omega)]
                have ha := g4 (by omega)
                cases a with
                | none => exact absurd rfl ha
                | some a => simp
              · have hlen : 0 < n * s := by
                  have := List.length_pos_iff.2 hne
                  simp at this; omega
                have hn : n ≠ 0 := by intro e; subst e; simp at hlen
                have hcn : cs ≠ [] := by intro e; subst e; simp at g1; omega
                obtain ⟨c0, o, rfl, hm, hB, hcell⟩ := g5 hcn
                rw [if_neg (by omega)]
                refine ⟨c0, o + l * s, by simp [addr_add], hm, hB, fun i hi => ?_⟩
                rw [Nat.add_assoc]
                exact hcell _ (by simp at hi; omega)
              · rw [List.getElem?_take] at hx
                split at hx
                · exact g6 _ x (by simpa using hx)
                · cases hx
            · rw [if_neg hcl] at h; cases h
          · cases h
        · rw [if_neg hz] at h; cases h
      · have hu0 := hr.sc_inv
        subst hu0
        split at h
        · rename_i r hc
          obtain ⟨l, n, c⟩ := r
          injection h with h; subst h
          obtain ⟨m, hrun, q1, q2, q3, q4⟩ := cutA_ok (P := P) (isSl := true) hc h1 h2 h3 (Nat.le_refl 0) (fun k hk => by injection hk)
          obtain rfl : m = 0 := by omega
          obtain rfl : l = 0 := by omega
          obtain rfl : n = 0 := by omega
          exact ⟨_, by simp only [Instr.sliceAt, Sem.run_bind, run_underlying hu, Result.andThen, Instr.slice, hrun, run_sizeOf hs]; rfl, .sc _⟩
        · cases h
      · cases h
    · cases h
  · rename_i n0 el hu
    split at h
    · rename_i sz hs
      split at h
      · rename_i b o0
        split at h
        · rename_i l n c hc
          injection h with h; subst h
          obtain ⟨L, hl, rfl⟩ := hr.ptr_inv
          obtain ⟨m, hrun, q1, q2, q3, q4⟩ := cutA_ok (P := P) (isSl := false) hc h1 h2 h3 (Nat.le_refl n0) (fun k hk => by injection hk with hk)
          have hcs : c ≠ none := fun e => by have := (q4 e).2; cases this
          refine ⟨_, by simp only [Instr.sliceAt, Sem.run_bind, run_underlying hu, Result.andThen, Instr.sureAddr, Sem.run_pure, hrun, run_sizeOf hs]; rfl, ?_⟩
          rw [show l + n - l = n from by omega]
          split
          · exact .sl hl (by omega) q3 (.inl (by omega)) (fun e => absurd e hcs)
          · rw [addr_add]
            exact .sl hl (by omega) q3 (.inr (by omega)) (fun e => absurd e hcs)
        · cases h
      · cases h
    · cases h
  · rename_i hu
    split at h
    · rename_i s
      have hu0 := hr.sc_inv
      subst hu0
      split at h
      · rename_i l n c hc
        injection h with h; subst h
        have hmx : mx' = none := by
          rcases h3 with ⟨_, h3⟩ | ⟨a, v, h3, _⟩
          · exact h3
          · cases h3
        subst hmx
        obtain ⟨m, hrun, q1, q2, q3, q4⟩ := cutA_ok (P := P) (isSl := false) hc h1 h2 (.inl ⟨rfl, rfl⟩) (Nat.le_refl s.size) (fun k hk => by injection hk)
        exact ⟨_, by simp only [Instr.sliceAt, Sem.run_bind, run_underlying hu, Result.andThen, Instr.slice, hrun, Option.isSome_none, Bool.false_eq_true, if_false]; rfl, .sc _⟩
      · cases h
    · cases h
  · cases h

/-! ### Aggregates -/
theorem setMany_length (cs xs : List AV) (i : Nat) : (setMany cs i xs).length = cs.length := by
  induction xs generalizing cs i with
  | nil => rfl
  | cons x xs ih => simp [setMany, ih]
def setManyV : List Value → Nat → List Value → List Value
  | cs, _, [] => cs
  | cs, i, x :: xs => setManyV (cs.set i x) (i + 1) xs
theorem VRs.set {cs : List AV} {vs : List Value} (h : VRs ρ B w cs vs) {x : AV} {y : Value} (hx : VR ρ B w x y) (i : Nat) : VRs ρ B w (cs.set i x) (vs.set i y) := by
  refine ⟨by simp [h.1], fun j a b ha hb => ?_⟩
  rw [List.getElem?_set] at ha hb
  by_cases e : i = j
  · rw [if_pos e] at ha hb
    split at ha
    · split at hb
      · injection ha with ha; injection hb with hb; subst ha; subst hb; exact hx
      · cases hb
    · cases ha
  · rw [if_neg e] at ha hb; exact h.2 j a b ha hb
theorem VRs.setMany {cs xs : List AV} {vs ys : List Value} (h : VRs ρ B w cs vs) (hx : VRs ρ B w xs ys) (i : Nat) : VRs ρ B w (setMany cs i xs) (setManyV vs i ys) := by
  induction xs generalizing cs vs ys i with
  | nil => rw [hx.nil_inv]; exact h
  | cons x xs ih =>
    obtain ⟨y, l, rfl, h1, h2⟩ := hx.cons_inv
    exact ih (h.set h1 i) h2 (i + 1)
theorem cells_ok {a : AV} {v : Value} (h : VR ρ B w a v) (ha : a.cells.all AV.one = true) : VRs ρ B w a.cells v.cells.toList := by
  cases h with
  | agg h1 h2 => exact ⟨by simpa [AV.cells, Value.cells] using h1, fun i x y hx hy => h2 i x y (by simpa [AV.cells] using hx) (by simpa [Value.cells] using hy)⟩
  | sc v =>
    cases v with
    | agg c => simp [AV.cells, AV.one] at ha
    | tuple c => simp [AV.cells, AV.one] at ha
    | _ => exact VRs.cons (.sc _) VRs.nil
  | tup h1 h2 => simp [AV.cells, AV.one] at ha
  | any => simp [AV.cells, AV.one] at ha
  | ptr h1 => exact VRs.cons (.ptr h1) VRs.nil
  | sl h1 h2 h3 h4 h5 => exact VRs.cons (.sl h1 h2 h3 h4 h5) VRs.nil
  | ro ys h1 h2 h3 h4 h5 h6 => exact VRs.cons (.ro ys h1 h2 h3 h4 h5 h6) VRs.nil
  | rp ys h1 h2 h3 h4 h5 => exact VRs.cons (.rp ys h1 h2 h3 h4 h5) VRs.nil
  | fn h1 h2 h3 h4 => exact VRs.cons (.fn h1 h2 h3 h4) VRs.nil
  | ifc h1 => exact VRs.cons (.ifc h1) VRs.nil
theorem one_ok {a : AV} {v : Value} (h : VR ρ B w a v) (ha : a.one = true) : v.oneCell' = true := by
  cases h with
  | sc v => cases v <;> first | rfl | (simp [AV.one] at ha)
  | agg h1 h2 => simp [AV.one] at ha
  | tup h1 h2 => simp [AV.one] at ha
  | any => simp [AV.one] at ha
  | _ => rfl

theorem foldl_setMany (ys : List Value) : ∀ (k off : Nat) (arr : Array Value), (ys.zipIdx k).foldl (fun (cs : Array Value) (p : Value × Nat) => cs.setIfInBounds (off + p.2) p.1) arr = (setManyV arr.toList (off + k) ys).toArray := by
  induction ys with
  | nil => intro k off arr; simp [setManyV]
  | cons y ys ih =>
    intro k off arr
    simp only [List.zipIdx_cons, List.foldl_cons, setManyV]
    rw [ih (k + 1) off]
    congr 2
    · simp
    
theorem fill_ok {place : Nat → Option (Nat × Nat)} {parts : List (Nat × AV)} {qs : List (Nat × Value)} {cells r : List AV} {vs : List Value} (h : fillA place cells parts = some r) (hc : VRs ρ B w cells vs)
    (hq : parts.length = qs.length ∧ ∀ (i : Nat) x y, parts[i]? = some x → qs[i]? = some y → x.1 = y.1 ∧ VR ρ B w x.2 y.2) :
    ∃ us, Instr.fill place ⟨vs⟩ qs = some ⟨us⟩ ∧ VRs ρ B w r us := by
  induction parts generalizing qs cells vs with
  | nil =>
    have : qs = [] := List.eq_nil_of_length_eq_zero (by simpa using hq.1.symm)
    subst this
    simp [fillA] at h; subst h
    exact ⟨vs, rfl, hc⟩
  | cons p parts ih =>
    obtain ⟨i, a⟩ := p
    cases qs with
    | nil => simp at hq
    | cons q qs =>
      obtain ⟨j, v⟩ := q
      obtain ⟨e, hv⟩ := hq.2 0 _ _ rfl rfl
      simp only at e hv
      subst e
      simp only [fillA] at h
      split at h
      · cases h
      · rename_i off size hp
        split at h
        · rename_i hb
          obtain ⟨b1, b2, b3⟩ := hb
          have hcv := cells_ok hv b3
          have hs : v.cells.size = a.cells.length := by simpa using hcv.1.symm
          have hl : (⟨vs⟩ : Array Value).size = cells.length := by simpa using hc.1.symm
          obtain ⟨us, hu, hr⟩ := ih h (hc.setMany hcv off) ⟨by simpa using hq.1, fun n x y hx hy => hq.2 (n + 1) x y (by simpa using hx) (by simpa using hy)⟩
          refine ⟨us, ?_, hr⟩
          simp only [Instr.fill, hp]
          rw [if_neg (by rw [hs, hl]; simp; omega), ← hu]
          congr 1
          have := foldl_setMany v.cells.toList 0 off ⟨vs⟩
          simp only [Nat.add_zero] at this
          refine Eq.trans ?_ this
          rw [← Array.foldl_toList]
          simp [Array.toList_zipIdx]
        · cases h

theorem zeroA_ok {t : TypeId} {z : List AV} (h : zeroA P t = some z) : ∃ v, (zeroValue t).run P w = .ok v w ∧ VRs ρ B w z v.cells.toList ∧ z.length = v.cells.size ∧ ∃ i, P.info? t = some i ∧ i.zero = some v := by
  unfold zeroA at h
  split at h
  · rename_i i hi
    split at h
    · rename_i v hv
      injection h with h; subst h
      exact ⟨v, by simp [zeroValue, run_info hi, hv], VRs.sc _, by simp, i, hi, hv⟩
    · cases h
  · cases h
theorem placesA_ok {fs : List Field} {ps : List (Nat × Nat)} (h : placesA.go P fs = some ps) :
    (fs.mapM (fun f => do pure (f.offset, ← sizeOf f.type) : Field → Sem (Nat × Nat))).run P w = .ok ps w := by
  induction fs generalizing ps with
  | nil => simp [placesA.go] at h; subst h; simp
  | cons f fs ih =>
    simp only [placesA.go] at h
    split at h
    · rename_i s l hs hl
      injection h with h; subst h
      simp only [List.mapM_cons, Sem.run_bind, run_sizeOf hs, Result.andThen, Sem.run_pure, ih hl]
    · cases h
theorem buildA_ok {t : TypeId} {parts : List (Nat × AV)} {qs : List (Nat × Value)} {v : AV} (h : buildA P t parts = some v)
    (hq : parts.length = qs.length ∧ ∀ (i : Nat) x y, parts[i]? = some x → qs[i]? = some y → x.1 = y.1 ∧ VR ρ B w x.2 y.2) :
    ∃ y, (Instr.build t ⟨qs⟩).run P w = .ok y w ∧ VR ρ B w v y := by
  unfold buildA at h
  split at h
  · cases h
  · rename_i z hz
    obtain ⟨zv, hzr, hzc, _, _⟩ := zeroA_ok (ρ := ρ) (B := B) (w := w) hz
    split at h
    · rename_i fs hu
      split at h
      · rename_i ps hps
        split at h
        · rename_i cs hf
          injection h with h; subst h
          obtain ⟨us, hu2, hr⟩ := fill_ok hf hzc hq
          refine ⟨.agg ⟨us⟩, ?_, .agg' hr⟩
          have hpl := placesA_ok (w := w) hps
          have hmm : (fs.mapM (fun f => do pure (f.offset, ← sizeOf f.type) : Field → Sem (Nat × Nat))).run P w = .ok ⟨ps⟩ w := by
            rw [Array.mapM_eq_mapM_toList, Sem.run_map, hpl]; rfl
          have hfill : Instr.fill (fun x => ps[x]?) zv.cells qs = some ⟨us⟩ := by simpa using hu2
          simp only [Instr.build, Sem.run_bind, hzr, Result.andThen, run_underlying hu, hmm]
          simp [hfill]
        · cases h
      · cases h
    · rename_i n el hu
      split at h
      · rename_i sz hs
        split at h
        · rename_i cs hf
          injection h with h; subst h
          obtain ⟨us, hu2, hr⟩ := fill_ok hf hzc hq
          refine ⟨.agg ⟨us⟩, ?_, .agg' hr⟩
          simp only [Instr.build, Sem.run_bind, hzr, Result.andThen, run_underlying hu, run_sizeOf hs]
          have hu3 : Instr.fill (fun i => some (i * sz, sz)) zv.cells qs = some ⟨us⟩ := by simpa using hu2
          simp [hu3]
        · cases h
      · cases h
    · cases h

theorem evL_ok {xs : List Operand} {l : List AV} (he : EvR ρ B w ev e) (h : evL ev xs = some l) : VRs ρ B w l (xs.map e) := by
  induction xs generalizing l with
  | nil => simp [evL] at h; subst h; exact VRs.nil
  | cons x xs ih =>
    simp only [evL] at h
    split at h
    · rename_i v r hv hr
      injection h with h; subst h
      exact VRs.cons (he x v hv) (ih hr)
    · cases h
theorem evP_ok {xs : List (Nat × Operand)} {l : List (Nat × AV)} (he : EvR ρ B w ev e) (h : evP ev xs = some l) :
    l.length = (xs.map fun p => (p.1, e p.2)).length ∧ ∀ (i : Nat) x y, l[i]? = some x → (xs.map fun p => (p.1, e p.2))[i]? = some y → x.1 = y.1 ∧ VR ρ B w x.2 y.2 := by
  induction xs generalizing l with
  | nil => simp [evP] at h; subst h; exact ⟨rfl, fun i x y hx => by simp at hx⟩
  | cons x xs ih =>
    obtain ⟨i, x⟩ := x
    simp only [evP] at h
    split at h
    · rename_i v r hv hr
      injection h with h; subst h
      obtain ⟨h1, h2⟩ := ih hr
      refine ⟨by simpa using h1, fun j a b ha hb => ?_⟩
      cases j with
      | zero => simp at ha hb; subst ha; subst hb; exact ⟨rfl, he x v hv⟩
      | succ j => exact h2 j a b (by simpa using ha) (by simpa using hb)
    · cases h
theorem lenA_ok {t ty : TypeId} {x v : AV} {u : Value} (h : lenA P t x = some v) (hr : VR ρ B w x u) {ts : Array TypeId} {us : Array Value} (ht : ts[0]? = some t) (hu0 : us[0]? = some u) :
    ∃ y, (Builtin.len_ ts ty us).run P w = .ok y w ∧ VR ρ B w v y := by
  unfold lenA at h
  split at h
  · rename_i el hu
    split at h
    · injection h with h; subst h
      obtain ⟨l, ck, o, rfl, _⟩ := hr.sl_inv
      exact ⟨_, by simp [Builtin.len_, ht, hu0, run_underlying hu], .sc _⟩
    · injection h with h; subst h
      obtain ⟨a, ck, ys, rfl, _⟩ := hr.ro_inv
      exact ⟨_, by simp [Builtin.len_, ht, hu0, run_underlying hu], .sc _⟩
    · injection h with h; subst h
      have := hr.sc_inv; subst this
      exact ⟨_, by simp [Builtin.len_, ht, hu0, run_underlying hu], .sc _⟩
    · cases h
  · rename_i hu
    split at h
    · injection h with h; subst h
      have := hr.sc_inv; subst this
      exact ⟨_, by simp [Builtin.len_, ht, hu0, run_underlying hu], .sc _⟩
    · cases h
  · rename_i n el hu
    injection h with h; subst h
    exact ⟨_, by simp [Builtin.len_, ht, hu0, run_underlying hu], .sc _⟩
  · cases h
theorem capA_ok {t ty : TypeId} {x v : AV} {u : Value} (h : capA P t x = some v) (hr : VR ρ B w x u) {ts : Array TypeId} {us : Array Value} (ht : ts[0]? = some t) (hu0 : us[0]? = some u) :
    ∃ y, (Builtin.cap_ ts ty us).run P w = .ok y w ∧ VR ρ B w v y := by
  unfold capA at h
  split at h
  · rename_i el hu
    split at h
    · injection h with h; subst h
      obtain ⟨l, ck, o, rfl, _, _, hc, _⟩ := hr.sl_inv
      have := hc _ rfl; subst this
      exact ⟨_, by simp [Builtin.cap_, ht, hu0, run_underlying hu], .sc _⟩
    · injection h with h; subst h
      obtain ⟨a, ck, ys, rfl, _, _, hc, _⟩ := hr.ro_inv
      have := hc _ rfl; subst this
      exact ⟨_, by simp [Builtin.cap_, ht, hu0, run_underlying hu], .sc _⟩
    · injection h with h; subst h
      have := hr.sc_inv; subst this
      exact ⟨_, by simp [Builtin.cap_, ht, hu0, run_underlying hu], .sc _⟩
    · cases h
  · cases h

theorem someSl_inv {a : AV} {v : Value} (h : someSl a = true) (hr : VR ρ B w a v) : ∃ ad n c, v = .slice (some ad) n c := by
  unfold someSl at h
  split at h
  · obtain ⟨l, ck, o, rfl, _⟩ := hr.sl_inv; exact ⟨_, _, _, rfl⟩
  · obtain ⟨a, ck, ys, rfl, _, _, _, h4, _⟩ := hr.ro_inv
    have := h4 (by omega)
    cases a with
    | none => exact absurd rfl this
    | some a => exact ⟨_, _, _, rfl⟩
  · cases h
theorem isNilSl_inv {a : AV} {v : Value} (h : isNilSl a = true) (hr : VR ρ B w a v) : ∃ n c, v = .slice none n c := by
  unfold isNilSl at h
  split at h
  · exact ⟨_, _, hr.sc_inv⟩
  · cases h
theorem run_eqIn_nil {t el : TypeId} (hu : P.underlying t = some (.slice el)) (d n c n' c' : Nat) (ad : Addr) :
    (Op.equalIn (d + 1) t (.slice (some ad) n c) (.slice none n' c')).run P w = .ok false w ∧ (Op.equalIn (d + 1) t (.slice none n' c') (.slice (some ad) n c)).run P w = .ok false w := by
  constructor <;> simp [Op.equalIn, run_underlying hu]
theorem run_eq_nil {t el : TypeId} (hu : P.underlying t = some (.slice el)) (n c n' c' : Nat) (ad : Addr) :
    (Op.equal t (.slice (some ad) n c) (.slice none n' c')).run P w = .ok false w ∧ (Op.equal t (.slice none n' c') (.slice (some ad) n c)).run P w = .ok false w :=
  run_eqIn_nil hu 9999 n c n' c' ad
theorem run_eqlBin {op : BinOp} {t : TypeId} {x y : Operand} {u u' : Value} {b : Bool} (ho : op = .eql ∨ op = .neq)
    (hs : (∃ a n c, u = .slice a n c) ∧ (∃ a n c, u' = .slice a n c)) (h : (Op.equal t u u').run P w = .ok b w) :
    (do eqGuard op t x y u u'; binOp op t u u' : Sem Value).run P w = .ok (.bool (if op = .eql then b else !b)) w := by
  obtain ⟨⟨a, n, c, rfl⟩, ⟨a', n', c', rfl⟩⟩ := hs
  rcases ho with rfl | rfl
  · simp [eqGuard, binOp, h]
  · simp [eqGuard, binOp, h]
theorem binA_ok {op : BinOp} {t : TypeId} {x y : Operand} {a b v : AV} {u u' : Value} (h : binA P op t x y a b = some v) (ha : VR ρ B w a u) (hb : VR ρ B w b u') :
    ∃ r, (do eqGuard op t x y u u'; binOp op t u u' : Sem Value).run P w = .ok r w ∧ VR ρ B w v r := by
  unfold binA at h
  split at h
  · rename_i p q hp hq
    have e1 := toVal_inv hp ha
    have e2 := toVal_inv hq hb
    subst e1; subst e2
    split at h
    · rename_i r hr
      injection h with h; subst h
      exact ⟨r, run_pv _ hr w, .sc _⟩
    · cases h
  · split at h
    · rename_i hc
      have key : (∃ ad n c n' c', (u = .slice (some ad) n c ∧ u' = .slice none n' c')) ∨ (∃ ad n c n' c', (u = .slice none n' c' ∧ u' = .slice (some ad) n c)) := by
        simp only [Bool.or_eq_true, Bool.and_eq_true] at hc
        rcases hc with ⟨h1, h2⟩ | ⟨h1, h2⟩
        · obtain ⟨ad, n, c, rfl⟩ := someSl_inv h1 ha
          obtain ⟨n', c', rfl⟩ := isNilSl_inv h2 hb
          exact .inl ⟨ad, n, c, n', c', rfl, rfl⟩
        · obtain ⟨ad, n, c, rfl⟩ := someSl_inv h2 hb
          obtain ⟨n', c', rfl⟩ := isNilSl_inv h1 ha
          exact .inr ⟨ad, n, c, n', c', rfl, rfl⟩
      split at h
      · rename_i el _ hu
        injection h with h; subst h
        refine ⟨.bool false, ?_, .sc _⟩
        rcases key with ⟨ad, n, c, n', c', rfl, rfl⟩ | ⟨ad, n, c, n', c', rfl, rfl⟩
        · exact run_eqlBin (.inl rfl) ⟨⟨_, _, _, rfl⟩, ⟨_, _, _, rfl⟩⟩ (run_eq_nil hu n c n' c' ad).1
        · exact run_eqlBin (.inl rfl) ⟨⟨_, _, _, rfl⟩, ⟨_, _, _, rfl⟩⟩ (run_eq_nil hu n c n' c' ad).2
      · rename_i el _ hu
        injection h with h; subst h
        refine ⟨.bool true, ?_, .sc _⟩
        rcases key with ⟨ad, n, c, n', c', rfl, rfl⟩ | ⟨ad, n, c, n', c', rfl, rfl⟩
        · exact run_eqlBin (.inr rfl) ⟨⟨_, _, _, rfl⟩, ⟨_, _, _, rfl⟩⟩ (run_eq_nil hu n c n' c' ad).1
        · exact run_eqlBin (.inr rfl) ⟨⟨_, _, _, rfl⟩, ⟨_, _, _, rfl⟩⟩ (run_eq_nil hu n c n' c' ad).2
      · cases h
    · cases h
theorem fastInt_ok {op : BinOp} {t : TypeId} {x y : Operand} {k : IntKind} {a b : Int} {v : Value} (h : fastInt op k a b = some v) :
    (do eqGuard op t x y (.int k a) (.int k b); binOp op t (.int k a) (.int k b) : Sem Value).run P w = .ok v w := by
  unfold fastInt at h
  split at h <;> first | (cases h; done) | (injection h with h; subst h; simp [eqGuard, binOp, Op.intArith, Op.intCmp]; done) | skip
theorem sameKind_eq {k k' : IntKind} (h : sameKind k k' = true) : k = k' := by
  cases k <;> cases k' <;> first | rfl | (simp [sameKind] at h)
theorem bin2_ok {op : BinOp} {t : TypeId} {x y : Operand} {a b v : AV} {u u' : Value} (h : bin2 P op t x y a b = some v) (ha : VR ρ B w a u) (hb : VR ρ B w b u') :
    ∃ r, (do eqGuard op t x y u u'; binOp op t u u' : Sem Value).run P w = .ok r w ∧ VR ρ B w v r := by
  unfold bin2 at h
  split at h
  · rename_i k m k' n
    unfold bin3 at h
    split at h
    · rename_i hk
      have e := sameKind_eq hk
      subst e
      have e1 := ha.sc_inv; subst e1
      have e2 := hb.sc_inv; subst e2
      unfold fastOr at h
      split at h
      · rename_i r hr
        injection h with h; subst h
        exact ⟨r, fastInt_ok hr, .sc _⟩
      · exact binA_ok h ha hb
    · exact binA_ok h ha hb
  · exact binA_ok h ha hb
end
end Go.Eng
end
section
set_option linter.unusedVariables false
set_option linter.unusedSimpArgs false
namespace Go.Eng
open Go Go.RowKit
section
variable {P : Program} {ρ : Rho} {B : Nat} {w : World} {ev : Operand → Option AV} {e : Operand → Value}

theorem arr_map {α β : Type} (a : Array α) (f : α → β) : a.map f = ⟨a.toList.map f⟩ := by
  rcases a with ⟨l⟩
  simp
theorem next_ok {s : Sem Value} {y : Value} {w' : World} (h : s.run P w = .ok y w') : (do pure (.value (← s)) : Sem Next).run P w = .ok (.value y) w' := by
  simp [h]
theorem scOf_inv {r : Option Value} {v : AV} (h : scOf r = some v) : ∃ y, r = some y ∧ v = .sc y := by
  unfold scOf at h
  split at h
  · injection h with h; exact ⟨_, rfl, h.symm⟩
  · cases h
theorem optR_of {x : Option Operand} (he : EvR ρ B w ev e) (hx : ∀ y, x = some y → ev y ≠ none) : OptR ρ B w (x.map ev) (x.map e) := by
  cases x with
  | none => exact .inl ⟨rfl, rfl⟩
  | some y =>
    cases hy : ev y with
    | none => exact absurd hy (hx y rfl)
    | some v => exact .inr ⟨v, e y, by simp [hy], rfl, he y v hy⟩
theorem bound_some {x : Option Operand} {d : Nat} {i : Int} (h : boundA (x.map ev) d = some i) : ∀ y, x = some y → ev y ≠ none := by
  intro y hy hn
  subst hy
  simp [boundA, hn] at h
theorem cut_some {len : Nat} {cap : Option Nat} {lo hi mx : Option Operand} {r : Nat × Nat × Option Nat} (h : cutA len cap (lo.map ev) (hi.map ev) (mx.map ev) = some r) :
    (∀ y, lo = some y → ev y ≠ none) ∧ (∀ y, hi = some y → ev y ≠ none) ∧ (∀ y, mx = some y → ev y ≠ none) := by
  unfold cutA at h
  split at h
  · rename_i h1 h2
    refine ⟨bound_some h1, bound_some h2, ?_⟩
    intro y hy hn
    subst hy
    simp only [Option.map_some, hn] at h
    split at h
    · rename_i h5
      simp [boundA] at h5
    · cases h
  · cases h
theorem slice_some {t : TypeId} {x v : AV} {lo hi mx : Option Operand} (h : sliceA P t x (lo.map ev) (hi.map ev) (mx.map ev) = some v) :
    (∀ y, lo = some y → ev y ≠ none) ∧ (∀ y, hi = some y → ev y ≠ none) ∧ (∀ y, mx = some y → ev y ≠ none) := by
  unfold sliceA at h
  (repeat' split at h) <;> first | (cases h; done) | (exact cut_some (by assumption)) | skip
  rename_i h0 h1
  have h2 : mx = none := by simpa using h0
  subst h2
  exact cut_some (mx := none) h1
theorem Fn_inv {fn : Fn} {first cap : Array Operand} {v : AV} (h : pFunc ev fn first cap = some v) : ∃ f l c, fn = .func f ∧ evL ev first.toList = some l ∧ evL ev cap.toList = some c ∧ v = .fn f l c := by
  unfold pFunc at h
  split at h
  · injection h with h; exact ⟨_, _, _, rfl, by assumption, by assumption, h.symm⟩
  · cases h

theorem opPure_ok {o : Oper} {v : AV} (h : opPure P ev o.type o.op = some v) (he : EvR ρ B w ev e) : ∃ y, (execOp e o).run P w = .ok (.value y) w ∧ VR ρ B w v y := by
  obtain ⟨dst, op, type, pos, after, guard⟩ := o
  cases op with
  | move x => exact ⟨_, rfl, he x v h⟩
  | assign x => exact ⟨_, rfl, he x v h⟩
  | pick c a b =>
    simp only [opPure, pPick] at h
    split at h
    · rename_i t hc
      have e1 := (he c _ hc).sc_inv
      cases t
      · exact ⟨e b, by simp [execOp, e1, asBool], he b v h⟩
      · exact ⟨e a, by simp [execOp, e1, asBool], he a v h⟩
    · cases h
  | nilCheck x =>
    simp only [opPure, pNil] at h
    split at h
    · rename_i hx
      injection h with h; subst h
      have hr := he x _ hx
      obtain ⟨l, hl, hv⟩ := hr.ptr_inv
      refine ⟨e x, ?_, hr⟩
      simp [execOp, hv]
    · rename_i hx
      injection h with h; subst h
      have hr := he x _ hx
      obtain ⟨c, o, hv, _⟩ := hr.ptrOf 0 (Nat.zero_le _)
      refine ⟨e x, ?_, hr⟩
      simp [execOp, hv]
    · rename_i hx
      injection h with h; subst h
      have hr := he x _ hx
      obtain ⟨l, c, hv, _⟩ := hr.fn_inv
      refine ⟨e x, ?_, hr⟩
      simp [execOp, hv]
    · cases h
  | binOp op t x y yt =>
    simp only [opPure, pBin] at h
    split at h
    · rename_i a b hx hy
      obtain ⟨r, hr, hv⟩ := bin2_ok h (he x _ hx) (he y _ hy)
      exact ⟨r, next_ok hr, hv⟩
    · cases h
  | unOp op t x =>
    simp only [opPure, pUn] at h
    split at h
    · rename_i u hx
      have e1 := (he x _ hx).sc_inv
      obtain ⟨r, hr, rfl⟩ := scOf_inv h
      exact ⟨r, next_ok (by rw [e1]; exact run_pv _ hr w), .sc _⟩
    · cases h
  | convert s d x =>
    simp only [opPure, pConv] at h
    split at h
    · rename_i u hx
      have e1 := (he x _ hx).sc_inv
      obtain ⟨r, hr, rfl⟩ := scOf_inv h
      exact ⟨r, next_ok (by rw [e1]; exact run_pv _ hr w), .sc _⟩
    · cases h
  | fieldAddr s x f =>
    simp only [opPure, pFA] at h
    split at h
    · rename_i u hx
      obtain ⟨y, hy, hv⟩ := fieldA_ok h (he x _ hx)
      exact ⟨y, next_ok hy, hv⟩
    · cases h
  | indexAddr t x i =>
    simp only [opPure, pIA] at h
    split at h
    · rename_i u j hx hi
      obtain ⟨y, hy, hv⟩ := indexA_ok h (he x _ hx) (he i _ hi)
      exact ⟨y, next_ok hy, hv⟩
    · cases h
  | field t x f =>
    simp only [opPure, pField] at h
    split at h
    · rename_i cs fs hx hu
      split at h
      · rename_i fd hf
        obtain ⟨vs, hv, hr⟩ := (he x _ hx).agg_inv
        obtain ⟨y, hy, hvy⟩ := partA_ok h hr
        refine ⟨y, next_ok ?_, hvy⟩
        simp only [Instr.field, Sem.run_bind, run_underlying hu, Result.andThen, hf, hv, asAgg, Sem.run_pure]
        exact hy
      · cases h
    · cases h
  | index t x i =>
    simp only [opPure, pIndex] at h
    split at h
    · rename_i cs j hx hi
      split at h
      · rename_i iv len el hj hu
        split at h
        · rename_i sz hs
          split at h
          · rename_i hb
            obtain ⟨vs, hv, hr⟩ := (he x _ hx).agg_inv
            obtain ⟨k, hk⟩ := asIx_inv hj (he i _ hi)
            obtain ⟨y, hy, hvy⟩ := partA_ok h hr
            refine ⟨y, next_ok ?_, hvy⟩
            simp only [Instr.index, Sem.run_bind, hk, hv, asIntOf, Sem.run_pure, Result.andThen, run_underlying hu, hb, and_self, if_true, run_sizeOf hs]
            exact hy
          · cases h
        · cases h
      · cases h
    · rename_i u j hx hi
      have e1 := (he x _ hx).sc_inv
      have e2 := (he i _ hi).sc_inv
      obtain ⟨r, hr, rfl⟩ := scOf_inv h
      exact ⟨r, next_ok (by rw [e1, e2]; exact run_pv _ hr w), .sc _⟩
    · cases h
  | extract x i =>
    simp only [opPure, pExtract] at h
    split at h
    · rename_i vs hx
      obtain ⟨us, hv, hr⟩ := (he x _ hx).tup_inv
      obtain ⟨y, hy, hvy⟩ := hr.get h
      exact ⟨y, next_ok (by simp [Instr.extract, hv, hy]), hvy⟩
    · cases h
  | slice t x lo hi mx =>
    simp only [opPure, pSlice] at h
    split at h
    · rename_i u hx
      obtain ⟨h1, h2, h3⟩ := slice_some h
      obtain ⟨y, hy, hv⟩ := sliceA_ok h (he x _ hx) (optR_of he h1) (optR_of he h2) (optR_of he h3)
      exact ⟨y, next_ok hy, hv⟩
    · cases h
  | makeFunc fn first cap =>
    obtain ⟨f, l, c, rfl, hl, hc, rfl⟩ := Fn_inv h
    have r1 := evL_ok he hl
    have r2 := evL_ok he hc
    refine ⟨.func (.func f) ⟨first.toList.map e⟩ ⟨cap.toList.map e⟩, ?_, .fn r1.1 r2.1 r1.2 r2.2⟩
    have a1 := arr_map first e
    have a2 := arr_map cap e
    exact next_ok (by rw [← a1, ← a2]; rfl)
  | makeInterface t x =>
    simp only [opPure, pIfc] at h
    split at h
    · cases h
    · rename_i u d hu hx hd
      injection h with h; subst h
      refine ⟨.iface t (e x), next_ok ?_, .ifc (he x _ hx)⟩
      simp only [Instr.makeInterface, Sem.run_bind, run_underlying hd, Result.andThen]
      cases d <;> first | rfl | (exact absurd rfl (hu _))
    · cases h
  | build t parts =>
    simp only [opPure, pBuild] at h
    split at h
    · rename_i l hl
      obtain ⟨y, hy, hv⟩ := buildA_ok h (evP_ok he hl)
      refine ⟨y, next_ok ?_, hv⟩
      have a1 : (parts.map fun (i, x) => (i, e x)) = ⟨parts.toList.map fun p => (p.1, e p.2)⟩ := arr_map _ _
      rw [← a1] at hy
      exact hy
    · cases h
  | call c =>
    obtain ⟨callee, args, ts⟩ := c
    simp only [opPure, pCall] at h
    split at h
    · rename_i _ b
      cases b with
      | len =>
        simp only [pBuiltin, pLen] at h
        split at h
        · rename_i t x ht hx
          split at h
          · rename_i u hu
            obtain ⟨y, hy, hv⟩ := lenA_ok (ty := type) h (he x _ hu) ht (us := args.map e) (by simp [hx])
            exact ⟨y, by simp [execOp, resolve, invoke, builtin, hy], hv⟩
          · cases h
        · cases h
      | cap =>
        simp only [pBuiltin, pCap] at h
        split at h
        · rename_i t x ht hx
          split at h
          · rename_i u hu
            obtain ⟨y, hy, hv⟩ := capA_ok (ty := type) h (he x _ hu) ht (us := args.map e) (by simp [hx])
            exact ⟨y, by simp [execOp, resolve, invoke, builtin, hy], hv⟩
          · cases h
        · cases h
      | min =>
        simp only [pBuiltin, pMin] at h
        split at h
        · rename_i l hl
          split at h
          · rename_i vs hvs
            obtain ⟨r, hr, rfl⟩ := scOf_inv h
            have e1 := allSc_inv hvs (evL_ok he hl)
            have e2 : args.map e = vs.toArray := by rw [← e1]; exact arr_map _ _
            exact ⟨r, by simp [execOp, resolve, invoke, builtin, e2, run_pv _ hr w], .sc _⟩
          · cases h
        · cases h
      | max =>
        simp only [pBuiltin, pMax] at h
        split at h
        · rename_i l hl
          split at h
          · rename_i vs hvs
            obtain ⟨r, hr, rfl⟩ := scOf_inv h
            have e1 := allSc_inv hvs (evL_ok he hl)
            have e2 : args.map e = vs.toArray := by rw [← e1]; exact arr_map _ _
            exact ⟨r, by simp [execOp, resolve, invoke, builtin, e2, run_pv _ hr w], .sc _⟩
          · cases h
        · cases h
      | _ => simp [pBuiltin] at h
    · cases h
  | _ => simp [opPure] at h

/-! ### Reading -/
theorem read_ok {hp : Hp} {b off n : Nat} {r : List AV} (h : hp.read b off n = some r) (hs : Sim ρ B w hp) {l : Loc} (hl : ρ b = some l) :
    ∃ vs : List Value, vs.length = n ∧ VRs ρ B w r vs ∧ ∀ (j : Nat) v, vs[j]? = some v → w.cell? ((⟨l.c, l.sh + off, none⟩ : Addr).add j) = some v := by
  unfold Hp.read at h
  split at h
  · rename_i cs hg
    simp only at h
    split at h
    · rename_i hlen
      injection h with h; subst h
      obtain ⟨l', hl', arr, el, h1, h2, h3, h4⟩ := hs.blk b cs hg
      rw [hl] at hl'; injection hl' with hl'; subst hl'
      have hn : n ≤ cs.length - off := by simp at hlen; omega
      refine ⟨(arr.toList.drop (l.sh + off)).take n, ?_, ⟨?_, fun i x y hx hy => ?_⟩, fun j v hv => ?_⟩
      · simp; omega
      · simp; omega
      · rw [List.getElem?_take] at hx hy
        split at hx
        · rw [if_pos (by assumption), List.getElem?_drop] at hy
          rw [List.getElem?_drop] at hx
          obtain ⟨z, hz, hv⟩ := h4 _ _ hx
          rw [show l.sh + off + i = l.sh + (off + i) from by omega] at hy
          simp at hy
          rw [hz] at hy; injection hy with hy; subst hy; exact hv
        · cases hx
      · rw [List.getElem?_take] at hv
        split at hv
        · rw [List.getElem?_drop] at hv
          rw [addr_add]
          simp only [World.cell?, h1]
          simpa using hv
        · cases hv
    · cases h
  · cases h
theorem rp_ok {own : Bool} {cells : List AV} {v : Value} (h : VR ρ B w (.rp own cells) v) : ∃ c o, v = .pointer (some ⟨c, o, none⟩) ∧
    ∃ vs : List Value, VRs ρ B w cells vs ∧ ∀ (j : Nat) v, vs[j]? = some v → w.cell? ((⟨c, o, none⟩ : Addr).add j) = some v := by
  cases h with
  | @rp _ _ c o ys h1 h2 h3 h4 h5 =>
    refine ⟨c, o, rfl, (List.range cells.length).map ys, ⟨by simp, fun i x y hx hy => ?_⟩, fun j v hv => ?_⟩
    · have := h5 i x hx
      have hi : i < cells.length := by
        rcases Nat.lt_or_ge i cells.length with q | q
        · exact q
        · rw [List.getElem?_eq_none q] at hx; cases hx
      rw [List.getElem?_map, List.getElem?_range hi] at hy
      simp at hy; subst hy; exact this
    · rw [addr_add]
      have hj : j < cells.length := by
        rcases Nat.lt_or_ge j cells.length with q | q
        · exact q
        · rw [List.getElem?_eq_none (by simpa using q)] at hv; cases hv
      rw [List.getElem?_map, List.getElem?_range hj] at hv
      simp at hv; subst hv
      exact h3 j hj
theorem loadVar_agg {t : TypeId} {n : Nat} (ha : isAggT P t = some true) (hs : szOf P t = some n) {a : Addr} {vs : List Value} (hn : vs.length = n) (hc : ∀ (j : Nat) v, vs[j]? = some v → w.cell? (a.add j) = some v) :
    (loadVar t a).run P w = .ok (.agg ⟨vs⟩) w := by
  subst hn
  simp only [loadVar, Sem.run_bind, run_isAgg ha, Result.andThen, if_true, run_sizeOf hs, run_loadCells_list w a vs hc, Sem.run_pure]
theorem loadVar_one {t : TypeId} (ha : isAggT P t = some false) {a : Addr} {v : Value} (hc : w.cell? a = some v) : (loadVar t a).run P w = .ok v w := by
  simp only [loadVar, Sem.run_bind, run_isAgg ha, Result.andThen, Bool.false_eq_true, if_false, run_load, hc]
theorem addr_add0 (a : Addr) : a.add 0 = a := by simp [Addr.add]
theorem loadA_ok {hp : Hp} {t : TypeId} {x v : AV} {r : Option Nat} {u : Value} (h : loadA P hp t x = some (v, r)) (hs : Sim ρ B w hp) (hr : VR ρ B w x u) :
    ∃ y, (Instr.loadAt t u).run P w = .ok y w ∧ VR ρ B w v y := by
  unfold loadA at h
  split at h
  · rename_i n ha hz
    split at h
    · split at h
      · rename_i cs hrd
        simp only [Option.some.injEq, Prod.mk.injEq] at h
        obtain ⟨rfl, rfl⟩ := h
        obtain ⟨l, hl, rfl⟩ := hr.ptr_inv
        obtain ⟨vs, hn, hv, hc⟩ := read_ok hrd hs hl
        exact ⟨_, by simp only [Instr.loadAt, Instr.sureAddr, Sem.run_bind, Sem.run_pure, Result.andThen]; exact loadVar_agg ha hz hn hc, .agg' hv⟩
      · cases h
    · split at h
      · rename_i hn
        simp only [Option.some.injEq, Prod.mk.injEq] at h
        obtain ⟨rfl, rfl⟩ := h
        obtain ⟨c, o, rfl, vs, hv, hc⟩ := rp_ok hr
        have hc2 : ∀ (j : Nat) v, (vs.take n)[j]? = some v → w.cell? ((⟨c, o, none⟩ : Addr).add j) = some v := by
          intro j v hj
          rw [List.getElem?_take] at hj
          split at hj
          · exact hc j v hj
          · cases hj
        exact ⟨_, by simp only [Instr.loadAt, Instr.sureAddr, Sem.run_bind, Sem.run_pure, Result.andThen]; exact loadVar_agg ha hz (vs := vs.take n) (by simp [← hv.1]; omega) hc2, .agg' (hv.take n)⟩
      · cases h
    · cases h
  · rename_i n ha hz
    split at h
    · split at h
      · rename_i v0 hrd
        simp only [Option.some.injEq, Prod.mk.injEq] at h
        obtain ⟨rfl, rfl⟩ := h
        obtain ⟨l, hl, rfl⟩ := hr.ptr_inv
        obtain ⟨vs, hn, hv, hc⟩ := read_ok hrd hs hl
        obtain ⟨y, l', rfl, hy, _⟩ := hv.cons_inv
        have := hc 0 y rfl
        rw [addr_add0] at this
        exact ⟨y, by simp only [Instr.loadAt, Instr.sureAddr, Sem.run_bind, Sem.run_pure, Result.andThen]; exact loadVar_one ha this, hy⟩
      · cases h
    · simp only [Option.some.injEq, Prod.mk.injEq] at h
      obtain ⟨rfl, rfl⟩ := h
      obtain ⟨c, o, rfl, vs, hv, hc⟩ := rp_ok hr
      obtain ⟨y, l', rfl, hy, _⟩ := hv.cons_inv
      have := hc 0 y rfl
      rw [addr_add0] at this
      exact ⟨y, by simp only [Instr.loadAt, Instr.sureAddr, Sem.run_bind, Sem.run_pure, Result.andThen]; exact loadVar_one ha this, hy⟩
    · cases h
  · cases h

theorem bytesOf_ok {cs : List AV} {l : List UInt8} {vs : List Value} (h : bytesOf cs = some l) (hr : VRs ρ B w cs vs) :
    ∃ ns : List Int, vs = ns.map (fun n => .int .u8 n) ∧ l = ns.map (fun n => UInt8.ofNat n.toNat) := by
  induction cs generalizing l vs with
  | nil => simp [bytesOf] at h; subst h; exact ⟨[], hr.nil_inv, rfl⟩
  | cons x cs ih =>
    obtain ⟨y, l', rfl, hx, hl⟩ := hr.cons_inv
    unfold bytesOf at h
    split at h
    · rename_i he; cases he
    · rename_i n r he
      injection he with he1 he2
      subst he1; subst he2
      split at h
      · rename_i l2 h2
        injection h with h; subst h
        obtain ⟨ns, rfl, rfl⟩ := ih h2 hl
        exact ⟨n :: ns, by rw [hx.sc_inv]; rfl, rfl⟩
      · cases h
    · cases h
theorem run_str {s d el : TypeId} (hs : P.underlying s = some (.slice el)) (hd : P.underlying d = some .string) (he : P.underlying el = some (.int .u8)) {c o len ck : Nat} {ns : List Int} (hlen : ns.length = len)
    (hc : ∀ (j : Nat) v, (ns.map fun n => Value.int .u8 n)[j]? = some v → w.cell? ((⟨c, o, none⟩ : Addr).add j) = some v) :
    (convert s d (.slice (some ⟨c, o, none⟩) len ck)).run P w = .ok (.string ⟨(ns.map fun n => UInt8.ofNat n.toNat).toArray⟩) w := by
  have hl : (loadCells ⟨c, o, none⟩ len).run P w = .ok (ns.map (Value.int .u8)).toArray w := by
    have := run_loadCells_list (P := P) w ⟨c, o, none⟩ (ns.map (Value.int .u8)) hc
    simpa [hlen] using this
  rw [run_convert_bytes_string w s d el _ len ck hs he hd, run_bytesToString w _ len ck ns hl, foldl_push_bytes]
  have e0 : ByteArray.empty.data = #[] := rfl
  rw [e0]
  simp
theorem strA_ok {hp : Hp} {s d : TypeId} {x v : AV} {r : Option Nat} {u : Value} (h : strA P hp s d x = some (v, r)) (hs : Sim ρ B w hp) (hr : VR ρ B w x u) :
    ∃ y, (convert s d u).run P w = .ok y w ∧ VR ρ B w v y := by
  unfold strA at h
  split at h
  · rename_i el hus hud
    split at h
    · rename_i hue
      split at h
      · rename_i b o len cap
        split at h
        · rename_i cs hrd
          split at h
          · rename_i l hb
            simp only [Option.some.injEq, Prod.mk.injEq] at h
            obtain ⟨rfl, rfl⟩ := h
            obtain ⟨L, ck, o', rfl, hl, g1, g2, g3, g4⟩ := hr.sl_inv
            obtain ⟨vs, hn, hv, hc⟩ := read_ok hrd hs hl
            obtain ⟨ns, rfl, rfl⟩ := bytesOf_ok hb hv
            have hnl : ns.length = len := by simpa using hn
            refine ⟨_, run_str hus hud hue hnl (fun j v hj => ?_), .sc _⟩
            rcases g3 with g3 | g3
            · exfalso
              have : ns = [] := List.eq_nil_of_length_eq_zero (by omega)
              subst this; simp at hj
            · rw [g3]; exact hc j v hj
          · cases h
        · cases h
      · rename_i w0 cs len cap
        split at h
        · rename_i hcl
          split at h
          · rename_i l hb
            simp only [Option.some.injEq, Prod.mk.injEq] at h
            obtain ⟨rfl, rfl⟩ := h
            obtain ⟨a, ck, ys, rfl, g1, g2, g3, g4, g5, g6⟩ := hr.ro_inv
            by_cases hne : cs = []
            · subst hne
              simp [bytesOf] at hb; subst hb
              have hl0 : len = 0 := by simpa using hcl.symm
              subst hl0
              cases a with
              | none => exact ⟨_, run_convert_bytes_nil w s el hus hue _ _ d hud, .sc _⟩
              | some a =>
                refine ⟨.string ⟨#[]⟩, ?_, .sc _⟩
                have hl : (loadCells a 0).run P w = .ok (([] : List Int).map (Value.int .u8)).toArray w := by simp [loadCells, loadCellsFrom]
                rw [run_convert_bytes_string w s d el _ 0 ck hus hue hud, run_bytesToString w _ 0 ck [] hl]
                rfl
            · obtain ⟨c, o, rfl, hm, hB, hc⟩ := g5 hne
              have hv : VRs ρ B w cs ((List.range cs.length).map ys) := by
                refine ⟨by simp, fun i x y hx hy => ?_⟩
                have hi : i < cs.length := by
                  rcases Nat.lt_or_ge i cs.length with q | q
                  · exact q
                  · rw [List.getElem?_eq_none q] at hx; cases hx
                rw [List.getElem?_map, List.getElem?_range hi] at hy
                simp at hy; subst hy; exact g6 i x hx
              obtain ⟨ns, hns, rfl⟩ := bytesOf_ok hb hv
              have hnl : ns.length = len := by
                have := congrArg List.length hns
                simp at this; omega
              refine ⟨_, run_str hus hud hue hnl (fun j v hj => ?_), .sc _⟩
              rw [← hns] at hj
              have hj2 : j < cs.length := by
                rcases Nat.lt_or_ge j cs.length with q | q
                · exact q
                · rw [List.getElem?_eq_none (by simpa using q)] at hj; cases hj
              rw [List.getElem?_map, List.getElem?_range hj2] at hj
              simp at hj; subst hj
              rw [addr_add]; exact hc j hj2
          · cases h
        · cases h
      · simp only [Option.some.injEq, Prod.mk.injEq] at h
        obtain ⟨rfl, rfl⟩ := h
        have := hr.sc_inv
        subst this
        exact ⟨_, run_convert_bytes_nil w s el hus hue _ _ d hud, .sc _⟩
      · cases h
    · cases h
  · cases h
theorem opLoad_ok {hp : Hp} {o : Oper} {v : AV} {r : Option Nat} (h : opLoad P ev hp o.op = some (v, r)) (hs : Sim ρ B w hp) (he : EvR ρ B w ev e) :
    ∃ y, (execOp e o).run P w = .ok (.value y) w ∧ VR ρ B w v y := by
  obtain ⟨dst, op, type, pos, after, guard⟩ := o
  cases op with
  | load t x =>
    simp only [opLoad, qLoad] at h
    split at h
    · rename_i u hx
      obtain ⟨y, hy, hv⟩ := loadA_ok h hs (he x _ hx)
      exact ⟨y, next_ok hy, hv⟩
    · cases h
  | convert s d x =>
    simp only [opLoad, qStr] at h
    split at h
    · rename_i u hx
      obtain ⟨y, hy, hv⟩ := strA_ok h hs (he x _ hx)
      exact ⟨y, next_ok hy, hv⟩
    · cases h
  | _ => simp [opLoad] at h

theorem Hp.read_congr {hp hp' : Hp} {b off n : Nat} (h : hp.get b = hp'.get b) : hp.read b off n = hp'.read b off n := by
  unfold Hp.read; rw [h]
theorem loadA_congr {hp hp' : Hp} {t : TypeId} {x v : AV} {r : Option Nat} (h : loadA P hp t x = some (v, r)) (hb : ∀ b, r = some b → hp.get b = hp'.get b) : loadA P hp' t x = some (v, r) := by
  unfold loadA at h ⊢
  split at h
  · split at h
    · rename_i b o
      split at h
      · rename_i cs hrd
        simp only [Option.some.injEq, Prod.mk.injEq] at h
        obtain ⟨rfl, rfl⟩ := h
        simp only [← Hp.read_congr (hb b rfl), hrd]
      · cases h
    · exact h
    · cases h
  · split at h
    · rename_i b o
      split at h
      · rename_i v0 hrd
        simp only [Option.some.injEq, Prod.mk.injEq] at h
        obtain ⟨rfl, rfl⟩ := h
        simp only [← Hp.read_congr (hb b rfl), hrd]
      · cases h
    · exact h
    · cases h
  · cases h
theorem strA_congr {hp hp' : Hp} {s d : TypeId} {x v : AV} {r : Option Nat} (h : strA P hp s d x = some (v, r)) (hb : ∀ b, r = some b → hp.get b = hp'.get b) : strA P hp' s d x = some (v, r) := by
  unfold strA at h ⊢
  split at h
  · split at h
    · split at h
      · rename_i b o len cap
        split at h
        · rename_i cs hrd
          split at h
          · rename_i l hl
            simp only [Option.some.injEq, Prod.mk.injEq] at h
            obtain ⟨rfl, rfl⟩ := h
            simp only [← Hp.read_congr (hb b rfl), hrd, hl]
          · cases h
        · cases h
      · exact h
      · exact h
      · cases h
    · cases h
  · cases h
theorem opLoad_congr {hp hp' : Hp} {o : Op} {v : AV} {r : Option Nat} (h : opLoad P ev hp o = some (v, r)) (hb : ∀ b, r = some b → hp.get b = hp'.get b) : opLoad P ev hp' o = some (v, r) := by
  cases o with
  | load t x =>
    simp only [opLoad, qLoad] at h ⊢
    split at h
    · exact loadA_congr h hb
    · cases h
  | convert s d x =>
    simp only [opLoad, qStr] at h ⊢
    split at h
    · exact strA_congr h hb
    · cases h
  | _ => simp [opLoad] at h

/-! ### Making -/
theorem repA_get (z : List AV) (n i : Nat) : (repA z n)[i]? = if i < n * z.length then z[i % z.length]? else none := by
  induction n generalizing i with
  | zero => simp [repA]
  | succ n ih =>
    simp only [repA]
    by_cases h : i < z.length
    · rw [List.getElem?_append_left h, if_pos (by rw [Nat.succ_mul]; omega), Nat.mod_eq_of_lt h]
    · rw [List.getElem?_append_right (by omega), ih]
      have hi : i - z.length < n * z.length ↔ i < (n + 1) * z.length := by rw [Nat.succ_mul]; omega
      by_cases h2 : i < (n + 1) * z.length
      · rw [if_pos (hi.2 h2), if_pos h2]
        congr 1
        rw [← Nat.mod_eq_sub_mod (by omega)]
      · rw [if_neg (fun q => h2 (hi.1 q)), if_neg h2]
theorem repA_length (z : List AV) (n : Nat) : (repA z n).length = n * z.length := by
  induction n with
  | zero => simp [repA]
  | succ n ih => simp [repA, ih, Nat.succ_mul]; omega
theorem repA_ok {z : List AV} {zs : Array Value} {n sz : Nat} (h : VRs ρ B w z zs.toList) (hs : z.length = sz) (d : Array Value) (hd : n * sz ≠ 0 → d = zs) :
    VRs ρ B w (repA z n) ((Array.range (n * sz)).map (fun i => d[i % d.size]!)).toList := by
  refine ⟨by rw [repA_length, hs]; simp, fun i x y hx hy => ?_⟩
  rw [repA_get] at hx
  split at hx
  · rename_i hi
    rw [hs] at hi hx
    have hz : sz ≠ 0 := by intro e; subst e; simp at hi
    have e := hd (by omega)
    subst e
    have hsz : d.size = sz := by rw [← hs]; simpa using h.1.symm
    have hm : i % sz < d.size := by rw [hsz]; exact Nat.mod_lt _ (by omega)
    have hy2 : y = d[i % d.size]! := by
      simp [hi] at hy
      exact hy.symm
    rw [hy2]
    refine h.2 (i % sz) x _ hx ?_
    rw [hsz]
    simp [hm]
  · cases hx
theorem run_askRoom (n : Nat) : (askRoom n).run P w = .ok () w := by
  unfold askRoom; split <;> rfl
theorem newRow_ok (el : TypeId) (arr : Array Value) : (newRow el arr).run P w = .ok ⟨w.heap.size, 0, none⟩ (w.alloc (.cells arr el)) := by
  simp only [newRow, Sem.run_bind, newObj]
  rfl

def AllocR (P : Program) (ρ : Rho) (B : Nat) (w : World) (s : Sem Value) (cs : List AV) (f : Nat → AV) : Prop :=
  ∃ (arr : Array Value) (el : TypeId) (y : Value), s.run P w = .ok y (w.alloc (.cells arr el)) ∧ arr.size = cs.length ∧ VRs ρ B w cs arr.toList ∧
    ∀ ρ' B' w' b, ρ' b = some ⟨w.heap.size, 0, arr.size⟩ → VR ρ' B' w' (f b) y
theorem alloc_ok {t : TypeId} {z : List AV} (h : zeroA P t = some z) : AllocR P ρ B w (Instr.alloc t true (.tuple #[])) z (fun b => .ptr b 0) := by
  obtain ⟨zv, hz, hv, hl, _⟩ := zeroA_ok (ρ := ρ) (B := B) (w := w) h
  refine ⟨zv.cells, t, .pointer (some ⟨w.heap.size, 0, none⟩), ?_, hl.symm, hv, fun ρ' B' w' b hb => .ptr hb⟩
  simp only [Instr.alloc, Sem.run_bind, hz, Result.andThen, newVar, newRow_ok, Sem.run_pure]
theorem box_ok {t : TypeId} {v : AV} {u : Value} (hr : VR ρ B w v u) (h : v.cells.all AV.one = true) : AllocR P ρ B w (Instr.box t u) v.cells (fun b => .ptr b 0) := by
  have hc := cells_ok hr h
  refine ⟨u.cells, t, .pointer (some ⟨w.heap.size, 0, none⟩), ?_, by simpa using hc.1.symm, hc, fun ρ' B' w' b hb => .ptr hb⟩
  simp only [Instr.box, Sem.run_bind, newVar, newRow_ok, Result.andThen, Sem.run_pure]
theorem AllocR.fin {s : Sem Value} {cs : List AV} {f : Nat → AV} {s' : Sem Next} (hs : s' = (do pure (.value (← s)) : Sem Next)) (h : AllocR P ρ B w s cs f) :
    ∃ (arr : Array Value) (el : TypeId) (y : Value), s'.run P w = .ok (.value y) (w.alloc (.cells arr el)) ∧ arr.size = cs.length ∧ VRs ρ B w cs arr.toList ∧
      ∀ ρ' B' w' b, ρ' b = some ⟨w.heap.size, 0, arr.size⟩ → VR ρ' B' w' (f b) y := by
  obtain ⟨arr, el, y, h1, h2, h3, h4⟩ := h
  exact ⟨arr, el, y, by rw [hs]; exact next_ok h1, h2, h3, h4⟩
theorem opAlloc_ok {o : Oper} {cs : List AV} {f : Nat → AV} (h : opAlloc P ev o.op = some (cs, f)) (he : EvR ρ B w ev e) :
    ∃ (arr : Array Value) (el : TypeId) (y : Value), (execOp e o).run P w = .ok (.value y) (w.alloc (.cells arr el)) ∧ arr.size = cs.length ∧ VRs ρ B w cs arr.toList ∧
      ∀ ρ' B' w' b, ρ' b = some ⟨w.heap.size, 0, arr.size⟩ → VR ρ' B' w' (f b) y := by
  obtain ⟨dst, op, type, pos, after, guard⟩ := o
  cases op with
  | alloc t =>
    simp only [opAlloc, aAlloc] at h
    split at h
    · rename_i z hz
      simp only [Option.some.injEq, Prod.mk.injEq] at h
      obtain ⟨rfl, rfl⟩ := h
      exact AllocR.fin rfl (alloc_ok hz)
    · cases h
  | box t x =>
    simp only [opAlloc, aBox] at h
    split at h
    · rename_i v hx
      split at h
      · rename_i hc
        simp only [Option.some.injEq, Prod.mk.injEq] at h
        obtain ⟨rfl, rfl⟩ := h
        exact AllocR.fin rfl (box_ok (he x _ hx) hc)
      · cases h
    · cases h
  | buildSlice t len parts =>
    simp only [opAlloc, aBuild] at h
    split at h
    · rename_i el hu
      split at h
      · rename_i sz ps z hs hp hz
        split at h
        · rename_i hb
          split at h
          · rename_i cs' hf
            simp only [Option.some.injEq, Prod.mk.injEq] at h
            obtain ⟨rfl, rfl⟩ := h
            obtain ⟨zv, hzr, hv, hl, _⟩ := zeroA_ok (ρ := ρ) (B := B) (w := w) hz
            refine AllocR.fin rfl ?_
            have hd := repA_ok (n := len) hv hb.2 (if len * sz = 0 then #[] else zv.cells) (fun q => if_neg q)
            obtain ⟨us, hus, hr⟩ := fill_ok hf hd (evP_ok he hp)
            refine ⟨⟨us⟩, el, .slice (some ⟨w.heap.size, 0, none⟩) len len, ?_, by simpa using hr.1.symm, hr, fun ρ' B' w' b hb => ?_⟩
            · have hq : (parts.map fun (i, x) => (i, e x)) = ⟨parts.toList.map fun p => (p.1, e p.2)⟩ := arr_map _ _
              rw [hq]
              simp only [Instr.buildSlice, Sem.run_bind, run_underlying hu, Result.andThen, run_sizeOf hs]
              rw [if_neg (by omega)]
              have hus2 : ∀ zero : Array Value, (if len * sz = 0 then #[] else zv.cells) = zero → Instr.fill (fun i => some (i * sz, sz)) ((Array.range (len * sz)).map (fun x => zero[x % zero.size]!)) (parts.toList.map fun p => (p.1, e p.2)) = some ⟨us⟩ := by
                intro zero hzero
                subst hzero
                exact hus
              by_cases q : len * sz = 0
              · rw [if_pos q] at hus2 ⊢
                simp only [Sem.run_bind, Sem.run_pure, Result.andThen, hus2 _ rfl, newRow_ok]
              · rw [if_neg q] at hus2 ⊢
                simp only [Sem.run_bind, hzr, Sem.run_pure, Result.andThen, hus2 _ rfl, newRow_ok]
            · have := VR.sl (B := B') (w := w') (cap := some len) (sz := sz) (off := 0) hb (Nat.le_refl len) (fun k hk => by injection hk) (.inr rfl) (fun q => by cases q)
              simpa using this
          · cases h
        · cases h
      · cases h
    · cases h
  | makeSlice t l c =>
    simp only [opAlloc, aMake] at h
    split at h
    · rename_i el kl lv kc cv hu hl hc
      split at h
      · rename_i i z hi hz
        split at h
        · rename_i hb
          obtain ⟨b1, b2, b3, b4, b5⟩ := hb
          simp only [Option.some.injEq, Prod.mk.injEq] at h
          obtain ⟨rfl, rfl⟩ := h
          obtain ⟨zv, hzr, hv, hzl, _⟩ := zeroA_ok (ρ := ρ) (B := B) (w := w) hz
          have e1 := (he l _ hl).sc_inv
          have e2 := (he c _ hc).sc_inv
          refine AllocR.fin rfl ?_
          have hsz : szOf P el = some i.size := by simp [szOf, hi]
          have hd := repA_ok (n := cv.toNat) hv b5 (if cv.toNat * i.size = 0 then #[] else zv.cells) (fun q => if_neg q)
          refine ⟨(Array.range (cv.toNat * i.size)).map (fun j => (if cv.toNat * i.size = 0 then #[] else zv.cells)[j % (if cv.toNat * i.size = 0 then #[] else zv.cells).size]!), el, .slice (some ⟨w.heap.size, 0, none⟩) lv.toNat cv.toNat, ?_, by rw [repA_length, b5]; simp, hd, fun ρ' B' w' b hb => ?_⟩
          · have wl : IntKind.i64.wrap lv = lv := by simp [IntKind.wrap, IntKind.bits, IntKind.signed]; omega
            have wc : IntKind.i64.wrap cv = cv := by simp [IntKind.wrap, IntKind.bits, IntKind.signed]; omega
            have hbc : (i.bytes : Int) * cv ≤ 2 ^ 48 := by
              have : (i.bytes : Int) * cv ≤ 65536 * 1048576 := Int.mul_le_mul (by omega) b3 (by omega) (by omega)
              omega
            rw [e1, e2]
            simp only [Instr.makeSlice, Sem.run_bind, run_underlying hu, Result.andThen, asInt, asIntOf, Sem.run_pure, run_info hi, wl, wc]
            rw [if_neg (by simp; omega)]
            simp only [Sem.run_bind, run_askRoom, Result.andThen, run_sizeOf hsz]
            by_cases q : cv.toNat * i.size = 0
            · simp only [if_pos q, Sem.run_bind, Sem.run_pure, Result.andThen, newRow_ok]
            · simp only [if_neg q, Sem.run_bind, hzr, Sem.run_pure, Result.andThen, newRow_ok]
          · have := VR.sl (B := B') (w := w') (cap := some cv.toNat) (sz := i.size) (off := 0) (len := lv.toNat) hb (show lv.toNat ≤ cv.toNat by omega) (fun k hk => by injection hk) (.inr rfl) (fun q => by cases q)
            simpa using this
        · cases h
      · cases h
    · cases h
  | _ => simp [opAlloc] at h
end
end Go.Eng
end
section
set_option linter.unusedVariables false
set_option linter.unusedSimpArgs false
namespace Go.Eng
open Go Go.RowKit
section
variable {P : Program} {ρ : Rho} {B : Nat} {w : World} {ev : Operand → Option AV} {e : Operand → Value}

theorem setMany_get (cs xs : List AV) (off i : Nat) (h : off + xs.length ≤ cs.length) : (setMany cs off xs)[i]? = if off ≤ i ∧ i < off + xs.length then xs[i - off]? else cs[i]? := by
  induction xs generalizing cs off with
  | nil => simp [setMany]; intro h1 h2; omega
  | cons x xs ih =>
    simp only [setMany]
    rw [ih _ _ (by simp at h ⊢; omega)]
    simp only [List.length_cons] at h ⊢
    by_cases h1 : off + 1 ≤ i ∧ i < off + 1 + xs.length
    · rw [if_pos h1, if_pos (by omega)]
      obtain ⟨k, hk⟩ : ∃ k, i - off = k + 1 := ⟨i - off - 1, by omega⟩
      rw [hk, List.getElem?_cons_succ]
      congr 1; omega
    · rw [if_neg h1]
      by_cases h2 : i = off
      · subst h2
        rw [if_pos (by omega), List.getElem?_set]
        simp; omega
      · rw [if_neg (by omega), List.getElem?_set, if_neg (by omega)]

theorem setRow_other (w : World) (g : Nat) (cs : Array Value) (c : Nat) (h : c ≠ g) : (w.setRow g cs).heap[c]? = w.heap[c]? := by
  simp only [World.setRow, Array.getElem?_modify]
  rw [if_neg (by omega)]
theorem Step.setRow {n b : Nat} {l : Loc} (hbn : b < n) (hl : ρ b = some l) (cs : Array Value) : Step n ρ w ρ (w.setRow l.c cs) :=
  ⟨fun _ _ h => h, fun _ _ h => .inl h, fun c _ hm => setRow_other w l.c cs c (fun e => hm b l hbn hl e.symm), by simp [World.setRow], rfl, rfl, rfl⟩

theorem write_ok {hp hp' : Hp} {b off : Nat} {xs : List AV} {ys : List Value} {l : Loc} (h : hp.write b off xs = some hp') (hs : Sim ρ B w hp) (hl : ρ b = some l) (hv : VRs ρ B w xs ys) (h1 : ∀ v ∈ ys, v.oneCell' = true) :
    ∃ w', (storeCells ⟨l.c, l.sh + off, none⟩ ys).run P w = .ok () w' ∧ Step hp.n ρ w ρ w' ∧ Sim ρ B w' hp' ∧ HpKeep hp hp' ∧ hp'.n = hp.n := by
  unfold Hp.write at h
  split at h
  · rename_i cs hg
    split at h
    · rename_i hb
      injection h with h; subst h
      obtain ⟨l', hl', arr, el, q1, q2, q3, q4⟩ := hs.blk b cs hg
      rw [hl] at hl'; injection hl' with hl'; subst hl'
      have hlen := hv.1
      have hfit : l.sh + off + 0 + ys.length ≤ arr.size := by omega
      have hrun := run_storeCells_at P l.c (l.sh + off) el ys 0 arr w q1 hfit h1
      have hbn : b < hp.n := by
        rcases Nat.lt_or_ge b hp.n with q | q
        · exact q
        · rw [hs.out b q] at hg; cases hg
      have hb30 : b < 1000000000 := by have := hs.low; omega
      have s := Step.setRow (w := w) hbn hl (arr.toList.take (l.sh + off + 0) ++ ys ++ arr.toList.drop (l.sh + off + 0 + ys.length)).toArray
      refine ⟨_, hrun, s, ?_, ?_, by rw [Hp.n_log, Hp.n_set]⟩
      · refine ⟨fun x ds hx => ?_, fun x x' ds ds' k k' hx hx' hk hk' hkk => ?_, fun x k hx => ?_, fun x hx => ?_, ?_⟩
        · rw [Hp.get_log, Hp.get_set _ _ _ _ hb30] at hx
          by_cases ex : x = b
          · subst ex
            rw [if_pos rfl] at hx; injection hx with hx; injection hx with hx _
            subst hx
            refine ⟨l, hl, _, el, setRow_heap w l.c arr _ el (0, 0) q1, ?_, ?_, fun i z hz => ?_⟩
            · simp; omega
            · rw [setMany_length]; exact q3
            · rw [setMany_get _ _ _ _ hb] at hz
              by_cases hi : off ≤ i ∧ i < off + xs.length
              · rw [if_pos hi] at hz
                obtain ⟨y, hy, hvy⟩ := hv.get hz
                refine ⟨y, ?_, hvy.step s⟩
                simp only [List.getElem?_toArray, List.append_assoc]
                rw [List.getElem?_append_right (by simp; omega), List.getElem?_append_left (by simp; omega)]
                rw [← hy]; congr 1; simp; omega
              · rw [if_neg hi] at hz
                obtain ⟨y, hy, hvy⟩ := q4 i z hz
                refine ⟨y, ?_, hvy.step s⟩
                have hlt : l.sh + i < arr.size := by
                  rcases Nat.lt_or_ge (l.sh + i) arr.size with q | q
                  · exact q
                  · rw [Array.getElem?_eq_none q] at hy; cases hy
                simp only [List.getElem?_toArray, List.append_assoc]
                by_cases hlo : i < off
                · rw [List.getElem?_append_left (by simp; omega), List.getElem?_take, if_pos (by omega)]
                  simpa using hy
                · rw [List.getElem?_append_right (by simp; omega), List.getElem?_append_right (by simp; omega), List.getElem?_drop]
                  rw [show l.sh + off + 0 + ys.length + (l.sh + i - (List.take (l.sh + off + 0) arr.toList).length - ys.length) = l.sh + i from by simp; omega]
                  simpa using hy
          · rw [if_neg ex] at hx
            obtain ⟨k, hk, hc⟩ := hs.blk x ds hx
            refine ⟨k, hk, hc.step s (setRow_other w l.c _ k.c (fun e => ex ?_))⟩
            exact hs.inj x b ds cs k l hx hg hk hl e
        · rw [Hp.get_log, Hp.get_set _ _ _ _ hb30] at hx hx'
          have alive : ∀ y es, (if y = b then some (⟨setMany cs off xs, true⟩ : Blk) else hp.get y) = some ⟨es, true⟩ → ∃ es', hp.get y = some ⟨es', true⟩ := by
            intro y es hy
            by_cases ey : y = b
            · subst ey; exact ⟨cs, hg⟩
            · rw [if_neg ey] at hy; exact ⟨es, hy⟩
          obtain ⟨d1, g1⟩ := alive x ds hx
          obtain ⟨d2, g2⟩ := alive x' ds' hx'
          exact hs.inj x x' d1 d2 k k' g1 g2 hk hk' hkk
        · have := hs.new x k hx
          simp [World.setRow]; exact this
        · rw [Hp.get_log, Hp.get_set _ _ _ _ hb30]
          rw [Hp.n_log, Hp.n_set] at hx
          have hbn : b < hp.n := by
            rcases Nat.lt_or_ge b hp.n with q | q
            · exact q
            · rw [hs.out b q] at hg; cases hg
          rw [if_neg (by omega)]; exact hs.out x hx
        · rw [Hp.n_log, Hp.n_set]; exact hs.low
      · refine ⟨by rw [Hp.n_log, Hp.n_set]; exact Nat.le_refl _, fun x _ hx => by rw [Hp.wl_log, Hp.wl_set]; exact List.mem_cons_of_mem _ hx, fun x _ hx => ?_⟩
        rw [Hp.wl_log] at hx
        rw [Hp.get_log, Hp.get_set _ _ _ _ hb30, if_neg (fun q => hx (by rw [q]; exact List.mem_cons_self))]
    · cases h
  · cases h
theorem ones_ok {cs : List AV} {vs : List Value} (h : VRs ρ B w cs vs) (ha : cs.all AV.one = true) : ∀ v ∈ vs, v.oneCell' = true := by
  intro v hv
  obtain ⟨i, hi, rfl⟩ := List.getElem_of_mem hv
  have hi2 : i < cs.length := by rw [h.1]; exact hi
  have hr := h.2 i cs[i] _ (List.getElem?_eq_getElem hi2) (List.getElem?_eq_getElem hi)
  exact one_ok hr (List.all_eq_true.1 ha _ (List.getElem_mem hi2))
theorem storeA_ok {hp hp' : Hp} {t : TypeId} {p v : AV} {a u : Value} (h : storeA P hp t p v = some hp') (hs : Sim ρ B w hp) (hp1 : VR ρ B w p a) (hv : VR ρ B w v u) :
    ∃ w', (Instr.storeAt t a u).run P w = .ok () w' ∧ Step hp.n ρ w ρ w' ∧ Sim ρ B w' hp' ∧ HpKeep hp hp' ∧ hp'.n = hp.n := by
  unfold storeA at h
  split at h
  · rename_i n b o hz
    split at h
    · rename_i hb
      obtain ⟨hb1, hb2⟩ := hb
      obtain ⟨l, hl, rfl⟩ := hp1.ptr_inv
      have hc := cells_ok hv hb2
      obtain ⟨w', hrun, hrest⟩ := write_ok (P := P) h hs hl hc (ones_ok hc hb2)
      refine ⟨w', ?_, hrest⟩
      have hsz : u.cells.size = n := by rw [← hb1]; simpa using hc.1.symm
      simp only [Instr.storeAt, Instr.sureAddr, Sem.run_bind, Sem.run_pure, Result.andThen, storeVar, run_sizeOf hz]
      rw [if_neg (by simp [hsz])]
      exact hrun
    · cases h
  · cases h
end
end Go.Eng
end
section
set_option linter.unusedVariables false
set_option linter.unusedSimpArgs false
namespace Go.Eng
open Go Go.RowKit
section
variable {P : Program} {w : World}
def notInt : TypeDesc → Bool
  | .int _ => false
  | _ => true
theorem notInt_eq : ∀ {d : TypeDesc}, notInt d = true → (d matches .int _) = false := by
  intro d h
  cases d <;> first | rfl | (simp [notInt] at h)
structure News (P : Program) (w : World) (i : TypeInfo) (el : TypeId) (d : TypeDesc) (x : Value) (n : Nat) (news : Array Value) : Prop where
  plain : notInt d = true → (Builtin.lenOf x).run P w = .ok n w ∧ (Builtin.firstCells i.size n x).run P w = .ok news w ∧ (Builtin.firstCells i.size n x).run P w.drew = .ok news w.drew
  zero : notInt d = false → (∃ k, d = .int k) ∧ ∃ k, ∃ l : Int, x = .int k l ∧ 0 ≤ l ∧ l ≤ 1048576 ∧ n = l.toNat ∧ (n * i.size ≠ 0 → ∃ zv : Value, (∀ w, (zeroValue el).run P w = .ok zv w) ∧ news = Builtin.zeroCells zv.cells n) ∧ (n * i.size = 0 → news = #[])
theorem wrap_small {l : Int} (h1 : 0 ≤ l) (h2 : l ≤ 1048576) : IntKind.i64.wrap l = l := by simp [IntKind.wrap, IntKind.bits, IntKind.signed]; omega
theorem run_app_room {ts : Array TypeId} {t u ty el : TypeId} {i : TypeInfo} {d : TypeDesc} (h0 : ts[0]? = some t) (h1 : ts[1]? = some u) (hu : P.underlying t = some (.slice el)) (hi : P.info? el = some i)
    (hd : P.underlying u = some d) {x : Value} {n : Nat} {news : Array Value} (hb : i.bytes ≤ 65536) (hN : News P w i el d x n news)
    {a : Addr} {sLen sCap : Nat} (hroom : sLen + n ≤ sCap) {w' : World} (hst : (storeCells (a.add (sLen * i.size)) news.toList).run P w = .ok () w') :
    (Builtin.append_ ts ty #[.slice (some a) sLen sCap, x]).run P w = .ok (.slice (some a) (sLen + n) sCap) w' := by
  cases hn : notInt d with
  | true =>
    obtain ⟨hl, hf, _⟩ := hN.plain hn
    cases d <;> first | (simp [notInt] at hn; done) | simp only [Builtin.append_, List.getElem?_toArray, List.getElem?_cons_zero, List.getElem?_cons_succ, h0, h1, Sem.run_bind, run_underlying hu, run_underlying hd, sizeOf, run_info hi, Result.andThen, Sem.run_pure, Bool.false_eq_true, if_false, hl, hroom, if_true, Bool.not_false, hf, hst]
  | false =>
    obtain ⟨⟨kd, rfl⟩, k, l, rfl, l0, l1, rfl, hz1, hz2⟩ := hN.zero hn
    have hwl := wrap_small l0 l1
    have hbl : ¬ (l * (i.bytes : Int) > 2 ^ 48) := by
      have : l * (i.bytes : Int) ≤ 1048576 * 65536 := Int.mul_le_mul l1 (by omega) (by omega) (by omega)
      omega
    simp only [Builtin.append_, List.getElem?_toArray, List.getElem?_cons_zero, List.getElem?_cons_succ, h0, h1, Sem.run_bind, run_underlying hu, run_underlying hd, sizeOf, run_info hi, Result.andThen, Sem.run_pure, if_true, asInt, asIntOf, hwl, show ¬ (l < 0) from by omega, if_false, hbl, hroom, Bool.not_true, Bool.false_eq_true]
    by_cases q : l.toNat * i.size = 0
    · rw [hz2 q] at hst
      simp only [if_pos q, Sem.run_pure, Result.andThen, hst, Sem.run_bind]
    · obtain ⟨zv, hzv, rfl⟩ := hz1 q
      simp only [if_neg q, Sem.run_pure, Sem.run_bind, hzv, Result.andThen, hst]
theorem nextcap_le (need old : Nat) (h : old < need) (h1 : need ≤ 1048576) : Builtin.nextslicecap need old ≤ 4194304 := by
  unfold Builtin.nextslicecap
  split
  · omega
  · split
    · omega
    · have grow : ∀ r c, c ≤ 1048576 * 2 → Builtin.growBy need r c ≤ 4194304 := by
        intro r
        induction r with
        | zero => intro c hc; simp [Builtin.growBy]; omega
        | succ r ih =>
          intro c hc
          simp only [Builtin.growBy]
          split
          · omega
          · exact ih _ (by omega)
      exact grow 4 old (by omega)
theorem run_app_grow {ts : Array TypeId} {t u ty el : TypeId} {i : TypeInfo} {d : TypeDesc} (h0 : ts[0]? = some t) (h1 : ts[1]? = some u) (hu : P.underlying t = some (.slice el)) (hi : P.info? el = some i)
    (hd : P.underlying u = some d) {x : Value} {n : Nat} {news olds : Array Value} {zv : Value} (hz : i.zero = some zv) (hb : i.bytes ≤ 65536) (hb0 : i.bytes ≠ 0) (hN : News P w i el d x n news)
    {base : Option Addr} {sLen sCap : Nat} (hroom : sCap < sLen + n) (hmost : sLen + n ≤ 1048576) (ho : (Builtin.firstCells i.size sLen (.slice base sLen sCap)).run P w.drew = .ok olds w.drew) :
    (Builtin.append_ ts ty #[.slice base sLen sCap, x]).run P w = .ok (.slice (some ⟨w.heap.size, 0, none⟩) (sLen + n) (grownCap w (sLen + n) sCap el))
      (w.drew.alloc (.cells (olds ++ news ++ Builtin.zeroCells zv.cells (grownCap w (sLen + n) sCap el - (sLen + n))) el)) := by
  have hcap : ¬ (Builtin.nextslicecap (sLen + n) sCap * i.bytes > 2 ^ 48) := by
    have h2 := nextcap_le (sLen + n) sCap hroom hmost
    have : Builtin.nextslicecap (sLen + n) sCap * i.bytes ≤ 4194304 * 65536 := Nat.mul_le_mul h2 hb
    omega
  have hzr : ∀ w, (zeroValue el).run P w = .ok zv w := fun w => by simp [zeroValue, run_info hi, hz]
  have hmx : IntKind.i64.max = 9223372036854775807 := by decide
  have hch : (choose (.appendCap (sLen + n) sCap el)).run P w = .ok (grownCap w (sLen + n) sCap el) w.drew := by
    simp only [choose, Sem.run]; rfl
  cases hn : notInt d with
  | true =>
    obtain ⟨hl, _, hf⟩ := hN.plain hn
    cases d <;> first
      | (simp [notInt] at hn; done)
      | (simp only [Builtin.append_, List.getElem?_toArray, List.getElem?_cons_zero, List.getElem?_cons_succ, h0, h1, Sem.run_bind, run_underlying hu, run_underlying hd, sizeOf, run_info hi, Result.andThen, Sem.run_pure, Bool.false_eq_true, if_false, hl, show ¬ (sLen + n ≤ sCap) from by omega, Bool.not_false, if_true]
         rw [if_neg (by rw [hmx]; simp; omega)]
         simp only [Sem.run_bind, run_info hi, Result.andThen, hcap, if_false, hch, run_askRoom, ho, hf, hzr, newRow_ok, Sem.run_pure]
         rfl)
  | false =>
    obtain ⟨⟨kd, rfl⟩, k, l, rfl, l0, l1, rfl, hz1, hz2⟩ := hN.zero hn
    have hwl := wrap_small l0 l1
    have hbl : ¬ (l * (i.bytes : Int) > 2 ^ 48) := by
      have : l * (i.bytes : Int) ≤ 1048576 * 65536 := Int.mul_le_mul l1 (by omega) (by omega) (by omega)
      omega
    simp only [Builtin.append_, List.getElem?_toArray, List.getElem?_cons_zero, List.getElem?_cons_succ, h0, h1, Sem.run_bind, run_underlying hu, run_underlying hd, sizeOf, run_info hi, Result.andThen, Sem.run_pure, if_true, asInt, asIntOf, hwl, show ¬ (l < 0) from by omega, if_false, hbl, show ¬ (sLen + l.toNat ≤ sCap) from by omega, Bool.not_true, Bool.false_eq_true]
    rw [if_neg (by rw [hmx]; omega)]
    simp only [Sem.run_bind, run_info hi, Result.andThen, hcap, if_false, hch, run_askRoom, ho]
    by_cases q : l.toNat * i.size = 0
    · rw [hz2 q]
      simp only [if_pos q, Sem.run_pure, Result.andThen, Sem.run_bind, hzr, newRow_ok]
      rfl
    · obtain ⟨zv', hzv, rfl⟩ := hz1 q
      have ez : zv' = zv := by
        have h1 := hzv w
        rw [hzr w] at h1
        injection h1 with h1 _
        exact h1.symm
      subst ez
      simp only [if_neg q, Sem.run_pure, Sem.run_bind, hzv, Result.andThen, newRow_ok]
      rfl
theorem run_app_zero {ts : Array TypeId} {t u ty el : TypeId} {i : TypeInfo} {d : TypeDesc} (h0 : ts[0]? = some t) (h1 : ts[1]? = some u) (hu : P.underlying t = some (.slice el)) (hi : P.info? el = some i)
    (hd : P.underlying u = some d) {x : Value} {news : Array Value} (hb : i.bytes ≤ 65536) (hN : News P w i el d x 0 news) (hnil : news = #[])
    {base : Option Addr} {sLen sCap : Nat} (hroom : sLen ≤ sCap) :
    (Builtin.append_ ts ty #[.slice base sLen sCap, x]).run P w = .ok (.slice base sLen sCap) w := by
  subst hnil
  cases base with
  | some a => exact run_app_room h0 h1 hu hi hd hb hN (by simpa using hroom) (by simp [storeCells])
  | none =>
    cases hn : notInt d with
    | true =>
      obtain ⟨hl, hf, _⟩ := hN.plain hn
      cases d <;> first | (simp [notInt] at hn; done) | simp only [Builtin.append_, List.getElem?_toArray, List.getElem?_cons_zero, List.getElem?_cons_succ, h0, h1, Sem.run_bind, run_underlying hu, run_underlying hd, sizeOf, run_info hi, Result.andThen, Sem.run_pure, Bool.false_eq_true, if_false, hl, Nat.add_zero, hroom, if_true, Bool.not_false, hf]
    | false =>
      obtain ⟨⟨kd, rfl⟩, k, l, rfl, l0, l1, hl0, hz1, hz2⟩ := hN.zero hn
      have e : l = 0 := by omega
      subst e
      have hwl : IntKind.i64.wrap 0 = 0 := by decide
      simp [Builtin.append_, h0, h1, run_underlying hu, run_underlying hd, sizeOf, run_info hi, asInt, asIntOf, hwl, hroom]

variable {ρ : Rho} {B : Nat}
theorem srcCells_ok {hp : Hp} {sz n : Nat} {x : AV} {cs : List AV} {v : Value} (h : srcCells hp sz n x = some cs) (hs : Sim ρ B w hp) (hr : VR ρ B w x v) :
    ∃ us : List Value, VRs ρ B w cs us ∧ us.length = n * sz ∧ ∀ w0 : World, (∀ a, w0.cell? a = w.cell? a) → (Builtin.firstCells sz n v).run P w0 = .ok ⟨us⟩ w0 := by
  unfold srcCells at h
  split at h
  · split at h
    · rename_i b o len cap s hb
      obtain ⟨hb1, hb2⟩ := hb
      subst hb1
      obtain ⟨l, ck, o', rfl, hl, g1, g2, g3, g4⟩ := hr.sl_inv
      obtain ⟨vs, hn, hv, hc⟩ := read_ok h hs hl
      refine ⟨vs, hv, hn, fun w0 h0 => run_firstCells_some w0 s n _ len ck vs hn (fun j u hj => ?_)⟩
      rw [h0]
      rcases g3 with g3 | g3
      · exfalso
        have : n = 0 := by omega
        subst this
        have : vs = [] := List.eq_nil_of_length_eq_zero (by simpa using hn)
        subst this; simp at hj
      · rw [g3]; exact hc j u hj
    · cases h
  · split at h
    · rename_i w0 cells len cap s hb
      obtain ⟨hb1, hb2, hb3⟩ := hb
      subst hb1
      injection h with h; subst h
      obtain ⟨a, ck, ys, rfl, g1, g2, g3, g4, g5, g6⟩ := hr.ro_inv
      have hk := Nat.mul_le_mul_right s hb2
      have hv : VRs ρ B w cells ((List.range cells.length).map ys) := by
        refine ⟨by simp, fun i x y hx hy => ?_⟩
        have hi : i < cells.length := by
          rcases Nat.lt_or_ge i cells.length with q | q
          · exact q
          · rw [List.getElem?_eq_none q] at hx; cases hx
        rw [List.getElem?_map, List.getElem?_range hi] at hy
        simp at hy; subst hy; exact g6 i x hx
      refine ⟨((List.range cells.length).map ys).take (n * s), hv.take _, by simp; omega, fun w1 h1 => ?_⟩
      by_cases hne : cells = []
      · subst hne
        have h00 : n * s = 0 := by simp at hb3; omega
        cases a with
        | none => simp [Builtin.firstCells]
        | some a => simp [Builtin.firstCells, h00, loadCells, loadCellsFrom]
      · obtain ⟨c, o, rfl, hm, hB, hc⟩ := g5 hne
        refine run_firstCells_some w1 s n _ len ck _ (by simp; omega) (fun j u hj => ?_)
        rw [h1, addr_add]
        rw [List.getElem?_take] at hj
        split at hj
        · have hj2 : j < cells.length := by omega
          rw [List.getElem?_map, List.getElem?_range hj2] at hj
          simp at hj; subst hj
          exact hc j hj2
        · cases hj
    · cases h
  · split at h
    · rename_i hn
      injection h with h; subst h; subst hn
      have := hr.sc_inv; subst this
      exact ⟨[], VRs.nil, by simp, fun w0 _ => by simp [Builtin.firstCells]⟩
    · cases h
  · split at h
    · rename_i s hb
      obtain ⟨hb1, hb2⟩ := hb
      subst hb1
      injection h with h; subst h
      have := hr.sc_inv; subst this
      refine ⟨(s.data.toList.take n).map fun b => .int .u8 b.toNat, ?_, ?_, fun w0 _ => ?_⟩
      · have := VRs.sc (ρ := ρ) (B := B) (w := w) ((s.data.toList.take n).map fun b => Value.int .u8 b.toNat)
        rw [List.map_map] at this
        exact this
      · have : s.data.size = s.size := rfl
        simp; omega
      · simp only [Builtin.firstCells, Sem.run_pure]
        congr 1
        apply Array.ext'
        simp [ByteArray.extract, ByteArray.copySlice, List.extract_eq_take_drop]
    · cases h
  · cases h
theorem srcLen_ok {x : AV} {n : Nat} {v : Value} (h : srcLen x = some n) (hr : VR ρ B w x v) : (Builtin.lenOf v).run P w = .ok n w := by
  unfold srcLen at h
  split at h
  · injection h with h; subst h
    obtain ⟨l, ck, o', rfl, _⟩ := hr.sl_inv
    rfl
  · injection h with h; subst h
    obtain ⟨a, ck, ys, rfl, _⟩ := hr.ro_inv
    rfl
  · injection h with h; subst h
    have := hr.sc_inv; subst this
    rfl
  · injection h with h; subst h
    have := hr.sc_inv; subst this
    rfl
  · cases h

theorem Sim.kill {hp : Hp} (h : Sim ρ B w hp) {b : Nat} {cs : List AV} (hg : hp.get b = some ⟨cs, true⟩) : Sim ρ B w ((hp.set b ⟨cs, false⟩).log b) ∧ HpKeep hp ((hp.set b ⟨cs, false⟩).log b) ∧
    ((hp.set b ⟨cs, false⟩).log b).n = hp.n ∧ ∀ x ds, ((hp.set b ⟨cs, false⟩).log b).get x = some ⟨ds, true⟩ → x ≠ b ∧ hp.get x = some ⟨ds, true⟩ := by
  have hbn : b < hp.n := by
    rcases Nat.lt_or_ge b hp.n with q | q
    · exact q
    · rw [h.out b q] at hg; cases hg
  have hb30 : b < 1000000000 := by have := h.low; omega
  have al : ∀ x ds, ((hp.set b ⟨cs, false⟩).log b).get x = some ⟨ds, true⟩ → x ≠ b ∧ hp.get x = some ⟨ds, true⟩ := by
    intro x ds hx
    rw [Hp.get_log, Hp.get_set _ _ _ _ hb30] at hx
    by_cases e : x = b
    · rw [if_pos e] at hx; injection hx with hx; injection hx with _ hx; cases hx
    · rw [if_neg e] at hx; exact ⟨e, hx⟩
  refine ⟨⟨fun x ds hx => h.blk x ds (al x ds hx).2, fun x x' ds ds' k k' hx hx' => h.inj x x' ds ds' k k' (al x ds hx).2 (al x' ds' hx').2, h.new, fun x hx => ?_, ?_⟩, ?_, by rw [Hp.n_log, Hp.n_set], al⟩
  · rw [Hp.n_log, Hp.n_set] at hx
    rw [Hp.get_log, Hp.get_set _ _ _ _ hb30, if_neg (by omega)]; exact h.out x hx
  · rw [Hp.n_log, Hp.n_set]; exact h.low
  · refine ⟨by rw [Hp.n_log, Hp.n_set]; exact Nat.le_refl _, fun x _ hx => by rw [Hp.wl_log, Hp.wl_set]; exact List.mem_cons_of_mem _ hx, fun x _ hx => ?_⟩
    rw [Hp.wl_log] at hx
    rw [Hp.get_log, Hp.get_set _ _ _ _ hb30, if_neg (fun q => hx (by rw [q]; exact List.mem_cons_self))]
theorem Sim.setDead {hp : Hp} (h : Sim ρ B w hp) {b : Nat} {l : Loc} (hl : ρ b = some l) (hd : ∀ x ds k, hp.get x = some ⟨ds, true⟩ → ρ x = some k → k.c ≠ l.c) (cs : Array Value) : Sim ρ B (w.setRow l.c cs) hp :=
  ⟨fun x ds hx => by
    obtain ⟨k, hk, hc⟩ := h.blk x ds hx
    exact ⟨k, hk, hc.step (Step.setRow (Nat.lt_succ_self b) hl cs) (setRow_other w l.c cs k.c (hd x ds k hx hk))⟩, h.inj, fun x k hx => by have := h.new x k hx; simp [World.setRow]; exact this, h.out, h.low⟩
theorem Step.alias {n b b' : Nat} {l l' : Loc} (hbn : b < n) (hl : ρ b = some l) (hb' : ρ b' = none) (hc : l'.c = l.c) : Step n ρ w (ρ.add b' l') w := by
  refine ⟨fun x k hx => ?_, fun x k hx => ?_, fun _ _ _ => rfl, Nat.le_refl _, rfl, rfl, rfl⟩
  · rw [Rho.add_other _ _ (fun e => by subst e; rw [hb'] at hx; cases hx)]; exact hx
  · by_cases e : x = b'
    · subst e; rw [Rho.add_same] at hx; injection hx with hx; subst hx; exact .inr (.inr ⟨b, l, hbn, hl, hc.symm⟩)
    · rw [Rho.add_other _ _ e] at hx; exact .inl hx
theorem Sim.alias {hp : Hp} (h : Sim ρ B w hp) {b b' : Nat} {l l' : Loc} (hl : ρ b = some l) (hb' : ρ b' = none) (hn : hp.n ≤ b') (hc : l'.c = l.c) : Sim (ρ.add b' l') B w hp := by
  have s := Step.alias (w := w) (Nat.lt_succ_self b) hl hb' hc
  have ne : ∀ x cs, hp.get x = some ⟨cs, true⟩ → x ≠ b' := fun x cs hx e => by
    subst e; rw [h.out _ hn] at hx; cases hx
  refine ⟨fun x cs hx => ?_, fun x x' cs cs' k k' hx hx' hk hk' hkk => ?_, fun x k hx => ?_, h.out, h.low⟩
  · obtain ⟨k, hk, hcs⟩ := h.blk x cs hx
    exact ⟨k, by rw [Rho.add_other _ _ (ne x cs hx)]; exact hk, hcs.step s rfl⟩
  · rw [Rho.add_other _ _ (ne x cs hx)] at hk; rw [Rho.add_other _ _ (ne x' cs' hx')] at hk'
    exact h.inj x x' cs cs' k k' hx hx' hk hk' hkk
  · by_cases e : x = b'
    · subst e; rw [Rho.add_same] at hx; injection hx with hx; subst hx; rw [hc]; exact h.new b l hl
    · rw [Rho.add_other _ _ e] at hx; exact h.new x k hx

structure Eff (ρ : Rho) (B : Nat) (w : World) (hp : Hp) (v : AV) (hp' : Hp) (y : Value) (w' : World) (ρ' : Rho) : Prop where
  step : Step hp.n ρ w ρ' w'
  sim : Sim ρ' B w' hp'
  rin : RhoIn ρ ρ' hp.n hp'.n
  val : VR ρ' B w' v y
theorem grown_ge (w : World) (need old : Nat) (e : TypeId) : need ≤ grownCap w need old e := by
  unfold grownCap; simp [Question.cut]
theorem zeroCells_size (z : Array Value) (n : Nat) : (Builtin.zeroCells z n).size = n * z.size := by simp [Builtin.zeroCells]

theorem grow_ok {hp : Hp} (hs : Sim ρ B w hp) (hB : B ≤ w.heap.size) {cells : List AV} {n sz : Nat} {v : AV} {hp' : Hp} (h : freshA hp cells n sz = some (v, hp')) (hf : ρ hp.n = none)
    {old : List Value} {news zs : Array Value} (hv : VRs ρ B w cells (old ++ news.toList)) (hn : cells.length = n * sz) {ck : Nat} (hck : n ≤ ck) (hz : zs.size = (ck - n) * sz) (el : TypeId) :
    ∃ ρ', Eff ρ B w hp v hp' (.slice (some ⟨w.heap.size, 0, none⟩) n ck) (w.drew.alloc (.cells ((⟨old⟩ : Array Value) ++ news ++ zs) el)) ρ' ∧ HpKeep hp hp' ∧ hp'.n = hp.n + 1 := by
  unfold freshA at h
  split at h
  · rename_i hroom
    simp only [Option.some.injEq, Prod.mk.injEq] at h
    obtain ⟨rfl, rfl⟩ := h
    have sd := Step.drew hp.n ρ w
    have hlen : (old ++ news.toList).length = n * sz := by rw [← hv.1]; exact hn
    have hsz : ((⟨old⟩ : Array Value) ++ news ++ zs).size = ck * sz := by
      have e : ck * sz = n * sz + (ck - n) * sz := by rw [← Nat.add_mul]; congr 1; omega
      simp at hlen
      simp [hz]; omega
    have hle := Nat.mul_le_mul_right sz hck
    obtain ⟨s2, sim2, r2⟩ := hs.drew.alloc cells ((⟨old⟩ : Array Value) ++ news ++ zs) el hroom hf hB (by rw [hsz, hn]; exact hle) (fun i x hx => by
      obtain ⟨y, hy, hvy⟩ := hv.get hx
      refine ⟨y, ?_, hvy.step sd⟩
      have hi : i < (old ++ news.toList).length := by
        rcases Nat.lt_or_ge i (old ++ news.toList).length with q | q
        · exact q
        · rw [List.getElem?_eq_none q] at hy; cases hy
      have e1 : ((⟨old⟩ : Array Value) ++ news ++ zs)[i]? = ((old ++ news.toList) ++ zs.toList)[i]? := by
        rw [← Array.getElem?_toList]; simp
      rw [e1, List.getElem?_append_left hi]; exact hy)
    refine ⟨_, ⟨sd.trans (s2 hp.n) (Free.self _ _), sim2, by rw [Hp.n_new]; exact r2, ?_⟩, HpKeep.new hp cells hroom, by rw [Hp.n_new]⟩
    refine .sl (Rho.add_same _ _ _) hck (fun k hk => by cases hk) (.inr (by simp)) (fun _ => ?_)
    simp only [Nat.zero_add]
    exact hsz.symm
  · cases h
end
end Go.Eng
end
section
set_option linter.unusedVariables false
set_option linter.unusedSimpArgs false
namespace Go.Eng
open Go Go.RowKit
section
variable {P : Program} {w : World} {ρ : Rho} {B : Nat}
theorem Eff.same {hp : Hp} (hs : Sim ρ B w hp) {v : AV} {y : Value} (h : VR ρ B w v y) : Eff ρ B w hp v hp y w ρ := ⟨Step.refl _ ρ w, hs, RhoIn.refl _ _ _, h⟩
theorem appendA_ok {ts : Array TypeId} {t u ty el : TypeId} {i : TypeInfo} {d : TypeDesc} (h0 : ts[0]? = some t) (h1 : ts[1]? = some u) (hu : P.underlying t = some (.slice el)) (hi : P.info? el = some i)
    (hd : P.underlying u = some d) {xv sv : Value} {m : Nat} {news : List Value} {zv : Value} (hz : i.zero = some zv) (hzs : zv.cells.size = i.size) (hb : i.bytes ≤ 65536) (hb0 : i.bytes ≠ 0) (hs0 : i.size ≠ 0)
    (hN : News P w i el d xv m ⟨news⟩) {new : List AV} (hnew : VRs ρ B w new news) (hnl : news.length = m * i.size)
    {hp hp' : Hp} {s v : AV} (h : appendA hp i.size s m new = some (v, hp')) (hs : Sim ρ B w hp) (hr : VR ρ B w s sv) (hf : Free ρ hp.n hp'.n) (hB : B ≤ w.heap.size) :
    ∃ y w' ρ', (Builtin.append_ ts ty #[sv, xv]).run P w = .ok y w' ∧ Eff ρ B w hp v hp' y w' ρ' ∧ HpKeep hp hp' := by
  have zc : ∀ k, (Builtin.zeroCells zv.cells k).size = k * i.size := fun k => by rw [zeroCells_size, hzs]
  unfold appendA at h
  split at h
  · rename_i hm0
    subst hm0
    have hnil : (⟨news⟩ : Array Value) = #[] := by
      have : news = [] := List.eq_nil_of_length_eq_zero (by simpa using hnl)
      subst this; rfl
    have fin : ∀ a n c, sv = .slice a n c → n ≤ c → v = s → hp' = hp → ∃ y w' ρ', (Builtin.append_ ts ty #[sv, xv]).run P w = .ok y w' ∧ Eff ρ B w hp v hp' y w' ρ' ∧ HpKeep hp hp' := by
      rintro a n c rfl hnc rfl rfl
      exact ⟨_, w, ρ, run_app_zero h0 h1 hu hi hd hb hN hnil hnc, Eff.same hs hr, HpKeep.refl _⟩
    split at h
    · simp only [Option.some.injEq, Prod.mk.injEq] at h
      obtain ⟨l, ck, o', e, hl, g1, _⟩ := hr.sl_inv
      exact fin _ _ _ e g1 h.1.symm h.2.symm
    · simp only [Option.some.injEq, Prod.mk.injEq] at h
      exact fin _ _ _ hr.sc_inv (Nat.le_refl 0) h.1.symm h.2.symm
    · simp only [Option.some.injEq, Prod.mk.injEq] at h
      obtain ⟨a, ck, ys, e, g1, g2, _⟩ := hr.ro_inv
      exact fin _ _ _ e g2 h.1.symm h.2.symm
    · cases h
  · rename_i hm0
    split at h
    · -- nil
      split at h
      · rename_i hmost
        unfold mostLen at hmost
        have e := hr.sc_inv
        subst e
        have hrun := run_app_grow (w := w) h0 h1 hu hi hd (x := xv) hz hb hb0 hN (base := none) (sLen := 0) (sCap := 0) (olds := #[]) (ty := ty) (by omega) (by omega) (by simp [Builtin.firstCells])
        have hfr : ρ hp.n = none := by
          have := h; unfold freshA at this
          split at this
          · simp only [Option.some.injEq, Prod.mk.injEq] at this
            obtain ⟨_, e2⟩ := this
            exact hf _ (Nat.le_refl _) (by rw [← e2, Hp.n_new]; omega)
          · cases this
        obtain ⟨ρ', he, hk, _⟩ := grow_ok hs hB h hfr (old := []) (news := ⟨news⟩) (zs := Builtin.zeroCells zv.cells (grownCap w (0 + m) 0 el - (0 + m))) (by simpa using hnew) (by rw [hnew.1, hnl]) (ck := grownCap w (0 + m) 0 el) (by have := grown_ge w (0 + m) 0 el; omega) (by rw [zc]; simp) el
        refine ⟨_, _, ρ', hrun, ?_, hk⟩
        simpa using he
      · cases h
    · -- ro, capacity known
      rename_i own cs len c s0
      split at h
      · rename_i hb1
        obtain ⟨rfl, hcl, hlt, hmost⟩ := hb1
        unfold mostLen at hmost
        have hsrc : srcCells hp i.size len (.ro own cs len (some c) i.size) = some (cs.take (len * i.size)) := by
          simp [srcCells, hcl]
        rw [List.take_of_length_le (by omega)] at hsrc
        obtain ⟨us, hus, hul, hfc⟩ := srcCells_ok (P := P) hsrc hs hr
        obtain ⟨a, ck, ys, rfl, g1, g2, g3, _⟩ := hr.ro_inv
        have := g3 c rfl
        subst this
        have hrun := run_app_grow (w := w) h0 h1 hu hi hd (x := xv) hz hb hb0 hN (base := a) (sLen := len) (sCap := ck) (olds := ⟨us⟩) (ty := ty) hlt hmost (hfc w.drew (fun _ => rfl))
        have hfr : ρ hp.n = none := by
          have := h; unfold freshA at this
          split at this
          · simp only [Option.some.injEq, Prod.mk.injEq] at this
            obtain ⟨_, e2⟩ := this
            exact hf _ (Nat.le_refl _) (by rw [← e2, Hp.n_new]; omega)
          · cases this
        obtain ⟨ρ', he, hk, _⟩ := grow_ok hs hB h hfr (old := us) (news := ⟨news⟩) (zs := Builtin.zeroCells zv.cells (grownCap w (len + m) ck el - (len + m))) (hus.append hnew) (by simp [hcl, hnew.1, hnl, Nat.add_mul]) (ck := grownCap w (len + m) ck el) (grown_ge _ _ _ _) (by rw [zc]) el
        exact ⟨_, _, ρ', hrun, he, hk⟩
      · cases h
    · -- sl, capacity known
      rename_i b o len c s0
      split at h
      · rename_i hb1
        obtain ⟨rfl, hmost⟩ := hb1
        unfold mostLen at hmost
        obtain ⟨l, ck, o', rfl, hl, g1, g2, g3, g4⟩ := hr.sl_inv
        have := g2 c rfl
        subst this
        split at h
        · rename_i hroom
          split at h
          · rename_i hall
            split at h
            · rename_i hp2 hw
              simp only [Option.some.injEq, Prod.mk.injEq] at h
              obtain ⟨rfl, rfl⟩ := h
              obtain ⟨w', hst, s2, sim2, hk, hn2⟩ := write_ok (P := P) hw hs hl hnew (ones_ok hnew hall)
              have ho : o' = l.sh + o := g3.resolve_left (by omega)
              subst ho
              have hrun := run_app_room (w := w) (ty := ty) h0 h1 hu hi hd hb hN (a := ⟨l.c, l.sh + o, none⟩) hroom (w' := w') (by rw [addr_add, Nat.add_assoc]; exact hst)
              exact ⟨_, w', ρ, hrun, ⟨s2, sim2, RhoIn.refl _ _ _, .sl hl hroom g2 (.inr rfl) (fun q => by cases q)⟩, hk⟩
            · cases h
          · cases h
        · rename_i hroom
          split at h
          · rename_i cs hrd
            have hsrc : srcCells hp i.size len (.sl b o len (some ck) i.size) = some cs := by
              simpa [srcCells] using hrd
            obtain ⟨us, hus, hul, hfc⟩ := srcCells_ok (P := P) hsrc hs hr
            have hrun := run_app_grow (w := w) h0 h1 hu hi hd (x := xv) hz hb hb0 hN (base := some ⟨l.c, o', none⟩) (sLen := len) (sCap := ck) (olds := ⟨us⟩) (ty := ty) (by omega) hmost (hfc w.drew (fun _ => rfl))
            have hfr : ρ hp.n = none := by
              have := h; unfold freshA at this
              split at this
              · simp only [Option.some.injEq, Prod.mk.injEq] at this
                obtain ⟨_, e2⟩ := this
                exact hf _ (Nat.le_refl _) (by rw [← e2, Hp.n_new]; omega)
              · cases this
            obtain ⟨ρ', he, hk, _⟩ := grow_ok hs hB h hfr (old := us) (news := ⟨news⟩) (zs := Builtin.zeroCells zv.cells (grownCap w (len + m) ck el - (len + m))) (hus.append hnew) (by simp [hus.1, hul, hnew.1, hnl, Nat.add_mul]) (ck := grownCap w (len + m) ck el) (grown_ge _ _ _ _) (by rw [zc]) el
            exact ⟨_, _, ρ', hrun, he, hk⟩
          · cases h
      · cases h
    · -- sl, capacity not known
      rename_i b o len s0
      split at h
      · rename_i hb1
        obtain ⟨rfl, hmost, hall⟩ := hb1
        unfold mostLen at hmost
        obtain ⟨l, ck, o', rfl, hl, g1, g2, g3, g4⟩ := hr.sl_inv
        have hck := g4 rfl
        split at h
        · rename_i cs hg
          obtain ⟨l', hl', arr, elt, q1, q2, q3, q4⟩ := hs.blk b cs hg
          rw [hl] at hl'; injection hl' with hl'; subst hl'
          split at h
          · rename_i hroom
            split at h
            · rename_i hp2 hw
              simp only [Option.some.injEq, Prod.mk.injEq] at h
              obtain ⟨rfl, rfl⟩ := h
              have hle : len + m ≤ ck := by
                have : (len + m) * i.size ≤ ck * i.size := by omega
                exact Nat.le_of_mul_le_mul_right this (by omega)
              obtain ⟨w', hst, s2, sim2, hk, hn2⟩ := write_ok (P := P) hw hs hl hnew (ones_ok hnew hall)
              have ho : o' = l.sh + o := g3.resolve_left (by omega)
              subst ho
              have hrun := run_app_room (w := w) (ty := ty) h0 h1 hu hi hd hb hN (a := ⟨l.c, l.sh + o, none⟩) hle (w' := w') (by rw [addr_add, Nat.add_assoc]; exact hst)
              exact ⟨_, w', ρ, hrun, ⟨s2, sim2, RhoIn.refl _ _ _, .sl hl hle g2 (.inr rfl) (fun _ => hck)⟩, hk⟩
            · cases h
          · split at h
            · rename_i hroom hend
              obtain ⟨simk, hkk, hnk, alk⟩ := hs.kill hg
              have hfr : ρ hp.n = none ∧ hp.n < 1000000000 := by
                have := h; unfold freshA at this
                split at this
                · rename_i hq
                  simp only [Option.some.injEq, Prod.mk.injEq] at this
                  obtain ⟨_, e2⟩ := this
                  rw [hnk] at hq
                  exact ⟨hf _ (Nat.le_refl _) (by rw [← e2, Hp.n_new, hnk]; omega), hq⟩
                · cases this
              have hdead : ∀ x ds k, ((hp.set b ⟨cs, false⟩).log b).get x = some ⟨ds, true⟩ → ρ x = some k → k.c ≠ l.c := by
                intro x ds k hx hk e
                obtain ⟨e1, e2⟩ := alk x ds hx
                exact e1 (hs.inj x b ds cs k l e2 hg hk hl e)
              -- the old cells, as they are read
              have hold : VRs ρ B w (cs.drop o) ((arr.toList.drop (l.sh + o)).take (len * i.size)) := by
                refine ⟨by simp; omega, fun j x y hx hy => ?_⟩
                rw [List.getElem?_drop] at hx
                obtain ⟨y', hy', hv'⟩ := q4 _ _ hx
                rw [List.getElem?_take] at hy
                split at hy
                · rw [List.getElem?_drop, show l.sh + o + j = l.sh + (o + j) from by omega] at hy
                  simp at hy; rw [hy'] at hy; injection hy with hy; subst hy; exact hv'
                · cases hy
              by_cases hin : len + m ≤ ck
              · -- there is room: the array stays
                have ho : o' = l.sh + o := g3.resolve_left (by omega)
                subst ho
                have hle := Nat.mul_le_mul_right i.size hin
                rw [Nat.add_mul] at hle
                have hfit : l.sh + o + len * i.size + 0 + news.length ≤ arr.size := by omega
                have hst := run_storeCells_at P l.c (l.sh + o + len * i.size) elt news 0 arr w q1 hfit (ones_ok hnew hall)
                have hrun := run_app_room (w := w) (ty := ty) h0 h1 hu hi hd hb hN (a := ⟨l.c, l.sh + o, none⟩) hin (by rw [addr_add]; exact hst)
                generalize harr : (arr.toList.take (l.sh + o + len * i.size + 0) ++ news ++ arr.toList.drop (l.sh + o + len * i.size + 0 + news.length)).toArray = arr2 at hrun hst
                have hbn : b < hp.n := by
                  rcases Nat.lt_or_ge b hp.n with q | q
                  · exact q
                  · rw [hs.out b q] at hg; cases hg
                have s1 := Step.setRow (w := w) hbn hl arr2
                have sim1 := simk.setDead hl hdead arr2
                have s2 := Step.alias (w := w.setRow l.c arr2) (l' := ⟨l.c, l.sh + o, l.n⟩) hbn hl hfr.1 rfl
                have sim2 := sim1.alias (l' := ⟨l.c, l.sh + o, l.n⟩) hl hfr.1 (by rw [hnk]; exact Nat.le_refl _) rfl
                have h2 := h
                unfold freshA at h2
                rw [if_pos (by rw [hnk]; exact hfr.2)] at h2
                simp only [Option.some.injEq, Prod.mk.injEq] at h2
                obtain ⟨rfl, rfl⟩ := h2
                refine ⟨_, _, ρ.add hp.n ⟨l.c, l.sh + o, l.n⟩, hrun, ⟨s1.trans s2 (Free.self _ _), ?_, ?_, ?_⟩, hkk.trans (HpKeep.new _ _ (by rw [hnk]; exact hfr.2))⟩
                · refine Sim.adopt sim2 _ ⟨l.c, l.sh + o, l.n⟩ (by rw [hnk]; exact hfr.2) (by rw [hnk]; exact Rho.add_same _ _ _) (fun x ds k hx hk => ?_) ?_
                  · have hxn : x ≠ hp.n := fun e => by
                      subst e
                      rw [simk.out _ (by rw [hnk]; exact Nat.le_refl _)] at hx; cases hx
                    rw [Rho.add_other _ _ hxn] at hk
                    exact hdead x ds k hx hk
                  · refine ⟨arr2, elt, setRow_heap w l.c arr arr2 elt (0, 0) q1, ?_, ?_, fun j x hx => ?_⟩
                    · rw [← harr]; simp; omega
                    · simp [hnew.1, hnl]; omega
                    · have hstep := s1.trans s2 (Free.self _ _)
                      by_cases hj : j < (cs.drop o).length
                      · rw [List.getElem?_append_left hj] at hx
                        rw [List.getElem?_drop] at hx
                        obtain ⟨y, hy, hvy⟩ := q4 _ _ hx
                        refine ⟨y, ?_, hvy.step hstep⟩
                        rw [← harr]
                        simp only [List.getElem?_toArray, List.append_assoc]
                        simp at hj
                        rw [List.getElem?_append_left (by simp; omega), List.getElem?_take, if_pos (by omega)]
                        rw [show l.sh + o + j = l.sh + (o + j) from by omega]
                        simpa using hy
                      · rw [List.getElem?_append_right (by omega)] at hx
                        obtain ⟨y, hy, hvy⟩ := hnew.get hx
                        refine ⟨y, ?_, hvy.step hstep⟩
                        have hjl : j - (cs.drop o).length < news.length := by
                          rcases Nat.lt_or_ge (j - (cs.drop o).length) news.length with q | q
                          · exact q
                          · rw [List.getElem?_eq_none q] at hy; cases hy
                        rw [← harr]
                        simp only [List.getElem?_toArray, List.append_assoc]
                        simp at hj hjl
                        rw [List.getElem?_append_right (by simp; omega), List.getElem?_append_left (by simp; omega)]
                        rw [← hy]; congr 1; simp; omega
                · rw [Hp.n_new, hnk]; exact fun x hx => Rho.add_other _ _ (by omega)
                · rw [hnk]
                  exact .sl (l := ⟨l.c, l.sh + o, l.n⟩) (Rho.add_same _ _ _) hin (fun k hk => by cases hk) (.inr (by simp)) (fun _ => by simpa using hck)
              · -- no room: a new array
                have hfc : (Builtin.firstCells i.size len (.slice (some ⟨l.c, o', none⟩) len ck)).run P w.drew = .ok ⟨(arr.toList.drop (l.sh + o)).take (len * i.size)⟩ w.drew := by
                  refine run_firstCells_some w.drew i.size len _ len ck _ (by simp; omega) (fun j u hj => ?_)
                  rw [List.getElem?_take] at hj
                  split at hj
                  · rename_i hjl
                    have ho : o' = l.sh + o := by
                      rcases g3 with g3 | g3
                      · exfalso
                        have h00 : len = 0 := by omega
                        rw [h00] at hjl
                        simp at hjl
                      · exact g3
                    rw [ho]
                    rw [List.getElem?_drop] at hj
                    rw [addr_add]
                    show w.cell? _ = _
                    simp only [World.cell?, q1]
                    simpa using hj
                  · cases hj
                have hrun := run_app_grow (w := w) h0 h1 hu hi hd (x := xv) hz hb hb0 hN (base := some ⟨l.c, o', none⟩) (sLen := len) (sCap := ck) (olds := ⟨(arr.toList.drop (l.sh + o)).take (len * i.size)⟩) (ty := ty) (by omega) hmost hfc
                obtain ⟨ρ', he, hk, hnn⟩ := grow_ok simk hB h (by rw [hnk]; exact hfr.1) (old := (arr.toList.drop (l.sh + o)).take (len * i.size)) (news := ⟨news⟩) (zs := Builtin.zeroCells zv.cells (grownCap w (len + m) ck el - (len + m))) (hold.append hnew) (by simp [hnew.1, hnl, Nat.add_mul]; omega) (ck := grownCap w (len + m) ck el) (grown_ge _ _ _ _) (by rw [zc]) el
                refine ⟨_, _, ρ', hrun, ⟨by have := he.step; rw [hnk] at this; exact this, he.sim, ?_, he.val⟩, hkk.trans hk⟩
                have := he.rin
                rw [hnk] at this
                exact this
            · cases h
        · cases h
      · cases h
    · cases h

theorem HpKeep.write {hp hp' : Hp} {b off : Nat} {xs : List AV} (h : hp.write b off xs = some hp') : hp'.n = hp.n := by
  unfold Hp.write at h
  split at h
  · split at h
    · injection h with h; subst h; rw [Hp.n_log, Hp.n_set]
    · cases h
  · cases h
theorem zeroFits_inv {i : TypeInfo} {el : TypeId} (hi : P.info? el = some i) (h : zeroFits P i el = true) : ∃ zv, i.zero = some zv ∧ zv.cells.size = i.size ∧ i.size ≠ 0 ∧ i.bytes ≠ 0 ∧ i.bytes ≤ 65536 ∧ zeroA P el = some (zv.cells.toList.map .sc) := by
  unfold zeroFits zeroA at h
  rw [hi] at h
  simp only at h
  cases hz : i.zero with
  | none => rw [hz] at h; simp at h
  | some zv =>
    rw [hz] at h
    simp at h
    exact ⟨zv, rfl, h.1, h.2.1, h.2.2.1, h.2.2.2, by simp [zeroA, hi, hz]⟩
theorem opAppend_ok {ts : Array TypeId} {t u ty : TypeId} {d : TypeDesc} (h0 : ts[0]? = some t) (h1 : ts[1]? = some u) (hd : P.underlying u = some d) (hnd : notInt d = true)
    {hp hp' : Hp} {s x v : AV} {sv xv : Value} (h : opAppend P hp t s x = some (v, hp')) (hs : Sim ρ B w hp) (hr : VR ρ B w s sv) (hx : VR ρ B w x xv) (hf : Free ρ hp.n hp'.n) (hB : B ≤ w.heap.size) :
    ∃ y w' ρ', (Builtin.append_ ts ty #[sv, xv]).run P w = .ok y w' ∧ Eff ρ B w hp v hp' y w' ρ' ∧ HpKeep hp hp' := by
  unfold opAppend at h
  split at h
  · rename_i el hu
    split at h
    · rename_i i hi
      split at h
      · rename_i m hm
        split at h
        · rename_i new hnew
          split at h
          · rename_i hz
            obtain ⟨zv, z1, z2, z3, z4, z5, _⟩ := zeroFits_inv hi hz
            obtain ⟨us, hus, hul, hfc⟩ := srcCells_ok (P := P) hnew hs hx
            refine appendA_ok (ty := ty) h0 h1 hu hi hd z1 z2 z5 z4 z3 (news := us) ⟨fun _ => ⟨srcLen_ok hm hx, hfc w (fun _ => rfl), hfc w.drew (fun _ => rfl)⟩, fun q => by rw [hnd] at q; cases q⟩ hus hul h hs hr hf hB
          · cases h
        · cases h
      · cases h
    · cases h
  · cases h
theorem repA_zero (z : Array Value) (n : Nat) : (repA (z.toList.map AV.sc) n) = (Builtin.zeroCells z n).toList.map AV.sc := by
  apply List.ext_getElem?
  intro i
  rw [repA_get]
  simp only [List.length_map, Array.length_toList, List.getElem?_map, Builtin.zeroCells, Array.toList_map, Array.toList_range]
  by_cases h : i < n * z.size
  · rw [if_pos h]
    have hz : 0 < z.size := by
      rcases Nat.eq_zero_or_pos z.size with q | q
      · rw [q] at h; simp at h
      · exact q
    have hm : i % z.size < z.size := Nat.mod_lt _ hz
    rw [List.getElem?_range h]
    simp [hm]
  · rw [if_neg h, List.getElem?_eq_none (by simpa using h)]
    rfl
theorem opAppendZ_ok {ts : Array TypeId} {t u ty : TypeId} {kd : IntKind} (h0 : ts[0]? = some t) (h1 : ts[1]? = some u) (hd : P.underlying u = some (.int kd))
    {hp hp' : Hp} {s x v : AV} {sv xv : Value} (h : opAppendZ P hp t s x = some (v, hp')) (hs : Sim ρ B w hp) (hr : VR ρ B w s sv) (hx : VR ρ B w x xv) (hf : Free ρ hp.n hp'.n) (hB : B ≤ w.heap.size) :
    ∃ y w' ρ', (Builtin.append_ ts ty #[sv, xv]).run P w = .ok y w' ∧ Eff ρ B w hp v hp' y w' ρ' ∧ HpKeep hp hp' := by
  unfold opAppendZ at h
  split at h
  · rename_i el hu
    split at h
    · rename_i i hi
      split at h
      · rename_i m new hnew
        split at h
        · rename_i hz
          obtain ⟨zv, z1, z2, z3, z4, z5, z6⟩ := zeroFits_inv hi hz
          unfold zerosA at hnew
          rw [z6] at hnew
          split at hnew
          · rename_i k l z2' e2
            injection e2 with e2
            subst e2
            split at hnew
            · rename_i hb
              unfold mostLen at hb
              simp only [Option.some.injEq, Prod.mk.injEq] at hnew
              obtain ⟨rfl, rfl⟩ := hnew
              have e := hx.sc_inv
              subst e
              have hzr : ∀ w, (zeroValue el).run P w = .ok zv w := fun w => by simp [zeroValue, run_info hi, z1]
              refine appendA_ok (ty := ty) h0 h1 hu hi hd z1 z2 z5 z4 z3 (news := (Builtin.zeroCells zv.cells l.toNat).toList) ⟨fun q => by simp [notInt] at q, fun _ => ⟨⟨kd, rfl⟩, k, l, rfl, hb.1, by omega, rfl, fun _ => ⟨zv, hzr, rfl⟩, fun q => ?_⟩⟩ (by rw [repA_zero]; exact VRs.sc _) (by rw [Array.length_toList, zeroCells_size, z2]) h hs hr hf hB
              apply Array.eq_empty_of_size_eq_zero
              show (Builtin.zeroCells zv.cells l.toNat).size = 0
              rw [zeroCells_size, z2, q]
            · cases hnew
          · cases hnew
        · cases h
      · cases h
    · cases h
  · cases h
end
end Go.Eng
end
