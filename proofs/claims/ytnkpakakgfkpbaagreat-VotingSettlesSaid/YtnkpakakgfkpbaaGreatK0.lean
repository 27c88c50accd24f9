import Derived.Below
import Derived.Maps.AppendAt
import Derived.Laws.MakeOwn
import Derived.Laws.OwnMore
import Derived.Laws.Slices
import Derived.Laws.IdiomCopy
import Derived.OwnWalk
import Derived.Laws.Cells
import Derived.Laws.CopyRow
import Derived.Laws.StructEq
import Derived.Laws.Cover3
import Derived.Laws.Entries
import Derived.Great.BuildSlice
import Derived.DataShut
import Derived.ArgAppend
set_option linter.unusedVariables false
set_option linter.unusedSimpArgs false
section
namespace Go.Vi

inductive PV where
  | undef
  | sc (v : Value)
  | nils
  | sl (own : Option TypeId) (sz : Nat) (es : List (List PV))
  | agg (cs : List PV)
  | tup (vs : List PV)
  | fn (f : FuncId) (cap : List PV)
  | rp (cs : List PV)
  | mp (cs : List PV)
  | loc (id off : Nat)
  | lel (id n i j : Nat)
  | ls (id n : Nat)
  | lw (id n lo : Nat)
  deriving Inhabited

inductive Obj where
  | row (e sz : Nat) (es : List (List PV)) (fr : Bool)
  | box (cs : List PV) (fr : Bool)
  | dead
  deriving Inhabited

def scal : Value → Bool
  | .bool _ | .int .. | .string _ | .nilFunc | .nilIface | .pointer none => true
  | _ => false

inductive All2 {α β : Type} (R : α → β → Prop) : List α → List β → Prop
  | nil : All2 R [] []
  | cons {a b l m} : R a b → All2 R l m → All2 R (a :: l) (b :: m)

namespace All2
variable {α β : Type} {R S : α → β → Prop}
theorem len {l : List α} {m : List β} (h : All2 R l m) : l.length = m.length := by induction h <;> simp_all
theorem imp (f : ∀ a b, R a b → S a b) {l : List α} {m : List β} (h : All2 R l m) : All2 S l m := by
  induction h with
  | nil => exact .nil
  | cons a _ ih => exact .cons (f _ _ a) ih
theorem get {l : List α} {m : List β} (h : All2 R l m) : ∀ {i : Nat} {a : α}, l[i]? = some a → ∃ b, m[i]? = some b ∧ R a b := by
  induction h with
  | nil => intro i a e; simp at e
  | cons r _ ih =>
    intro i a e
    cases i with
    | zero => simp at e; exact ⟨_, rfl, e ▸ r⟩
    | succ i => simp at e; simpa using ih e
theorem get' {l : List α} {m : List β} (h : All2 R l m) : ∀ {i : Nat} {b : β}, m[i]? = some b → ∃ a, l[i]? = some a ∧ R a b := by
  induction h with
  | nil => intro i a e; simp at e
  | cons r _ ih =>
    intro i a e
    cases i with
    | zero => simp at e; exact ⟨_, rfl, e ▸ r⟩
    | succ i => simp at e; simpa using ih e
theorem of_get {l : List α} : ∀ {m : List β}, l.length = m.length → (∀ (i : Nat) (a : α) (b : β), l[i]? = some a → m[i]? = some b → R a b) → All2 R l m := by
  induction l with
  | nil => intro m hl _; cases m with
    | nil => exact .nil
    | cons _ _ => simp at hl
  | cons a l ih => intro m hl h; cases m with
    | nil => simp at hl
    | cons b m => exact .cons (h 0 a b rfl rfl) (ih (by simpa using hl) fun i a b ha hb => h (i + 1) a b (by simpa using ha) (by simpa using hb))
theorem set {l : List α} {m : List β} (h : All2 R l m) {a : α} {b : β} (r : R a b) (i : Nat) : All2 R (l.set i a) (m.set i b) := by
  induction h generalizing i with
  | nil => simp; exact .nil
  | cons r' _ ih => cases i with
    | zero => exact .cons r ‹_›
    | succ i => exact .cons r' (ih i)
theorem append {l l' : List α} {m m' : List β} (h : All2 R l m) (h' : All2 R l' m') : All2 R (l ++ l') (m ++ m') := by
  induction h with
  | nil => exact h'
  | cons r _ ih => exact .cons r ih
theorem take {l : List α} {m : List β} (h : All2 R l m) (n : Nat) : All2 R (l.take n) (m.take n) := by
  induction h generalizing n with
  | nil => simp; exact .nil
  | cons r _ ih => cases n with
    | zero => simp; exact .nil
    | succ n => exact .cons r (ih n)
theorem drop {l : List α} {m : List β} (h : All2 R l m) (n : Nat) : All2 R (l.drop n) (m.drop n) := by
  induction h generalizing n with
  | nil => simp; exact .nil
  | cons r hh ih => cases n with
    | zero => exact .cons r hh
    | succ n => simpa using ih n
end All2

abbrev Rd := Addr → Option Value

/-- Persistent values of one cell. -/
inductive RepP (rd : Rd) : PV → Value → Prop
  | sc {v : Value} (h : scal v = true) : RepP rd (.sc v) v
  | nils : RepP rd .nils (.slice none 0 0)
  | sl {own : Option TypeId} {sz : Nat} {es : List (List PV)} {a : Option Addr} {cap b o : Nat} {u : Nat → Nat → Value}
      (hcap : es.length ≤ cap) (hmax : cap ≤ maxLen) (hnone : a = none → cap = 0) (ha : es ≠ [] → a = some ⟨b, o, none⟩) (hsz : ∀ e ∈ es, e.length = sz)
      (hrd : ∀ (i : Nat) (e : List PV) (j : Nat) (c : PV), es[i]? = some e → e[j]? = some c → rd ⟨b, o + (i * sz + j), none⟩ = some (u i j))
      (hrep : ∀ (i : Nat) (e : List PV) (j : Nat) (c : PV), es[i]? = some e → e[j]? = some c → RepP rd c (u i j)) : RepP rd (.sl own sz es) (.slice a es.length cap)
  | fn {f : FuncId} {cap : List PV} {vs : List Value} (hl : cap.length = vs.length) (h : ∀ (i : Nat) (c : PV) (v : Value), cap[i]? = some c → vs[i]? = some v → RepP rd c v) :
      RepP rd (.fn f cap) (.func (.func f) #[] vs.toArray)
  | rp {cs : List PV} {b o : Nat} {u : Nat → Value} (hrd : ∀ (j : Nat) (c : PV), cs[j]? = some c → rd ⟨b, o + j, none⟩ = some (u j))
      (hrep : ∀ (j : Nat) (c : PV), cs[j]? = some c → RepP rd c (u j)) : RepP rd (.rp cs) (.pointer (some ⟨b, o, none⟩))

def Rd.le (r s : Rd) : Prop := ∀ p v, r p = some v → s p = some v

theorem RepP.mono {r s : Rd} (h : Rd.le r s) {p : PV} {v : Value} (k : RepP r p v) : RepP s p v := by
  induction k with
  | sc h => exact .sc h
  | nils => exact .nils
  | sl hcap hmax hnone ha hsz hrd _ ih => exact .sl hcap hmax hnone ha hsz (fun i e j c h1 h2 => h _ _ (hrd i e j c h1 h2)) ih
  | fn hl _ ih => exact .fn hl ih
  | rp hrd _ ih => exact .rp (fun j c h1 => h _ _ (hrd j c h1)) ih

theorem RepP.oneCell {r : Rd} {p : PV} {v : Value} (k : RepP r p v) : v.oneCell' = true := by
  cases k with
  | sc h => cases v <;> first | rfl | simp [scal] at h
  | _ => rfl

/-- Where the objects lie: a row's slice value, a box's block. -/
structure Lay where
  sv : Nat → Value
  bl : Nat → Nat

abbrev Objs := Nat → Option Obj

def rep1 (rd : Rd) (L : Lay) (s : Objs) : PV → Value → Prop
  | .undef, _ => True
  | .loc id off, v => ((∃ cs fr, s id = some (.box cs fr)) → v = .pointer (some ⟨L.bl id, off, none⟩)) ∧ (∃ a, v = .pointer (some a)) ∧ s id ≠ none
  | .lel id n i j, v => (∀ e sz es fr, s id = some (.row e sz es fr) → n = es.length → ∃ b, (L.sv id).ownBlock = some b ∧ v = .pointer (some ⟨b, i * sz + j, none⟩)) ∧
      (∀ e sz es fr, s id = some (.row e sz es fr) → n ≤ es.length) ∧ (∃ a, v = .pointer (some a)) ∧ s id ≠ none
  | .ls id n, v => (∀ e sz es fr, s id = some (.row e sz es fr) → n = es.length → v = L.sv id) ∧
      (∀ e sz es fr, s id = some (.row e sz es fr) → n ≤ es.length) ∧ (∃ a c, v = .slice a n c) ∧ s id ≠ none
  | .lw id n lo, v => (∀ e sz es fr, s id = some (.row e sz es fr) → n = es.length → lo < n → ∃ b c, (L.sv id).ownBlock = some b ∧ v = .slice (some ⟨b, lo * sz, none⟩) (n - lo) c) ∧
      (∀ e sz es fr, s id = some (.row e sz es fr) → n ≤ es.length) ∧ (∃ a c, v = .slice a (n - lo) c) ∧ s id ≠ none
  | p, v => RepP rd p v

def rep2 (rd : Rd) (L : Lay) (s : Objs) : PV → Value → Prop
  | .agg cs, v => ∃ vs : List Value, v = .agg vs.toArray ∧ All2 (rep1 rd L s) cs vs ∧ ∀ u ∈ vs, u.oneCell' = true
  | p, v => rep1 rd L s p v

def rep3 (rd : Rd) (L : Lay) (s : Objs) : PV → Value → Prop
  | .tup ps, v => ∃ vs : List Value, v = .tuple vs.toArray ∧ All2 (rep2 rd L s) ps vs
  | p, v => rep2 rd L s p v

def blkOf (L : Lay) (s : Objs) (id : Nat) : Option Nat :=
  match s id with
  | some (.box ..) => some (L.bl id)
  | some (.row ..) => (L.sv id).ownBlock
  | _ => none

structure WOk (rd : Rd) (L : Lay) (s : Objs) (w : World) : Prop where
  hrd : ∀ p v, rd p = some v → w.cell? p = some v ∧ v.oneCell' = true ∧ p.spot = none
  box : ∀ id cs fr, s id = some (.box cs fr) → ∃ (vs : List Value) (e : Nat), w.heap[L.bl id]? = some (.cells vs.toArray e (0, 0)) ∧ All2 (rep1 rd L s) cs vs ∧ (∀ u ∈ vs, u.oneCell' = true) ∧
    (fr = false → ∀ p v, rd p = some v → p.block ≠ L.bl id) ∧
    (fr = true → ∀ (j : Nat) (c : PV) (v : Value), cs[j]? = some c → vs[j]? = some v → rd ⟨L.bl id, j, none⟩ = some v ∧ RepP rd c v)
  row : ∀ id e sz es fr, s id = some (.row e sz es fr) → ∃ xs : List Value, w.ownsRow 0 e sz (L.sv id) es.length xs ∧ All2 (RepP rd) es.flatten xs ∧ (∀ x ∈ es, x.length = sz) ∧
    (∀ b, (L.sv id).ownBlock = some b → ∀ p v, rd p = some v → p.block = b → fr = true ∧ p.off < es.length * sz)
  inj : ∀ i j b, blkOf L s i = some b → blkOf L s j = some b → i = j

end Go.Vi

end
section
namespace Go.Vi
inductive TI where
  | slice (e : Nat)
  | struct (fs : List (Nat × Nat × Bool))
  | array (len n : Nat) (agg : Bool)
  | int (k : IntKind)
  | bool
  | string
  | other
structure TRow where
  ti : TI
  n : Nat
  agg : Bool
  zero : List PV
  eq : Bool := false

abbrev Tab := List (Nat × TRow)

def look {α : Type} : List (Nat × α) → Nat → Option α
  | [], _ => none
  | (s, v) :: r, t => bif Nat.beq s t then some v else look r t

def lookD {α : Type} (d : α) : List (Nat × α) → Nat → α
  | [], _ => d
  | (s, v) :: r, t => bif Nat.beq s t then v else lookD d r t

structure St where
  n : Nat
  env : List (Nat × PV)
  st : List (Nat × Obj)

def St.get (σ : St) (t : Nat) : PV := lookD .undef σ.env t
def St.obj (σ : St) : Objs := look σ.st
def St.set (σ : St) (d : Option Nat) (v : PV) : St := match d with
  | some t => { σ with env := (t, v) :: σ.env }
  | none => σ
def St.upd (σ : St) (u : List (Nat × Obj)) : St := { σ with st := u ++ σ.st }

def constC : Value → PV
  | .slice none 0 0 => .nils
  | .func (.func f) ⟨[]⟩ ⟨[]⟩ => .fn f []
  | v => bif scal v then .sc v else .undef
def okC : Value → Bool
  | .slice none 0 0 => true
  | v => scal v
def constV : Value → PV
  | .agg cs => bif cs.toList.all okC then .agg (cs.toList.map constC) else .undef
  | v => constC v

def evo (g : Nat → PV) : Operand → PV
  | .tmp t => g t
  | .const v => constV v
  | .func f => .fn f []
  | .global _ => .undef

def PV.cells : PV → List PV
  | .agg cs => cs
  | p => [p]

def unI (k : IntKind) (n : Int) : PV := .sc (.int k n)

/-- Binary operators on one-cell values. -/
def binS (op : BinOp) (x y : PV) (k : PV → Prop) : Prop :=
  match x, y with
  | .sc (.int i a), .sc (.int j b) =>
    match op with
    | .add => i = j ∧ k (.sc (.int i (i.wrap (a + b))))
    | .sub => i = j ∧ k (.sc (.int i (i.wrap (a - b))))
    | .mul => i = j ∧ k (.sc (.int i (i.wrap (a * b))))
    | .quo => i = j ∧ b ≠ 0 ∧ k (.sc (.int i (i.wrap (a.tdiv b))))
    | .rem => i = j ∧ b ≠ 0 ∧ k (.sc (.int i (a.tmod b)))
    | .and => i = j ∧ k (.sc (.int i (i.wrap (BitVec.ofInt i.bits a &&& BitVec.ofInt i.bits b).toNat)))
    | .or => i = j ∧ k (.sc (.int i (i.wrap (BitVec.ofInt i.bits a ||| BitVec.ofInt i.bits b).toNat)))
    | .xor => i = j ∧ k (.sc (.int i (i.wrap (BitVec.ofInt i.bits a ^^^ BitVec.ofInt i.bits b).toNat)))
    | .andNot => i = j ∧ k (.sc (.int i (i.wrap (BitVec.ofInt i.bits a &&& ~~~ BitVec.ofInt i.bits b).toNat)))
    | .shl => 0 ≤ b ∧ k (.sc (.int i (i.wrap (a * 2 ^ min b.toNat i.bits))))
    | .shr => 0 ≤ b ∧ k (.sc (.int i (a.fdiv (2 ^ min b.toNat i.bits))))
    | .eql => i = j ∧ k (.sc (.bool (a == b)))
    | .neq => i = j ∧ k (.sc (.bool (a != b)))
    | .lss => i = j ∧ k (.sc (.bool (decide (a < b))))
    | .leq => i = j ∧ k (.sc (.bool (decide (a ≤ b))))
    | .gtr => i = j ∧ k (.sc (.bool (decide (a > b))))
    | .geq => i = j ∧ k (.sc (.bool (decide (a ≥ b))))
  | .sc (.string a), .sc (.string b) =>
    match op with
    | .eql => k (.sc (.bool (a.toList == b.toList)))
    | .neq => k (.sc (.bool (!(a.toList == b.toList))))
    | .lss => k (.sc (.bool (Op.bytesLess a.toList b.toList)))
    | .leq => k (.sc (.bool (Op.bytesLess a.toList b.toList || a.toList == b.toList)))
    | .gtr => k (.sc (.bool (!(Op.bytesLess a.toList b.toList || a.toList == b.toList))))
    | .geq => k (.sc (.bool (!(Op.bytesLess a.toList b.toList))))
    | .add => ((a.size + b.size : Nat) : Int) ≤ 9223372036854775807 ∧ k (.sc (.string (a ++ b)))
    | _ => False
  | _, _ => False

/-- Equality of structs of whole numbers (all fields of one cell). -/
def eqInts : List PV → List PV → Option Bool
  | [], [] => some true
  | .sc (.int i a) :: r, .sc (.int j b) :: s => bif decide (i = j) then (eqInts r s).map ((a == b) && ·) else none
  | _, _ => none

/-- Persistent form of a one-cell value, with the objects that are frozen by it. -/
def share1 (s : Objs) (p : PV) (k : PV → List (Nat × Obj) → Prop) : Prop :=
  match p with
  | .ls id n => match s id with
    | some (.row e sz es _) => n = es.length ∧ k (.sl none sz es) [(id, .row e sz es true)]
    | _ => False
  | .sc v => k (.sc v) []
  | .nils => k .nils []
  | .sl _ sz es => k (.sl none sz es) []
  | .fn f c => k (.fn f c) []
  | .rp c => k (.rp c) []
  | _ => False
def shareL (s : Objs) : List PV → (List PV → List (Nat × Obj) → Prop) → Prop
  | [], k => k [] []
  | p :: r, k => share1 s p fun q u => shareL s r fun l v => k (q :: l) (u ++ v)
def share2 (s : Objs) (p : PV) (k : PV → List (Nat × Obj) → Prop) : Prop :=
  match p with
  | .agg cs => shareL s cs fun l u => k (.agg l) u
  | p => share1 s p k

/-- Cells written over others from a place on. -/
def splice (cs : List PV) (off : Nat) (new : List PV) : List PV := cs.take off ++ new ++ cs.drop (off + new.length)

def loadV (agg : Bool) (n : Nat) (cs : List PV) (k : PV → Prop) : Prop :=
  match agg with
  | true => Nat.ble n cs.length = true ∧ k (.agg (cs.take n))
  | false => match cs with
    | c :: _ => n = 1 ∧ k c
    | [] => False

abbrev rb (d : Option Nat) : Nat := 1000 * (d.getD 0 + 1)

def fillV (place : Nat → Option (Nat × Nat)) (cells : List PV) : List (Nat × PV) → Option (List PV)
  | [] => some cells
  | (i, v) :: rest => match place i with
    | none => none
    | some (off, size) => bif Nat.beq v.cells.length size && Nat.ble (off + size) cells.length then fillV place (splice cells off v.cells) rest else none

def parts (g : Nat → PV) (ps : List (Nat × Operand)) : List (Nat × PV) := ps.map fun (i, x) => (i, evo g x)

def noU (l : List (Nat × PV)) : Bool := l.all fun q => match q.2 with | .undef => false | .tup _ => false | _ => true

def shareP (s : Objs) : List (Nat × PV) → (List (Nat × PV) → List (Nat × Obj) → Prop) → Prop
  | [], k => k [] []
  | (i, p) :: r, k => share2 s p fun q u => shareP s r fun l v => k ((i, q) :: l) (u ++ v)

def chunks (sz : Nat) : Nat → List PV → List (List PV)
  | 0, _ => []
  | n + 1, l => l.take sz :: chunks sz n (l.drop sz)

def fieldOf (T : Tab) (t f : Nat) : Option (Nat × Nat × Bool) :=
  match look T t with
  | some { ti := .struct fs, .. } => fs[f]?
  | _ => none

abbrev K := PV → List (Nat × Obj) → Prop

def optI (g : Nat → PV) (o : Option Operand) (d : Int) (k : Int → Prop) : Prop :=
  match o with
  | none => k d
  | some x => match evo g x with
    | .sc (.int _ n) => k n
    | _ => False

def ov (u : List (Nat × Obj)) (s : Objs) : Objs := fun id => match look u id with
  | some o => some o
  | none => s id

/-- What a closure captures: variables by their boxes, which nobody writes from then on. -/
def capt (s : Objs) : List PV → (List PV → List (Nat × Obj) → Prop) → Prop
  | [], k => k [] []
  | p :: r, k => match p with
    | .loc id 0 => match s id with
      | some (.box cs _) => shareL s cs fun l u => capt (ov ((id, .box l true) :: u) s) r fun m v => k (.rp l :: m) (v ++ ((id, .box l true) :: u))
      | _ => False
    | p => share1 s p fun q u => capt (ov u s) r fun m v => k (q :: m) (v ++ u)

def isI64 (T : Tab) (t : Nat) : Bool := match look T t with
  | some { ti := .int .i64, .. } => true
  | _ => false

/-- What an operation comes to, calls left out: its value and the objects that it makes or changes. -/
def opVC (T : Tab) (o : Oper) (g : Nat → PV) (s : Objs) (k : K) : Prop :=
  match o.op with
  | .move x | .assign x => k (evo g x) []
  | .pick c a b => match evo g c with
    | .sc (.bool t) => match t with
      | true => k (evo g a) []
      | false => k (evo g b) []
    | _ => False
  | .alloc t => match look T t with
    | some r => match s (rb o.dst) with
      | none => k (.loc (rb o.dst) 0) [(rb o.dst, .box r.zero false)]
      | some _ => s (rb o.dst + 300) = none ∧ k (.loc (rb o.dst + 300) 0) [(rb o.dst + 300, .box r.zero false)]
    | none => False
  | .box t x => match look T t, evo g x with
    | _, .undef => False
    | _, .tup _ => False
    | some r, p => s (rb o.dst) = none ∧ p.cells.length = r.n ∧ k (.loc (rb o.dst) 0) [(rb o.dst, .box p.cells false)]
    | none, _ => False
  | .build t ps => match look T t with
    | some { ti := .struct fs, zero, .. } => match fillV (fun i => (fs[i]?).map fun f => (f.1, f.2.1)) zero (parts g ps.toList) with
      | some cs => noU (parts g ps.toList) = true ∧ k (.agg cs) []
      | none => False
    | some { ti := .array _ n _, zero, .. } => match fillV (fun i => some (i * n, n)) zero (parts g ps.toList) with
      | some cs => noU (parts g ps.toList) = true ∧ k (.agg cs) []
      | none => False
    | _ => False
  | .buildSlice t len ps => match look T t with
    | some { ti := .slice e, .. } => match look T e with
      | some r => shareP s (parts g ps.toList) fun qs u => match fillV (fun i => some (i * r.n, r.n)) ((List.replicate len r.zero).flatten) qs with
        | some cs => s (rb o.dst) = none ∧ Nat.ble (len * r.n) 1048576 = true ∧ k (.ls (rb o.dst) len) ((rb o.dst, .row e r.n (chunks r.n len cs) false) :: u)
        | none => False
      | none => False
    | _ => False
  | .load t x => match look T t with
    | some r => match evo g x with
      | .rp cs => loadV r.agg r.n cs fun v => k v []
      | .loc id off => match s id with
        | some (.box cs _) => loadV r.agg r.n (cs.drop off) fun v => k v []
        | _ => False
      | .lel id n i j => match s id with
        | some (.row _ _ es _) => n = es.length ∧ ∃ el, es[i]? = some el ∧ loadV r.agg r.n (el.drop j) fun v => k v []
        | _ => False
      | _ => False
    | none => False
  | .store t x y => match look T t with
    | some r => match evo g x with
      | .loc id off => match s id with
        | some (.box cs fr) => fr = false ∧ (evo g y).cells.length = r.n ∧ Nat.ble (off + r.n) cs.length = true ∧ noU [(0, evo g y)] = true ∧ k .undef [(id, .box (splice cs off (evo g y).cells) false)]
        | _ => False
      | .lel id n i j => match s id with
        | some (.row e sz es fr) => fr = false ∧ n = es.length ∧ share2 s (evo g y) fun q u => ∃ el, es[i]? = some el ∧ q.cells.length = r.n ∧ Nat.ble (j + r.n) el.length = true ∧
            u.all (fun x => !(Nat.beq x.1 id)) = true ∧ k .undef ((id, .row e sz (es.set i (splice el j q.cells)) false) :: u)
        | _ => False
      | _ => False
    | none => False
  | .nilCheck x => match evo g x with
    | .loc id off => k (.loc id off) []
    | .rp cs => k (.rp cs) []
    | .lel a b c d => k (.lel a b c d) []
    | .fn f c => k (.fn f c) []
    | _ => False
  | .binOp op t x y _ => match evo g x, evo g y with
    | .agg a, .agg b => match look T t with
      | some { eq := true, n, .. } => n = a.length ∧ n = b.length ∧ match eqInts a b, op with
        | some r, .eql => k (.sc (.bool r)) []
        | some r, .neq => k (.sc (.bool (!r))) []
        | _, _ => False
      | _ => False
    | .sc (.bool a), .sc (.bool b) => match look T t, op with
      | some { ti := .bool, .. }, .eql => k (.sc (.bool (a == b))) []
      | some { ti := .bool, .. }, .neq => k (.sc (.bool (!(a == b)))) []
      | _, _ => False
    | .sl _ _ es, .nils => match look T t, op, y with
      | some { ti := .slice _, .. }, .eql, .const _ => ∀ b, (es ≠ [] → b = false) → k (.sc (.bool b)) []
      | some { ti := .slice _, .. }, .neq, .const _ => ∀ b, (es ≠ [] → b = false) → k (.sc (.bool (!b))) []
      | _, _, _ => False
    | .nils, .nils => match look T t, op, y with
      | some { ti := .slice _, .. }, .eql, .const _ => k (.sc (.bool true)) []
      | some { ti := .slice _, .. }, .neq, .const _ => k (.sc (.bool false)) []
      | _, _, _ => False
    | p, q => binS op p q fun v => k v []
  | .unOp op _ x => match op, evo g x with
    | .not, .sc (.bool b) => k (.sc (.bool (!b))) []
    | .neg, .sc (.int i n) => k (.sc (.int i (i.wrap (0 - n)))) []
    | _, _ => False
  | .convert src dst x => match look T src, look T dst, evo g x with
    | some { ti := .int _, .. }, some { ti := .int j, .. }, .sc (.int _ n) => k (.sc (.int j (j.wrap n))) []
    | some { ti := .string, .. }, some { ti := .string, .. }, .sc (.string a) => k (.sc (.string a)) []
    | _, _, _ => False
  | .makeSlice t l c => match look T t, evo g l, evo g c with
    | some { ti := .slice e, .. }, .sc (.int _ n), .sc (.int _ m) => match look T e with
      | some r => s (rb o.dst) = none ∧ 0 ≤ n ∧ n = m ∧ n ≤ 1048576 ∧ k (.ls (rb o.dst) n.toNat) [(rb o.dst, .row e r.n (List.replicate n.toNat r.zero) false)]
      | none => False
    | _, _, _ => False
  | .slice t x lo hi none => match look T t with
    | some { ti := .slice e, .. } => match look T e with
      | some r => match evo g x with
        | .sl _ sz es => sz = r.n ∧ optI g lo 0 fun l => optI g hi es.length fun h => 0 ≤ l ∧ l ≤ h ∧ h ≤ es.length ∧ k (.sl none sz ((es.take h.toNat).drop l.toNat)) []
        | .nils => optI g lo 0 fun l => optI g hi 0 fun h => 0 ≤ l ∧ l ≤ h ∧ h ≤ 0 ∧ k .nils []
        | .ls id n => (share1 s (.ls id n) fun q u => match q with
          | .sl _ sz es => sz = r.n ∧ optI g lo 0 fun l => optI g hi es.length fun h => 0 ≤ l ∧ l ≤ h ∧ h ≤ es.length ∧ k (.sl none sz ((es.take h.toNat).drop l.toNat)) u
          | _ => False) ∨ (match s id with
          | some (.row e' sz es false) => sz = r.n ∧ n = es.length ∧ optI g lo 0 fun l => optI g hi (n : Nat) fun h => 0 ≤ l ∧ l ≤ h ∧ h ≤ (n : Nat) ∧
              ((h = (n : Nat) ∧ k (.lw id n l.toNat) []) ∨ (l = 0 ∧ s (rb o.dst) = none ∧ k (.ls (rb o.dst) h.toNat) [(rb o.dst, .row e' sz (es.take h.toNat) false), (id, .dead)]))
          | _ => False)
        | _ => False
      | none => False
    | some { ti := .string, .. } => match evo g x with
      | .sc (.string a) => optI g lo 0 fun l => optI g hi a.size fun h => 0 ≤ l ∧ l ≤ h ∧ h ≤ a.size ∧ k (.sc (.string (a.extract l.toNat h.toNat))) []
      | _ => False
    | _ => False
  | .fieldAddr t x f => match fieldOf T t f, evo g x with
    | some (off, _, _), .loc id p => k (.loc id (p + off)) []
    | some (off, _, _), .rp cs => k (.rp (cs.drop off)) []
    | some (off, _, _), .lel id n i j => k (.lel id n i (j + off)) []
    | _, _ => False
  | .field t x f => match fieldOf T t f, evo g x with
    | some (off, n, ag), .agg cs => loadV ag n (cs.drop off) fun v => k v []
    | _, _ => False
  | .indexAddr t x i => match look T t, evo g i with
    | some { ti := .slice e, .. }, .sc (.int _ n) => match look T e with
      | some r => match evo g x with
        | .sl _ sz es => sz = r.n ∧ 0 ≤ n ∧ ∃ el, es[n.toNat]? = some el ∧ k (.rp el) []
        | .ls id m => match s id with
          | some (.row _ sz es _) => sz = r.n ∧ m = es.length ∧ 0 ≤ n ∧ n < m ∧ k (.lel id m n.toNat 0) []
          | _ => False
        | .lw id m lo => match s id with
          | some (.row _ sz es _) => sz = r.n ∧ m = es.length ∧ 0 ≤ n ∧ (lo : Nat) + n < m ∧ k (.lel id m (lo + n.toNat) 0) []
          | _ => False
        | _ => False
      | none => False
    | _, _ => False
  | .index t x i => match look T t, evo g x, evo g i with
    | some { ti := .string, .. }, .sc (.string a), .sc (.int _ n) => 0 ≤ n ∧ ∃ b, a[n.toNat]? = some b ∧ k (.sc (.int .u8 b.toNat)) []
    | some { ti := .array len m ag, .. }, .agg cs, .sc (.int _ n) => 0 ≤ n ∧ n < len ∧ loadV ag m (cs.drop (n.toNat * m)) fun v => k v []
    | _, _, _ => False
  | .extract x i => match evo g x with
    | .tup vs => match vs[i]? with
      | some v => k v []
      | none => False
    | _ => False
  | .makeFunc (.func f) first cap => first.toList = [] ∧
      capt s (cap.toList.map (evo g)) fun cs u => k (.fn f cs) u
  | .call { callee := .builtin .len, args, argTypes } => match args.toList, argTypes.toList with
    | [x], [t] => match look T t, evo g x with
      | some { ti := .slice _, .. }, .sl _ _ es => k (.sc (.int .i64 es.length)) []
      | some { ti := .slice _, .. }, .nils => k (.sc (.int .i64 0)) []
      | some { ti := .slice _, .. }, .ls _ n => k (.sc (.int .i64 n)) []
      | some { ti := .slice _, .. }, .lw _ n lo => k (.sc (.int .i64 ((n - lo : Nat) : Int))) []
      | some { ti := .string, .. }, .sc (.string a) => k (.sc (.int .i64 a.size)) []
      | _, _ => False
    | _, _ => False
  | .call { callee := .builtin .append, args, argTypes } => match args.toList, argTypes.toList with
    | [x, y], [t, t'] => match isI64 T t' with
      | true => match look T t, evo g x, evo g y with
        | some { ti := .slice e, .. }, .nils, .sc (.int _ n) => match look T e with
          | some r => s (rb o.dst) = none ∧ 0 < n ∧ n ≤ 1073741824 ∧ k (.ls (rb o.dst) n.toNat) [(rb o.dst, .row e r.n (List.replicate n.toNat r.zero) false)]
          | none => False
        | _, _, _ => False
      | false => t = t' ∧ match look T t with
      | some { ti := .slice e, .. } => match look T e with
        | some r => share1 s (evo g y) fun q u =>
            (match q with
            | .sl _ sz new => fun (kk : Nat → List (List PV) → Prop) => sz = r.n ∧ kk new.length new
            | .nils => fun kk => kk 0 []
            | _ => fun _ => False) fun m new =>
            match evo g x with
            | .nils => s (rb o.dst) = none ∧ m ≤ 1073741824 ∧ k (.ls (rb o.dst) m) ((rb o.dst, .row e r.n new false) :: u)
            | .ls id n => match s id with
              | some (.row e' sz es fr) => e' = e ∧ sz = r.n ∧ n = es.length ∧ n + m ≤ 1073741824 ∧ u.all (fun x => !(Nat.beq x.1 id)) = true ∧
                  k (.ls id (n + m)) ((id, .row e sz (es ++ new) fr) :: u)
              | _ => False
            | _ => False
        | none => False
      | _ => False
    | _, _ => False
  | .call { callee := .builtin .clear, args, argTypes } => match args.toList, argTypes.toList with
    | [x], [t] => match look T t with
      | some { ti := .slice e, .. } => match look T e with
        | some r => (match evo g x with
          | .lw id n lo => fun (kk : Nat → Nat → Nat → Prop) => kk id n lo
          | .ls id n => fun kk => kk id n 0
          | _ => fun _ => False) fun id n lo => match s id with
            | some (.row e' sz es false) => sz = r.n ∧ n = es.length ∧ lo ≤ n ∧ k (.tup []) [(id, .row e' sz (es.take lo ++ List.replicate (n - lo) r.zero) false)]
            | _ => False
        | none => False
      | _ => False
    | _, _ => False
  | .call { callee := .builtin .cap, args, argTypes } => match args.toList, argTypes.toList with
    | [x], [t] => match look T t, evo g x with
      | some { ti := .slice _, .. }, .nils => k (.sc (.int .i64 0)) []
      | _, _ => False
    | _, _ => False
  | .call { callee := .builtin .min, args, argTypes } => match args.toList.map (evo g), argTypes.toList with
    | [.sc (.int .i64 a), .sc (.int .i64 b)], _ => k (.sc (.int .i64 (min a b))) []
    | _, _ => False
  | .call { callee := .builtin .max, args, argTypes } => match args.toList.map (evo g), argTypes.toList with
    | [.sc (.int .i64 a), .sc (.int .i64 b)], _ => k (.sc (.int .i64 (max a b))) []
    | _, _ => False
  | _ => False
end Go.Vi
end
section
namespace Go.Vi

theorem look_append {α : Type} (u v : List (Nat × α)) (id : Nat) : look (u ++ v) id = match look u id with | some o => some o | none => look v id := by
  induction u with
  | nil => rfl
  | cons a u ih =>
    obtain ⟨i, o⟩ := a
    simp only [List.cons_append, look]
    cases Nat.beq i id <;> simp [ih]
theorem St.obj_upd (σ : St) (u : List (Nat × Obj)) : (σ.upd u).obj = ov u σ.obj := by
  funext id; simp only [St.obj, St.upd, look_append, ov]; cases look u id <;> rfl
theorem ov_nil (s : Objs) : ov [] s = s := rfl
theorem ov_append (u v : List (Nat × Obj)) (s : Objs) : ov (u ++ v) s = ov u (ov v s) := by
  funext id; simp only [ov, look_append]; cases look u id <;> rfl
theorem ov_one (i : Nat) (o : Obj) (s : Objs) : ov [(i, o)] s = fun id => if i = id then some o else s id := by
  funext id; simp only [ov, look]
  by_cases h : i = id
  · subst h; simp
  · have : Nat.beq i id = false := by
      cases hb : Nat.beq i id with
      | false => rfl
      | true => exact absurd (Nat.eq_of_beq_eq_true hb) h
    simp [h, this]
theorem ov_cons (i : Nat) (o : Obj) (u : List (Nat × Obj)) (s : Objs) : ov ((i, o) :: u) s = fun id => if i = id then some o else ov u s id := by
  rw [show (i, o) :: u = [(i, o)] ++ u from rfl, ov_append, ov_one]
theorem look_none_of_all {u : List (Nat × Obj)} {id : Nat} (h : u.all (fun x => !(Nat.beq x.1 id)) = true) : look u id = none := by
  induction u with
  | nil => rfl
  | cons a u ih =>
    obtain ⟨i, o⟩ := a
    simp only [List.all_cons, Bool.and_eq_true] at h
    simp only [look]
    have : Nat.beq i id = false := by simpa using h.1
    rw [this]; simpa using ih h.2

/-- Objects may change their contents, grow, die; a box keeps its block; a row that keeps its length keeps its slice. -/
def ObjLe (L : Lay) (s : Objs) (L' : Lay) (s' : Objs) : Prop := ∀ id o, s id = some o → ∃ o', s' id = some o' ∧ (o' = .dead ∨
  (∃ cs fr cs' fr', o = .box cs fr ∧ o' = .box cs' fr' ∧ L'.bl id = L.bl id) ∨
  (∃ e sz es fr e' es' fr', o = .row e sz es fr ∧ o' = .row e' sz es' fr' ∧ es.length ≤ es'.length ∧ (es.length = es'.length → L'.sv id = L.sv id)))

theorem ObjLe.refl (L : Lay) (s : Objs) : ObjLe L s L s := by
  intro id o h
  refine ⟨o, h, ?_⟩
  cases o with
  | row e sz es fr => exact .inr (.inr ⟨e, sz, es, fr, e, es, fr, rfl, rfl, Nat.le_refl _, fun _ => rfl⟩)
  | box cs fr => exact .inr (.inl ⟨cs, fr, cs, fr, rfl, rfl, rfl⟩)
  | dead => exact .inl rfl

theorem ObjLe.trans {L s L1 s1 L2 s2} (h : ObjLe L s L1 s1) (h' : ObjLe L1 s1 L2 s2) : ObjLe L s L2 s2 := by
  intro id o ho
  obtain ⟨o1, h1, k1⟩ := h id o ho
  obtain ⟨o2, h2, k2⟩ := h' id o1 h1
  refine ⟨o2, h2, ?_⟩
  rcases k1 with rfl | ⟨cs, fr, cs', fr', rfl, rfl, e1⟩ | ⟨e, sz, es, fr, e', es', fr', rfl, rfl, l1, e1⟩
  · rcases k2 with rfl | ⟨cs, fr, cs', fr', h, _⟩ | ⟨e, sz, es, fr, e', es', fr', h, _⟩
    · exact .inl rfl
    · cases h
    · cases h
  · rcases k2 with rfl | ⟨cs, fr, cs', fr', h, rfl, e2⟩ | ⟨e, sz, es, fr, e', es', fr', h, _⟩
    · exact .inl rfl
    · exact .inr (.inl ⟨_, _, _, _, rfl, rfl, e2.trans e1⟩)
    · cases h
  · rcases k2 with rfl | ⟨cs, fr, cs', fr', h, _⟩ | ⟨e2, sz2, es2, fr2, e3, es3, fr3, h, rfl, l2, q2⟩
    · exact .inl rfl
    · cases h
    · cases h
      exact .inr (.inr ⟨_, _, _, _, _, _, _, rfl, rfl, Nat.le_trans l1 l2, fun hl => (q2 (by omega)).trans (e1 (by omega))⟩)

section mono
variable {rd rd' : Rd} {L L' : Lay} {s s' : Objs}
theorem rep1_mono (hr : Rd.le rd rd') (ho : ObjLe L s L' s') {p : PV} {v : Value} (h : rep1 rd L s p v) : rep1 rd' L' s' p v := by
  cases p with
  | undef => trivial
  | loc id off =>
    obtain ⟨h1, h3, h2⟩ := h
    obtain ⟨o, ho1⟩ := Option.ne_none_iff_exists'.1 h2
    obtain ⟨o', ho', k⟩ := ho id o ho1
    refine ⟨fun ⟨cs, fr, hb⟩ => ?_, h3, by rw [ho']; simp⟩
    rw [ho'] at hb
    cases hb
    rcases k with h | ⟨cs, fr, cs', fr', rfl, _, e1⟩ | ⟨e, sz, es, fr, e', es', fr', rfl, h, _⟩
    · cases h
    · rw [e1]; exact h1 ⟨_, _, ho1⟩
    · cases h
  | lel id n i j =>
    obtain ⟨h1, h2, h4, h3⟩ := h
    obtain ⟨o, ho1⟩ := Option.ne_none_iff_exists'.1 h3
    obtain ⟨o', ho', k⟩ := ho id o ho1
    rcases k with rfl | ⟨cs, fr, cs', fr', rfl, rfl, e1⟩ | ⟨e, sz, es, fr, e', es', fr', rfl, rfl, l1, e1⟩
    · exact ⟨(fun _ _ _ _ h => by rw [ho'] at h; cases h), (fun _ _ _ _ h => by rw [ho'] at h; cases h), h4, by rw [ho']; simp⟩
    · exact ⟨(fun _ _ _ _ h => by rw [ho'] at h; cases h), (fun _ _ _ _ h => by rw [ho'] at h; cases h), h4, by rw [ho']; simp⟩
    · have hn := h2 _ _ _ _ ho1
      refine ⟨fun _ _ _ _ h hl => ?_, fun _ _ _ _ h => ?_, h4, by rw [ho']; simp⟩
      · rw [ho'] at h
        cases h
        obtain ⟨b, hb, hv⟩ := h1 _ _ _ _ ho1 (by omega)
        exact ⟨b, by rw [e1 (by omega)]; exact hb, hv⟩
      · rw [ho'] at h
        cases h
        omega
  | ls id n =>
    obtain ⟨h1, h2, h4, h3⟩ := h
    obtain ⟨o, ho1⟩ := Option.ne_none_iff_exists'.1 h3
    obtain ⟨o', ho', k⟩ := ho id o ho1
    rcases k with rfl | ⟨cs, fr, cs', fr', rfl, rfl, e1⟩ | ⟨e, sz, es, fr, e', es', fr', rfl, rfl, l1, e1⟩
    · exact ⟨(fun _ _ _ _ h => by rw [ho'] at h; cases h), (fun _ _ _ _ h => by rw [ho'] at h; cases h), h4, by rw [ho']; simp⟩
    · exact ⟨(fun _ _ _ _ h => by rw [ho'] at h; cases h), (fun _ _ _ _ h => by rw [ho'] at h; cases h), h4, by rw [ho']; simp⟩
    · have hn := h2 _ _ _ _ ho1
      refine ⟨fun _ _ _ _ h hl => ?_, fun _ _ _ _ h => ?_, h4, by rw [ho']; simp⟩
      · rw [ho'] at h
        cases h
        rw [e1 (by omega)]
        exact h1 _ _ _ _ ho1 (by omega)
      · rw [ho'] at h
        cases h
        omega
  | lw id n lo =>
    obtain ⟨h1, h2, h4, h3⟩ := h
    obtain ⟨o, ho1⟩ := Option.ne_none_iff_exists'.1 h3
    obtain ⟨o', ho', k⟩ := ho id o ho1
    rcases k with rfl | ⟨cs, fr, cs', fr', rfl, rfl, e1⟩ | ⟨e, sz, es, fr, e', es', fr', rfl, rfl, l1, e1⟩
    · exact ⟨(fun _ _ _ _ h => by rw [ho'] at h; cases h), (fun _ _ _ _ h => by rw [ho'] at h; cases h), h4, by rw [ho']; simp⟩
    · exact ⟨(fun _ _ _ _ h => by rw [ho'] at h; cases h), (fun _ _ _ _ h => by rw [ho'] at h; cases h), h4, by rw [ho']; simp⟩
    · have hn := h2 _ _ _ _ ho1
      refine ⟨fun _ _ _ _ h hl hlo => ?_, fun _ _ _ _ h => ?_, h4, by rw [ho']; simp⟩
      · rw [ho'] at h
        cases h
        rw [e1 (by omega)]
        exact h1 _ _ _ _ ho1 (by omega) hlo
      · rw [ho'] at h
        cases h
        omega
  | _ => exact RepP.mono hr h
theorem rep2_mono (hr : Rd.le rd rd') (ho : ObjLe L s L' s') {p : PV} {v : Value} (h : rep2 rd L s p v) : rep2 rd' L' s' p v := by
  cases p with
  | agg cs =>
    obtain ⟨vs, h1, h2, h3⟩ := h
    exact ⟨vs, h1, h2.imp fun _ _ => rep1_mono hr ho, h3⟩
  | _ => simp only [rep2] at h ⊢; exact rep1_mono hr ho h
theorem rep3_mono (hr : Rd.le rd rd') (ho : ObjLe L s L' s') {p : PV} {v : Value} (h : rep3 rd L s p v) : rep3 rd' L' s' p v := by
  cases p with
  | tup cs =>
    obtain ⟨vs, h1, h2⟩ := h
    exact ⟨vs, h1, h2.imp fun _ _ => rep2_mono hr ho⟩
  | _ => simp only [rep3] at h ⊢; exact rep2_mono hr ho h
theorem rep2_of_rep1 {p : PV} {v : Value} (h : rep1 rd L s p v) : rep2 rd L s p v := by
  cases p with
  | agg cs => exact (nomatch (show RepP rd (.agg cs) v from h))
  | _ => simp only [rep2]; exact h
theorem rep3_of_rep2 {p : PV} {v : Value} (h : rep2 rd L s p v) : rep3 rd L s p v := by
  cases p with
  | tup cs => exact (nomatch (show RepP rd (.tup cs) v from h))
  | _ => simp only [rep3]; exact h
theorem rep1_of_P {p : PV} {v : Value} (h : RepP rd p v) : rep1 rd L s p v := by
  cases h with
  | sc h => exact .sc h
  | nils => exact .nils
  | sl a b c d e f g => exact .sl a b c d e f g
  | fn a b => exact .fn a b
  | rp a b => exact .rp a b
theorem rep3_of_P {p : PV} {v : Value} (h : RepP rd p v) : rep3 rd L s p v := rep3_of_rep2 (rep2_of_rep1 (rep1_of_P h))
theorem rep1_one {p : PV} {v : Value} (hp : p ≠ .undef) (h : rep1 rd L s p v) : v.oneCell' = true := by
  cases p with
  | undef => exact absurd rfl hp
  | loc id off => obtain ⟨_, ⟨a, rfl⟩, _⟩ := h; rfl
  | lel id n i j => obtain ⟨_, _, ⟨a, rfl⟩, _⟩ := h; rfl
  | ls id n => obtain ⟨_, _, ⟨a, c, rfl⟩, _⟩ := h; rfl
  | lw id n lo => obtain ⟨_, _, ⟨a, c, rfl⟩, _⟩ := h; rfl
  | _ => exact RepP.oneCell h
end mono

/-- A frame: the world at its begin, the blocks that it may write, what was persistent then, objects that keep their place. -/
structure Fr where
  w0 : World
  M : Nat → Prop
  rd0 : Rd
  L0 : Lay
  pin : Nat → Prop
  pin5 : ∀ id, pin id → id % 1000 = 500

/-- The same output; draws go on only. -/
structure OutLe (w w' : World) : Prop where
  out : w'.output = w.output
  drawn : w.drawn ≤ w'.drawn
theorem OutLe.trans {w0 w w' : World} (h : OutLe w w') (g : OutLe w0 w) : OutLe w0 w' := ⟨h.out.trans g.out, Nat.le_trans g.drawn h.drawn⟩
theorem OutLe.refl (w : World) : OutLe w w := ⟨rfl, Nat.le_refl _⟩

structure Grows (F : Fr) (rd : Rd) (L : Lay) (s : Objs) (w : World) : Prop where
  os : w.os = F.w0.os
  tape : w.tape = F.w0.tape
  output : OutLe F.w0 w
  size : F.w0.heap.size ≤ w.heap.size
  block : ∀ k, k < F.w0.heap.size → ¬ F.M k → w.heap[k]? = F.w0.heap[k]?
  le : Rd.le F.rd0 rd
  new : ∀ p v, rd p = some v → F.rd0 p = some v ∨ F.M p.block ∨ F.w0.heap.size ≤ p.block
  own : ∀ id b, blkOf L s id = some b → F.M b ∨ F.w0.heap.size ≤ b
  pins : ∀ id, F.pin id → L.bl id = F.L0.bl id ∧ L.sv id = F.L0.sv id
  pb : ∀ id, F.pin id → ∀ e sz es fr, s id ≠ some (.row e sz es fr)

structure Stp (F : Fr) (rd : Rd) (L : Lay) (s : Objs) (rd' : Rd) (L' : Lay) (s' : Objs) (w' : World) : Prop where
  le : Rd.le rd rd'
  obj : ObjLe L s L' s'
  ok : WOk rd' L' s' w'
  gr : Grows F rd' L' s' w'

theorem Stp.refl {F : Fr} {rd : Rd} {L : Lay} {s : Objs} {w : World} (hw : WOk rd L s w) (hg : Grows F rd L s w) : Stp F rd L s rd L s w :=
  ⟨fun _ _ h => h, ObjLe.refl _ _, hw, hg⟩
theorem Stp.trans {F : Fr} {rd rd1 rd2 : Rd} {L L1 L2 : Lay} {s s1 s2 : Objs} {w1 w2 : World} (h : Stp F rd L s rd1 L1 s1 w1) (k : Stp F rd1 L1 s1 rd2 L2 s2 w2) : Stp F rd L s rd2 L2 s2 w2 :=
  ⟨fun p v h' => k.le p v (h.le p v h'), h.obj.trans k.obj, k.ok, k.gr⟩

def Sim (F : Fr) (σ : St) (a : Act) (w : World) : Prop := ∃ rd L, a.tmps.size = σ.n ∧ a.defers = [] ∧
  (∀ t, rep3 rd L σ.obj (σ.get t) (a.tmps.getD t undef)) ∧ WOk rd L σ.obj w ∧ Grows F rd L σ.obj w

def adopt1 (id : Nat) : PV → PV × List (Nat × Obj)
  | .sl (some e) sz es => (.ls id es.length, [(id, .row e sz es false)])
  | .mp cs => (.loc id 0, [(id, .box cs false)])
  | p => (p, [])
def adoptL (id : Nat) : List PV → List PV × List (Nat × Obj)
  | [] => ([], [])
  | c :: r => ((adopt1 id c).1 :: (adoptL (id + 1) r).1, (adopt1 id c).2 ++ (adoptL (id + 1) r).2)
def adopt2 (id : Nat) : PV → PV × List (Nat × Obj)
  | .agg cs => (.agg (adoptL (id + 1) cs).1, (adoptL (id + 1) cs).2)
  | p => adopt1 id p
def adoptT (id : Nat) : List PV → List PV × List (Nat × Obj)
  | [] => ([], [])
  | c :: r => ((adopt2 id c).1 :: (adoptT (id + 101) r).1, (adopt2 id c).2 ++ (adoptT (id + 101) r).2)
def adopt3 (id : Nat) : PV → PV × List (Nat × Obj)
  | .tup ps => (.tup (adoptT (id + 101) ps).1, (adoptT (id + 101) ps).2)
  | p => adopt2 id p
abbrev pid (i : Nat) : Nat := 1000 * i + 1500
def adoptA (i : Nat) : List PV → List PV × List (Nat × Obj)
  | [] => ([], [])
  | c :: r => ((adopt1 (pid i) c).1 :: (adoptA (i + 1) r).1, (adopt1 (pid i) c).2 ++ (adoptA (i + 1) r).2)

def outO (outs : List (Nat × Obj)) : List (Nat × Obj) := outs.map fun x => (pid x.1, x.2)
theorem look_mem {α : Type} {u : List (Nat × α)} {id : Nat} {o : α} (h : look u id = some o) : (id, o) ∈ u := by
  induction u with
  | nil => cases h
  | cons a u ih =>
    obtain ⟨i, x⟩ := a
    simp only [look] at h
    cases hb : Nat.beq i id with
    | true => rw [hb] at h; cases h; rw [Nat.eq_of_beq_eq_true hb]; simp
    | false => rw [hb] at h; simp [ih h]
theorem outO_pin {outs : List (Nat × Obj)} {id : Nat} (h : ∃ cs fr, look (outO outs) id = some (.box cs fr)) : id % 1000 = 500 := by
  obtain ⟨_, _, h⟩ := h
  have := look_mem h
  simp only [outO, List.mem_map, Prod.mk.injEq] at this
  obtain ⟨x, _, rfl, _⟩ := this
  simp only [pid]; omega

/-- The frame of a call. -/
def callFr (args : List PV) (outs : List (Nat × Obj)) (rd : Rd) (L : Lay) (w : World) : Fr :=
  ⟨w, fun b => ∃ id, blkOf L (look (adoptA 0 args).2) id = some b, rd, L, fun id => ∃ cs fr, look (outO outs) id = some (.box cs fr), fun _ h => outO_pin h⟩

/-- The contract of a function: called with such arguments it returns such a result; what it was handed for writing then holds 'outs'. -/
def CallOK (P : Program) (f : FuncId) (args : List PV) (res : PV) (outs : List (Nat × Obj)) : Prop :=
  (∀ args w, (callFunc f args).run P w = .ok (.enter f args) w) ∧
  ∀ (rd : Rd) (L : Lay) (w : World) (vs : List Value), WOk rd L (look (adoptA 0 args).2) w → All2 (rep2 rd L (look (adoptA 0 args).2)) (adoptA 0 args).1 vs →
    Calls P f vs.toArray w fun e w' => ∃ v rd' L', e = .returned v ∧ WOk rd' L' (look ((adopt3 0 res).2 ++ outO outs)) w' ∧
      rep3 rd' L' (look ((adopt3 0 res).2 ++ outO outs)) (adopt3 0 res).1 v ∧
      Grows (callFr args outs rd L w) rd' L' (look ((adopt3 0 res).2 ++ outO outs)) w' ∧
      ∀ id e sz es fr, look (outO outs) id = some (.row e sz es fr) → L'.sv id = L.sv id

end Go.Vi

end
section
namespace Go.Vi
theorem flat_get {es : List (List PV)} {sz : Nat} (h : ∀ x ∈ es, x.length = sz) : ∀ {i j : Nat} {e : List PV} {c : PV}, es[i]? = some e → e[j]? = some c → es.flatten[i * sz + j]? = some c := by
  induction es with
  | nil => intro i j e c h1; simp at h1
  | cons x es ih =>
    intro i j e c h1 h2
    have hx := h x (by simp)
    cases i with
    | zero =>
      simp at h1
      subst h1
      have hj := (List.getElem?_eq_some_iff.1 h2).1
      simp only [List.flatten_cons, Nat.zero_mul, Nat.zero_add]
      rw [List.getElem?_append_left hj]; exact h2
    | succ i =>
      simp at h1
      simp only [List.flatten_cons]
      rw [List.getElem?_append_right (by rw [hx, Nat.succ_mul]; omega)]
      rw [show (i + 1) * sz + j - x.length = i * sz + j by rw [hx, Nat.succ_mul]; omega]
      exact ih (fun y hy => h y (by simp [hy])) h1 h2
theorem flat_len {es : List (List PV)} {sz : Nat} (h : ∀ x ∈ es, x.length = sz) : es.flatten.length = es.length * sz := by
  induction es with
  | nil => simp
  | cons x es ih => simp only [List.flatten_cons, List.length_append, List.length_cons]; rw [ih (fun y hy => h y (by simp [hy])), h x (by simp), Nat.succ_mul]; omega
theorem flat_lt {es : List (List PV)} {sz i j : Nat} {e : List PV} {c : PV} (h : ∀ x ∈ es, x.length = sz) (h1 : es[i]? = some e) (h2 : e[j]? = some c) : i * sz + j < es.length * sz := by
  have := flat_get h h1 h2
  have := (List.getElem?_eq_some_iff.1 this).1
  rwa [flat_len h] at this

/-- The persistent cells, with those of a row besides. -/
def frz (rd : Rd) (b n : Nat) (xs : List Value) : Rd := fun p => match rd p with
  | some v => some v
  | none => if p.block = b ∧ p.off < n ∧ p.spot = none then xs[p.off]? else none

theorem frz_le (rd : Rd) (b n : Nat) (xs : List Value) : Rd.le rd (frz rd b n xs) := fun p v h => by simp [frz, h]
theorem frz_new {rd : Rd} {b n : Nat} {xs : List Value} {p : Addr} {v : Value} (h : frz rd b n xs p = some v) : rd p = some v ∨ (p.block = b ∧ p.off < n ∧ p.spot = none ∧ xs[p.off]? = some v) := by
  unfold frz at h
  split at h
  · exact .inl (by simp_all)
  · split at h
    · rename_i h1; exact .inr ⟨h1.1, h1.2.1, h1.2.2, h⟩
    · cases h

def FzU (s : Objs) (u : List (Nat × Obj)) : Prop := ∀ id o, look u id = some o → ∃ e sz es fr, s id = some (.row e sz es fr) ∧ o = .row e sz es true
def Fz (s s1 : Objs) : Prop := ∀ id, s1 id = s id ∨ ∃ e sz es fr, s id = some (.row e sz es fr) ∧ s1 id = some (.row e sz es true)

theorem Fz.refl (s : Objs) : Fz s s := fun _ => .inl rfl
theorem Fz.ov {s s1 : Objs} {u : List (Nat × Obj)} (h : Fz s s1) (hu : FzU s u) : Fz s (ov u s1) := by
  intro id
  simp only [Go.Vi.ov]
  cases hl : look u id with
  | none => exact h id
  | some o =>
    obtain ⟨e, sz, es, fr, h1, rfl⟩ := hu id o hl
    exact .inr ⟨e, sz, es, fr, h1, rfl⟩
theorem FzU.nil (s : Objs) : FzU s [] := fun _ _ h => by simp [look] at h
theorem FzU.append {s : Objs} {u v : List (Nat × Obj)} (h : FzU s u) (k : FzU s v) : FzU s (u ++ v) := by
  intro id o hl
  rw [look_append] at hl
  cases hu : look u id with
  | none => rw [hu] at hl; exact k id o hl
  | some o' => rw [hu] at hl; cases hl; exact h id o hu
theorem FzU.swap {s s1 : Objs} {u v : List (Nat × Obj)} (h : FzU s u) (k : FzU s v) : Go.Vi.ov (u ++ v) s1 = Go.Vi.ov v (Go.Vi.ov u s1) := by
  funext id
  simp only [Go.Vi.ov, look_append]
  cases hu : look u id with
  | none => cases look v id <;> rfl
  | some o =>
    cases hv : look v id with
    | none => rfl
    | some o' =>
      obtain ⟨e, sz, es, fr, h1, rfl⟩ := h id o hu
      obtain ⟨e', sz', es', fr', h1', rfl⟩ := k id o' hv
      rw [h1] at h1'
      cases h1'
      rfl

section
variable {F : Fr} {rd : Rd} {L : Lay} {s s1 : Objs} {w : World}

theorem blkOf_frz {id e sz : Nat} {es : List (List PV)} {fr : Bool} (hs : s id = some (.row e sz es fr)) (i : Nat) : blkOf L (ov [(id, .row e sz es true)] s) i = blkOf L s i := by
  rw [ov_one]
  simp only [blkOf]
  by_cases h : id = i
  · subst h; rw [if_pos rfl, hs]
  · rw [if_neg h]

theorem objLe_frz {id e sz : Nat} {es : List (List PV)} {fr : Bool} (hs : s id = some (.row e sz es fr)) : ObjLe L s L (ov [(id, .row e sz es true)] s) := by
  intro i o ho
  rw [ov_one]
  by_cases h : id = i
  · subst h
    rw [hs] at ho
    cases ho
    exact ⟨_, by dsimp only; rw [if_pos rfl], .inr (.inr ⟨_, _, _, _, _, _, _, rfl, rfl, Nat.le_refl _, fun _ => rfl⟩)⟩
  · obtain ⟨o', h1, h2⟩ := ObjLe.refl L s i o ho
    exact ⟨o', by dsimp only; rw [if_neg h]; exact h1, h2⟩

theorem pb_frz (hg : Grows F rd L s w) {id e sz : Nat} {es : List (List PV)} {fr : Bool} (hs : s id = some (.row e sz es fr)) : ∀ i, F.pin i → ∀ e' sz' es' fr', ov [(id, .row e sz es true)] s i ≠ some (.row e' sz' es' fr') := by
  intro i hi e' sz' es' fr' h
  rw [ov_one] at h
  dsimp only at h
  split at h
  · rename_i hh; subst hh; exact hg.pb _ hi _ _ _ _ hs
  · exact hg.pb i hi _ _ _ _ h

/-- Freezing a row. -/
theorem freeze_ok (hw : WOk rd L s w) (hg : Grows F rd L s w) {id e sz : Nat} {es : List (List PV)} {fr : Bool} (hs : s id = some (.row e sz es fr)) :
    ∃ rd1, Stp F rd L s rd1 L (ov [(id, .row e sz es true)] s) w ∧ RepP rd1 (.sl none sz es) (L.sv id) := by
  obtain ⟨xs, hown, hxs, hsz, hrd⟩ := hw.row id e sz es fr hs
  have hcell : ∀ b, (L.sv id).ownBlock = some b → ∀ (j : Nat) u, xs[j]? = some u → w.cell? ⟨b, j, none⟩ = some u := by
    intro b hb j u hu
    have := hown.cells hb j u hu
    rwa [Addr.add_lit, Nat.zero_add] at this
  have hone : ∀ u ∈ xs, u.oneCell' = true := by
    intro u hu
    obtain ⟨i, hi⟩ := List.getElem?_of_mem hu
    obtain ⟨c, _, hc⟩ := hxs.get' hi
    exact hc.oneCell
  cases hb : (L.sv id).ownBlock with
  | none =>
    have hnil : L.sv id = .slice none 0 0 ∧ es.length = 0 := by
      rcases hown.2 with h | ⟨g, cap, cur, h, _⟩
      · exact h
      · rw [h] at hb; simp [Value.ownBlock] at hb
    have hes : es = [] := List.eq_nil_of_length_eq_zero hnil.2
    subst hes
    refine ⟨rd, ⟨fun _ _ h => h, objLe_frz hs, ?_, ?_⟩, ?_⟩
    · refine ⟨hw.hrd, ?_, ?_, ?_⟩
      · intro i cs f h
        have : s i = some (.box cs f) := by
          rw [ov_one] at h; dsimp only at h; split at h
          · cases h
          · exact h
        obtain ⟨vs, e', h1, h2, h3, h4, h5⟩ := hw.box i cs f this
        exact ⟨vs, e', h1, h2.imp fun _ _ => rep1_mono (fun _ _ h => h) (objLe_frz hs), h3, h4, h5⟩
      · intro i e' sz' es' f h
        rw [ov_one] at h
        dsimp only at h
        split at h
        · rename_i hi; subst hi; cases h
          exact ⟨xs, hown, hxs, hsz, fun b hb' => by rw [hb] at hb'; cases hb'⟩
        · exact hw.row i e' sz' es' f h
      · intro i j b hi hj
        rw [blkOf_frz hs] at hi hj
        exact hw.inj i j b hi hj
    · exact ⟨hg.os, hg.tape, hg.output, hg.size, hg.block, hg.le, hg.new, fun i b h => hg.own i b (by rwa [blkOf_frz hs] at h), hg.pins, pb_frz hg hs⟩
    · rw [hnil.1]
      exact .sl (es := []) (b := 0) (o := 0) (u := fun _ _ => undef) (Nat.le_refl _) (by simp) (fun _ => rfl) (fun h => absurd rfl h) (by simp) (fun i e j c h => by simp at h) (fun i e j c h => by simp at h)
  | some b =>
    refine ⟨frz rd b (es.length * sz) xs, ⟨frz_le _ _ _ _, objLe_frz hs, ?_, ?_⟩, ?_⟩
    · refine ⟨?_, ?_, ?_, ?_⟩
      · intro p v h
        rcases frz_new h with h | ⟨rfl, _, hsp, h⟩
        · exact hw.hrd p v h
        · refine ⟨?_, hone v (List.mem_of_getElem? h), hsp⟩
          have := hcell _ hb _ _ h
          obtain ⟨pb, po, ps⟩ := p
          simp only at hsp
          subst hsp
          exact this
      · intro i cs f h
        have hi : s i = some (.box cs f) := by
          rw [ov_one] at h; dsimp only at h; split at h
          · cases h
          · exact h
        obtain ⟨vs, e', h1, h2, h3, h4, h5⟩ := hw.box i cs f hi
        refine ⟨vs, e', h1, h2.imp fun _ _ => rep1_mono (frz_le _ _ _ _) (objLe_frz hs), h3, fun hf p v hp => ?_, fun hf j c v hc hv => ?_⟩
        · rcases frz_new hp with hp | ⟨rfl, _⟩
          · exact h4 hf p v hp
          · intro hbb
            have hne : i = id := hw.inj i id p.block (by simp [blkOf, hi, hbb]) (by simp [blkOf, hs, hb])
            subst hne
            rw [hs] at hi; cases hi
        · exact ⟨frz_le _ _ _ _ _ _ (h5 hf j c v hc hv).1, (h5 hf j c v hc hv).2.mono (frz_le _ _ _ _)⟩
      · intro i e' sz' es' f h
        rw [ov_one] at h
        dsimp only at h
        split at h
        · rename_i hi; subst hi; cases h
          refine ⟨xs, hown, hxs.imp fun _ _ h => h.mono (frz_le _ _ _ _), hsz, fun b' hb' p v hp hpb => ?_⟩
          rw [hb] at hb'; cases hb'
          rcases frz_new hp with hp | ⟨_, hlt, _⟩
          · exact ⟨rfl, (hrd b hb p v hp hpb).2⟩
          · exact ⟨rfl, hlt⟩
        · rename_i hi
          obtain ⟨ys, k1, k2, k3, k4⟩ := hw.row i e' sz' es' f h
          refine ⟨ys, k1, k2.imp fun _ _ h => h.mono (frz_le _ _ _ _), k3, fun b' hb' p v hp hpb => ?_⟩
          rcases frz_new hp with hp | ⟨hpb', _⟩
          · exact k4 b' hb' p v hp hpb
          · have hne : i = id := hw.inj i id b (by simp [blkOf, h, hb', ← hpb, hpb']) (by simp [blkOf, hs, hb])
            exact absurd hne.symm hi
      · intro i j b hi hj
        rw [blkOf_frz hs] at hi hj
        exact hw.inj i j b hi hj
    · refine ⟨hg.os, hg.tape, hg.output, hg.size, hg.block, fun p v h => frz_le _ _ _ _ _ _ (hg.le p v h), fun p v h => ?_, fun i b h => hg.own i b (by rwa [blkOf_frz hs] at h), hg.pins, pb_frz hg hs⟩
      rcases frz_new h with h | ⟨rfl, _⟩
      · exact hg.new p v h
      · exact .inr (hg.own id _ (by simp [blkOf, hs, hb]))
    · rcases hown.2 with ⟨h, _⟩ | ⟨g, cap, cur, hv, _, hh, hcap, hmax, hcs, htake⟩
      · rw [h] at hb; simp [Value.ownBlock] at hb
      · have hgb : g = b := by rw [hv] at hb; simpa [Value.ownBlock] using hb
        subst hgb
        rw [hv]
        have hval : ∀ (i : Nat) (e : List PV) (j : Nat) (c : PV), es[i]? = some e → e[j]? = some c → ∃ u, xs[i * sz + j]? = some u ∧ RepP rd c u := fun i e j c h1 h2 => hxs.get (flat_get hsz h1 h2)
        refine .sl (b := g) (o := 0) (u := fun i j => xs.getD (i * sz + j) undef) hcap hmax (fun h => by cases h) (fun _ => rfl) hsz (fun i e j c h1 h2 => ?_) (fun i e j c h1 h2 => ?_)
        · obtain ⟨u, hu, _⟩ := hval i e j c h1 h2
          have hlt := flat_lt hsz h1 h2
          rw [Nat.zero_add]
          unfold frz
          split
          · rename_i v' hv'
            have h' := (hw.hrd _ _ hv').1
            rw [hcell g hb _ _ hu] at h'
            cases h'
            simp [List.getD_eq_getElem?_getD, hu]
          · rw [if_pos ⟨rfl, hlt, rfl⟩]
            simp [List.getD_eq_getElem?_getD, hu]
        · obtain ⟨u, hu, hr⟩ := hval i e j c h1 h2
          simp only [List.getD_eq_getElem?_getD, hu, Option.getD_some]
          exact hr.mono (frz_le _ _ _ _)

theorem share1_ok (hz : Fz s s1) (hw : WOk rd L s1 w) (hg : Grows F rd L s1 w) {p : PV} {v : Value} (hp : rep1 rd L s1 p v) {k : PV → List (Nat × Obj) → Prop} (h : share1 s p k) :
    ∃ q u rd1, k q u ∧ FzU s u ∧ Stp F rd L s1 rd1 L (ov u s1) w ∧ RepP rd1 q v := by
  cases p with
  | ls id n =>
    simp only [share1] at h
    split at h
    · rename_i e sz es fr hs
      obtain ⟨rfl, hk⟩ := h
      have hs1 : ∃ fr1, s1 id = some (.row e sz es fr1) := by
        rcases hz id with h | ⟨e', sz', es', fr', h1, h2⟩
        · exact ⟨fr, h.trans hs⟩
        · rw [hs] at h1; cases h1; exact ⟨true, h2⟩
      obtain ⟨fr1, hs1⟩ := hs1
      obtain ⟨rd1, h1, h2⟩ := freeze_ok hw hg hs1
      refine ⟨_, _, rd1, hk, ?_, h1, ?_⟩
      · intro i o ho
        simp only [look] at ho
        cases hb : Nat.beq id i with
        | false => rw [hb] at ho; cases ho
        | true =>
          rw [hb] at ho; cases ho
          have := Nat.eq_of_beq_eq_true hb
          subst this
          exact ⟨e, sz, es, fr, hs, rfl⟩
      · rw [hp.1 _ _ _ _ hs1 rfl]; exact h2
    · exact h.elim
  | sc v' => exact ⟨_, _, rd, h, FzU.nil s, Stp.refl hw hg, hp⟩
  | nils => exact ⟨_, _, rd, h, FzU.nil s, Stp.refl hw hg, hp⟩
  | sl o sz es => exact ⟨_, _, rd, h, FzU.nil s, Stp.refl hw hg, by
      have hp : RepP rd (.sl o sz es) v := hp
      cases hp with
      | sl a b c d e f g => exact .sl a b c d e f g⟩
  | fn f c => exact ⟨_, _, rd, h, FzU.nil s, Stp.refl hw hg, hp⟩
  | rp c => exact ⟨_, _, rd, h, FzU.nil s, Stp.refl hw hg, hp⟩
  | _ => exact h.elim

theorem shareL_ok {ps : List PV} : ∀ {rd : Rd} {s1 : Objs} {vs : List Value} (_ : Fz s s1) (_ : WOk rd L s1 w) (_ : Grows F rd L s1 w) (_ : All2 (rep1 rd L s1) ps vs) {k : List PV → List (Nat × Obj) → Prop} (_ : shareL s ps k),
    ∃ qs u rd1, k qs u ∧ FzU s u ∧ Stp F rd L s1 rd1 L (ov u s1) w ∧ All2 (RepP rd1) qs vs := by
  induction ps with
  | nil => intro rd s1 vs hz hw hg hp k h; cases hp; exact ⟨[], [], rd, h, FzU.nil s, Stp.refl hw hg, .nil⟩
  | cons p ps ih =>
    intro rd s1 vs hz hw hg hp k h
    cases hp with
    | cons hp hps =>
      obtain ⟨q, u, rd1, h1, hu, hst, hq⟩ := share1_ok hz hw hg hp h
      obtain ⟨qs, u2, rd2, h2, hu2, hst2, hqs⟩ := ih (hz.ov hu) hst.ok hst.gr (hps.imp fun _ _ => rep1_mono hst.le hst.obj) h1
      refine ⟨q :: qs, u ++ u2, rd2, h2, hu.append hu2, ?_, .cons (hq.mono hst2.le) hqs⟩
      rw [hu.swap hu2]
      exact hst.trans hst2

theorem share2_ok (hz : Fz s s1) (hw : WOk rd L s1 w) (hg : Grows F rd L s1 w) {p : PV} {v : Value} (hp : rep2 rd L s1 p v) {k : PV → List (Nat × Obj) → Prop} (h : share2 s p k) :
    ∃ q u rd1, k q u ∧ FzU s u ∧ Stp F rd L s1 rd1 L (ov u s1) w ∧ (∀ L' s', rep2 rd1 L' s' q v) ∧ (∃ vs : List Value, v.cells = vs.toArray ∧ All2 (RepP rd1) q.cells vs) := by
  cases p with
  | agg cs =>
    obtain ⟨vs, rfl, hvs, h1⟩ := hp
    obtain ⟨q, u, rd1, k1, k2, k3, k4⟩ := shareL_ok hz hw hg hvs h
    exact ⟨.agg q, u, rd1, k1, k2, k3, fun L' s' => ⟨vs, rfl, k4.imp fun _ _ => rep1_of_P, h1⟩, vs, rfl, k4⟩
  | tup vs => exact h.elim
  | _ =>
    simp only [rep2] at hp
    simp only [share2] at h
    obtain ⟨q, u, rd1, k1, k2, k3, k4⟩ := share1_ok hz hw hg hp h
    refine ⟨q, u, rd1, k1, k2, k3, fun L' s' => rep2_of_rep1 (rep1_of_P k4), [v], ?_, ?_⟩
    · have := k4.oneCell
      cases v <;> first | rfl | simp [Value.oneCell'] at this
    · have : q.cells = [q] := by cases k4 <;> rfl
      rw [this]; exact .cons k4 .nil

end
def eqV : List Value → List Value → Option Bool
  | [], [] => some true
  | .int i a :: r, .int j b :: s => bif decide (i = j) then (eqV r s).map ((a == b) && ·) else none
  | _, _ => none

structure TRowOK (P : Program) (t : Nat) (r : TRow) : Prop where
  info : ∃ i z, P.info? t = some i ∧ i.size = r.n ∧ 0 < r.n ∧ i.bytes ≤ 65536 ∧ i.zero = some z ∧ All2 (fun p v => ∀ rd, RepP rd p v) r.zero z.cells.toList ∧ z.cells.size = r.n
  agg : ∃ d, P.underlying t = some d ∧ (match d with | .struct _ | .array .. => true | _ => false) = r.agg
  one : r.agg = false → r.n = 1
  ti : match r.ti with
    | .slice e => P.underlying t = some (.slice e)
    | .struct fs => r.agg = true ∧ ∃ fields, P.underlying t = some (.struct fields) ∧ ∀ (k off n : Nat) (ag : Bool), fs[k]? = some (off, n, ag) → ∃ f i d, fields[k]? = some f ∧ f.offset = off ∧ P.info? f.type = some i ∧ i.size = n ∧ 0 < n ∧
        P.underlying f.type = some d ∧ (match d with | .struct _ | .array .. => true | _ => false) = ag
    | .array len n ag => r.agg = true ∧ ∃ e i d, P.underlying t = some (.array len e) ∧ P.info? e = some i ∧ i.size = n ∧ P.underlying e = some d ∧ (match d with | .struct _ | .array .. => true | _ => false) = ag
    | .int k => P.underlying t = some (.int k)
    | .bool => P.underlying t = some .bool
    | .string => P.underlying t = some .string
    | .other => True
  len : ∀ fs, r.ti = .struct fs → ∀ fields, P.underlying t = some (.struct fields) → fs.length = fields.size
  eq : r.eq = true → ∀ (xs ys : List Value) (b : Bool), eqV xs ys = some b → xs.length = r.n → ys.length = r.n → ∀ X Y w,
    (do eqGuard .eql t X Y (.agg xs.toArray) (.agg ys.toArray); binOp .eql t (.agg xs.toArray) (.agg ys.toArray)).run P w = .ok (.bool b) w ∧
    (do eqGuard .neq t X Y (.agg xs.toArray) (.agg ys.toArray); binOp .neq t (.agg xs.toArray) (.agg ys.toArray)).run P w = .ok (.bool (!b)) w

def TabOK (P : Program) (T : Tab) : Prop := ∀ t r, look T t = some r → TRowOK P t r

section
variable {P : Program} {w : World}

theorem run_isAgg_row {t : Nat} {ag : Bool} (h : ∃ d, P.underlying t = some d ∧ (match d with | .struct _ | .array .. => true | _ => false) = ag) : (isAgg t).run P w = .ok ag w := by
  obtain ⟨d, h1, rfl⟩ := h
  simp only [isAgg, Sem.run_bind, run_underlying h1, Result.andThen]
  cases d <;> rfl

theorem run_sizeOf_row {t n : Nat} (h : ∃ i, P.info? t = some i ∧ i.size = n) : (sizeOf t).run P w = .ok n w := by
  obtain ⟨i, h1, rfl⟩ := h
  simp [sizeOf, typeInfo, h1]

/-- A load of persistent or own cells. -/
theorem run_load_cells {t : Nat} {r : TRow} (hr : TRowOK P t r) (b o : Nat) (cs : List Value) (hl : cs.length = r.n) (h : ∀ (j : Nat) v, cs[j]? = some v → w.cell? ⟨b, o + j, none⟩ = some v) :
    (Instr.loadAt t (.pointer (some ⟨b, o, none⟩))).run P w = .ok (if r.agg then .agg cs.toArray else cs.headD undef) w := by
  obtain ⟨i, z, hi, hs, hpos, _⟩ := hr.info
  have ha := run_isAgg_row (w := w) hr.agg
  have hz := run_sizeOf_row (P := P) (w := w) ⟨i, hi, hs⟩
  have hc := run_loadCells_list (P := P) (w := w) ⟨b, o, none⟩ cs (fun j v hv => by rw [Addr.add_lit]; exact h j v hv)
  rw [hl] at hc
  simp only [Instr.loadAt, Instr.sureAddr, loadVar]
  cases hag : r.agg with
  | true => rw [hag] at ha; simp [ha, hz, hc]
  | false =>
    rw [hag] at ha
    have h1 := hr.one hag
    match cs, hl with
    | [], hl => simp at hl; omega
    | c :: cs, _ =>
      have := h 0 c rfl
      simp [ha, load, Sem.run, show w.cell? ⟨b, o, none⟩ = some c from this]
end

theorem scal_rep {rd : Rd} {v u : Value} (h : RepP rd (.sc v) u) : u = v := by cases h; rfl

section
variable {P : Program} {rd : Rd} {L : Lay} {s : Objs} {w : World}

theorem constC_rep (v : Value) : rep1 rd L s (constC v) v := by
  unfold constC
  split
  · exact .nils
  · exact .fn (vs := []) rfl (fun i c v h => by simp at h)
  · cases hv : scal v with
    | true => exact .sc hv
    | false => trivial
theorem okC_one {v : Value} (h : okC v = true) : v.oneCell' = true := by
  cases v <;> first | rfl | simp [okC, scal] at h
theorem constV_rep (v : Value) : rep3 rd L s (constV v) v := by
  unfold constV
  split
  · rename_i cs
    cases h : cs.toList.all okC with
    | false => trivial
    | true =>
      refine ⟨cs.toList, by simp, All2.of_get (by simp) fun i a b ha hb => ?_, fun u hu => okC_one (List.all_eq_true.1 h u hu)⟩
      rw [List.getElem?_map, hb] at ha
      cases ha
      exact constC_rep b
  · exact rep3_of_rep2 (rep2_of_rep1 (constC_rep v))

theorem evo_rep {g : Nat → PV} {a : Act} (h : ∀ t, rep3 rd L s (g t) (a.tmps.getD t undef)) (x : Operand) : rep3 rd L s (evo g x) (a.eval x) := by
  cases x with
  | tmp t => exact h t
  | const v => exact constV_rep v
  | global g => trivial
  | func f => exact .fn (vs := []) rfl (fun i c v h => by simp at h)

theorem eqGuard_int (op : BinOp) (t : TypeId) (X Y : Operand) (i j : IntKind) (a b : Int) : (eqGuard op t X Y (.int i a) (.int j b)).run P w = .ok () w := by unfold eqGuard; cases op <;> rfl
theorem eqGuard_str (op : BinOp) (t : TypeId) (X Y : Operand) (a b : ByteArray) : (eqGuard op t X Y (.string a) (.string b)).run P w = .ok () w := by unfold eqGuard; cases op <;> rfl
theorem eqGuard_bool (op : BinOp) (t : TypeId) (X Y : Operand) (a b : Bool) : (eqGuard op t X Y (.bool a) (.bool b)).run P w = .ok () w := by unfold eqGuard; cases op <;> rfl

theorem binS_ok {op : BinOp} {t : TypeId} {X Y : Operand} {x y : PV} {vx vy : Value} (hx : rep3 rd L s x vx) (hy : rep3 rd L s y vy) {k : PV → Prop} (h : binS op x y k) :
    ∃ pv val, k pv ∧ (do eqGuard op t X Y vx vy; binOp op t vx vy).run P w = .ok val w ∧ RepP rd pv val := by
  unfold binS at h
  split at h
  · rename_i i a j b
    obtain rfl := scal_rep hx
    obtain rfl := scal_rep hy
    rw [Sem.run_bind, eqGuard_int]
    split at h
    all_goals first
      | (obtain ⟨rfl, h0, hk⟩ := h; exact ⟨_, _, hk, by simp [binOp, Op.intDiv, h0], .sc rfl⟩)
      | (obtain ⟨rfl, hk⟩ := h; exact ⟨_, _, hk, by simp [binOp, Op.intArith, Op.intBits, Op.intCmp], .sc rfl⟩)
      | (obtain ⟨h0, hk⟩ := h; exact ⟨_, _, hk, by simp [binOp, Op.shift, show ¬ b < 0 by omega], .sc rfl⟩)
  · rename_i a b
    obtain rfl := scal_rep hx
    obtain rfl := scal_rep hy
    rw [Sem.run_bind, eqGuard_str]
    split at h
    all_goals first
      | exact h.elim
      | exact ⟨_, _, h, by simp [binOp, Op.stringOp], .sc rfl⟩
      | (obtain ⟨h0, hk⟩ := h; exact ⟨_, _, hk, by simp [binOp, Op.stringOp, show ¬ (9223372036854775807 < ((a.size : Int) + (b.size : Int))) by omega], .sc rfl⟩)
  · exact h.elim

theorem eqInts_V {xs ys : List PV} : ∀ {vx vy : List Value} {b : Bool}, All2 (rep1 rd L s) xs vx → All2 (rep1 rd L s) ys vy → eqInts xs ys = some b → eqV vx vy = some b := by
  induction xs generalizing ys with
  | nil =>
    intro vx vy b hx hy h
    cases hx
    cases hy with
    | nil => exact h
    | cons _ _ => simp [eqInts] at h
  | cons x xs ih =>
    intro vx vy b hx hy h
    cases hx with
    | cons hx1 hx2 =>
    cases hy with
    | nil => unfold eqInts at h; split at h <;> simp_all
    | cons hy1 hy2 =>
      unfold eqInts at h
      split at h
      · rename_i heq _; simp at heq
      · rename_i h1 h2
        simp only [List.cons.injEq] at h1 h2
        obtain ⟨rfl, rfl⟩ := h1
        obtain ⟨rfl, rfl⟩ := h2
        obtain rfl := scal_rep hx1
        obtain rfl := scal_rep hy1
        rename_i i a j c
        simp only [eqV]
        by_cases hd : i = j
        · subst hd
          simp only [decide_true, cond_true, Option.map_eq_some_iff] at h ⊢
          obtain ⟨q, hq, rfl⟩ := h
          exact ⟨q, ih hx2 hy2 hq, rfl⟩
        · simp [hd] at h
      · cases h
end
section
variable {P : Program} {F : Fr} {rd : Rd} {L : Lay} {s : Objs} {w : World}

theorem ownsRow_heap {w w' : World} {e sz n : Nat} {v : Value} {xs : List Value} (h : w.ownsRow 0 e sz v n xs) (hh : ∀ b, v.ownBlock = some b → w'.heap[b]? = w.heap[b]?) : w'.ownsRow 0 e sz v n xs := by
  refine ⟨h.1, ?_⟩
  rcases h.2 with hn | ⟨g, cap, cur, hv, hb, hg, rest⟩
  · exact .inl hn
  · exact .inr ⟨g, cap, cur, hv, hb, by rw [hh g (by rw [hv]; rfl)]; exact hg, rest⟩

theorem blkOf_ov_ne {L L' : Lay} {id i : Nat} {o : Obj} (hi : i ≠ id) (hL : L'.sv i = L.sv i ∧ L'.bl i = L.bl i) : blkOf L' (ov [(id, o)] s) i = blkOf L s i := by
  rw [ov_one]
  simp only [blkOf, hL.1, hL.2]
  rw [if_neg (fun h : id = i => hi h.symm)]
theorem ov_at_ne {id i : Nat} {o : Obj} (hi : i ≠ id) : ov [(id, o)] s i = s i := by rw [ov_one]; exact if_neg (fun h => hi h.symm)
theorem ov_at {id : Nat} {o : Obj} : ov [(id, o)] s id = some o := by rw [ov_one]; exact if_pos rfl

theorem chg_ok (hw : WOk rd L s w) (hg : Grows F rd L s w) {w' : World} {L' : Lay} {id : Nat} {o : Obj}
    (hrd : ∀ p v, rd p = some v → w'.cell? p = w.cell? p)
    (hL : ∀ i, i ≠ id → L'.sv i = L.sv i ∧ L'.bl i = L.bl i)
    (hblk : ∀ i b, i ≠ id → blkOf L s i = some b → w'.heap[b]? = w.heap[b]?)
    (ho : ObjLe L s L' (ov [(id, o)] s))
    (hbox : ∀ cs fr, o = .box cs fr → ∃ (vs : List Value) (e : Nat), w'.heap[L'.bl id]? = some (.cells vs.toArray e (0, 0)) ∧ All2 (rep1 rd L' (ov [(id, o)] s)) cs vs ∧ (∀ u ∈ vs, u.oneCell' = true) ∧
      (fr = false → ∀ p v, rd p = some v → p.block ≠ L'.bl id) ∧ (fr = true → ∀ (j : Nat) (c : PV) (v : Value), cs[j]? = some c → vs[j]? = some v → rd ⟨L'.bl id, j, none⟩ = some v ∧ RepP rd c v))
    (hrow : ∀ e sz es fr, o = .row e sz es fr → ∃ xs : List Value, w'.ownsRow 0 e sz (L'.sv id) es.length xs ∧ All2 (RepP rd) es.flatten xs ∧ (∀ x ∈ es, x.length = sz) ∧
      (∀ b, (L'.sv id).ownBlock = some b → ∀ p v, rd p = some v → p.block = b → fr = true ∧ p.off < es.length * sz))
    (hinj : ∀ b, blkOf L' (ov [(id, o)] s) id = some b → (∀ i, i ≠ id → blkOf L s i ≠ some b) ∧ (F.M b ∨ F.w0.heap.size ≤ b))
    (hos : w'.os = w.os) (htape : w'.tape = w.tape) (hout : OutLe w w') (hsize : w.heap.size ≤ w'.heap.size)
    (hblock : ∀ k, k < F.w0.heap.size → ¬ F.M k → w'.heap[k]? = w.heap[k]?)
    (hpin : F.pin id → (L'.bl id = L.bl id ∧ L'.sv id = L.sv id) ∧ ∀ e sz es fr, o ≠ .row e sz es fr) : Stp F rd L s rd L' (ov [(id, o)] s) w' := by
  have hr : Rd.le rd rd := fun _ _ h => h
  refine ⟨hr, ho, ⟨?_, ?_, ?_, ?_⟩, ?_⟩
  · intro p v h
    obtain ⟨h1, h2, h3⟩ := hw.hrd p v h
    exact ⟨(hrd p v h).trans h1, h2, h3⟩
  · intro i cs fr h
    by_cases hi : i = id
    · subst hi; rw [ov_at] at h; cases h; exact hbox _ _ rfl
    · rw [ov_at_ne hi] at h
      obtain ⟨vs, e, h1, h2, h3, h4, h5⟩ := hw.box i cs fr h
      rw [(hL i hi).2]
      exact ⟨vs, e, (hblk i _ hi (by simp [blkOf, h])).trans h1, h2.imp fun _ _ => rep1_mono hr ho, h3, h4, h5⟩
  · intro i e sz es fr h
    by_cases hi : i = id
    · subst hi; rw [ov_at] at h; cases h; exact hrow _ _ _ _ rfl
    · rw [ov_at_ne hi] at h
      obtain ⟨xs, h1, h2, h3, h4⟩ := hw.row i e sz es fr h
      rw [(hL i hi).1]
      exact ⟨xs, ownsRow_heap h1 fun b hb => hblk i b hi (by simp [blkOf, h, hb]), h2, h3, h4⟩
  · intro i j b hi hj
    by_cases h1 : i = id
    · by_cases h2 : j = id
      · rw [h1, h2]
      · rw [h1] at hi
        rw [blkOf_ov_ne h2 (hL j h2)] at hj
        exact absurd hj ((hinj b hi).1 j h2)
    · by_cases h2 : j = id
      · rw [h2] at hj
        rw [blkOf_ov_ne h1 (hL i h1)] at hi
        exact absurd hi ((hinj b hj).1 i h1)
      · rw [blkOf_ov_ne h1 (hL i h1)] at hi
        rw [blkOf_ov_ne h2 (hL j h2)] at hj
        exact hw.inj i j b hi hj
  · refine ⟨hos.trans hg.os, htape.trans hg.tape, hout.trans hg.output, Nat.le_trans hg.size hsize, fun k h1 h2 => (hblock k h1 h2).trans (hg.block k h1 h2), hg.le, hg.new, fun i b h => ?_, fun i hi => ?_, fun i hi e sz es fr h => ?_⟩
    · by_cases h1 : i = id
      · rw [h1] at h; exact (hinj b h).2
      · rw [blkOf_ov_ne h1 (hL i h1)] at h; exact hg.own i b h
    · by_cases h1 : i = id
      · subst h1; obtain ⟨⟨e1, e2⟩, _⟩ := hpin hi; rw [e1, e2]; exact hg.pins i hi
      · obtain ⟨e1, e2⟩ := hL i h1; rw [e1, e2]; exact hg.pins i hi
    · by_cases h1 : i = id
      · subst h1; rw [ov_at] at h; cases h; exact (hpin hi).2 _ _ _ _ rfl
      · rw [ov_at_ne h1] at h; exact hg.pb i hi _ _ _ _ h

theorem WOk.blk_lt (hw : WOk rd L s w) {i b : Nat} (h : blkOf L s i = some b) : b < w.heap.size := by
  unfold blkOf at h
  split at h
  · rename_i cs fr hs
    cases h
    obtain ⟨vs, e, h1, _⟩ := hw.box _ _ _ hs
    exact (Array.getElem?_eq_some_iff.1 h1).1
  · rename_i e sz es fr hs
    obtain ⟨xs, h1, _⟩ := hw.row _ _ _ _ _ hs
    exact (h1.lt b h).2
  · cases h
theorem WOk.rd_lt (hw : WOk rd L s w) {p : Addr} {v : Value} (h : rd p = some v) : p.block < w.heap.size := block_lt_of_cell (hw.hrd p v h).1

theorem objLe_new {id : Nat} {o : Obj} {L L' : Lay} (hs : s id = none) (hL : ∀ i, i ≠ id → L'.sv i = L.sv i ∧ L'.bl i = L.bl i) : ObjLe L s L' (ov [(id, o)] s) := by
  intro i oo hi
  have hne : i ≠ id := fun h => by rw [h, hs] at hi; cases hi
  refine ⟨oo, by rw [ov_at_ne hne]; exact hi, ?_⟩
  obtain ⟨e1, e2⟩ := hL i hne
  cases oo with
  | row e sz es fr => exact .inr (.inr ⟨e, sz, es, fr, e, es, fr, rfl, rfl, Nat.le_refl _, fun _ => e1⟩)
  | box cs fr => exact .inr (.inl ⟨cs, fr, cs, fr, rfl, rfl, e2⟩)
  | dead => exact .inl rfl

def Lay.setBl (L : Lay) (id b : Nat) : Lay := { L with bl := fun i => if i = id then b else L.bl i }
def Lay.setSv (L : Lay) (id : Nat) (v : Value) : Lay := { L with sv := fun i => if i = id then v else L.sv i }
theorem Lay.setBl_ne (L : Lay) (id b i : Nat) (h : i ≠ id) : (L.setBl id b).sv i = L.sv i ∧ (L.setBl id b).bl i = L.bl i := ⟨rfl, if_neg h⟩
theorem Lay.setSv_ne (L : Lay) (id : Nat) (v : Value) (i : Nat) (h : i ≠ id) : (L.setSv id v).sv i = L.sv i ∧ (L.setSv id v).bl i = L.bl i := ⟨if_neg h, rfl⟩

theorem newbox_ok (hw : WOk rd L s w) (hg : Grows F rd L s w) {id e : Nat} (hid : id % 1000 ≠ 500) {cs : List PV} {vs : List Value} (hs : s id = none) (hcs : All2 (rep1 rd L s) cs vs) (h1 : ∀ u ∈ vs, u.oneCell' = true) :
    Stp F rd L s rd (L.setBl id w.heap.size) (ov [(id, .box cs false)] s) (w.alloc (.cells vs.toArray e)) := by
  have hle : ObjLe L s (L.setBl id w.heap.size) (ov [(id, .box cs false)] s) := objLe_new hs (L.setBl_ne id _)
  have hbl : (L.setBl id w.heap.size).bl id = w.heap.size := if_pos rfl
  refine chg_ok hw hg (fun p v h => ?_) (L.setBl_ne id _) (fun i b hi hb => heap_alloc_old _ _ _ (hw.blk_lt hb)) hle ?_ (fun _ _ _ _ h => by cases h) (fun b hb => ?_) rfl rfl ⟨rfl, Nat.le_refl _⟩ (by simp) (fun k hk _ => heap_alloc_old _ _ _ (Nat.lt_of_lt_of_le hk hg.size)) (fun h => absurd (F.pin5 id h) hid)
  · exact World.cell?_of_block (heap_alloc_old _ _ _ (hw.rd_lt h))
  · intro cs' fr h
    cases h
    rw [hbl]
    exact ⟨vs, e, heap_alloc_new _ _, hcs.imp fun _ _ => rep1_mono (fun _ _ h => h) hle, h1, fun _ p v hp => Nat.ne_of_lt (hw.rd_lt hp), fun h => by cases h⟩
  · have : b = w.heap.size := by
      simp only [blkOf, ov_at, hbl] at hb; cases hb; rfl
    subst this
    exact ⟨fun i hi hb' => absurd (hw.blk_lt hb') (Nat.lt_irrefl _), .inr hg.size⟩

/-- A row is made, or grows, or is written: the world behind it is as the kit's laws tell. -/
theorem row_ok (hw : WOk rd L s w) (hg : Grows F rd L s w) {w' : World} {id e sz : Nat} {es : List (List PV)} {fr : Bool} {v : Value} {xs : List Value} {row : Option Nat}
    (hown : w'.ownsRow 0 e sz v es.length xs) (hgr : w.grownBy w' row) (hdr : w.drawn ≤ w'.drawn) (hrow : ∀ b, row = some b → blkOf L s id = some b) (hv : ∀ b, v.ownBlock = some b → row = some b ∨ w.heap.size ≤ b)
    (hxs : All2 (RepP rd) es.flatten xs) (hsz : ∀ x ∈ es, x.length = sz) (hrd : ∀ b, row = some b → ∀ p u, rd p = some u → p.block = b → w'.cell? p = w.cell? p)
    (hfr : ∀ b, row = some b → v.ownBlock = some b → ∀ p u, rd p = some u → p.block = b → fr = true ∧ p.off < es.length * sz)
    (ho : ObjLe L s (L.setSv id v) (ov [(id, .row e sz es fr)] s)) (hpin : ¬ F.pin id) :
    Stp F rd L s rd (L.setSv id v) (ov [(id, .row e sz es fr)] s) w' := by
  have hsv : (L.setSv id v).sv id = v := if_pos rfl
  refine chg_ok hw hg (fun p u h => ?_) (L.setSv_ne id v) (fun i b hi hb => ?_) ho (fun _ _ h => by cases h) ?_ (fun b hb => ?_) hgr.os hgr.tape ⟨hgr.output, hdr⟩ hgr.size (fun k hk hM => ?_) (fun h => absurd h hpin)
  · by_cases hb : some p.block = row
    · exact hrd _ hb.symm p u h rfl
    · exact World.cell?_of_block (hgr.block _ (hw.rd_lt h) hb)
  · refine hgr.block b (hw.blk_lt hb) fun h => hi ?_
    exact hw.inj i id b hb (hrow b h.symm)
  · intro e' sz' es' fr' h
    cases h
    rw [hsv]
    refine ⟨xs, hown, hxs, hsz, fun b hb p u hp hpb => ?_⟩
    rcases hv b hb with h | h
    · exact hfr b h hb p u hp hpb
    · have := hw.rd_lt hp; omega
  · have hb' : v.ownBlock = some b := by simpa only [blkOf, ov_at, hsv] using hb
    rcases hv b hb' with h | h
    · exact ⟨fun i hi hbi => hi (hw.inj i id b hbi (hrow b h)), hg.own id b (hrow b h)⟩
    · exact ⟨fun i hi hbi => by have := hw.blk_lt hbi; omega, .inr (Nat.le_trans hg.size h)⟩
  · refine hgr.block k (Nat.lt_of_lt_of_le hk hg.size) fun h => ?_
    rcases hg.own id k (hrow k h.symm) with h' | h'
    · exact hM h'
    · omega
end
section
variable {P : Program} {T : Tab} {F : Fr} {rd : Rd} {L : Lay} {s : Objs} {w : World}

def OpRes (P : Program) (F : Fr) (rd : Rd) (L : Lay) (s : Objs) (w : World) (a : Act) (o : Oper) (k : K) : Prop :=
  ∃ pv u rd' L' w' nx val, k pv u ∧ (execOp a.eval o).run P w = .ok nx w' ∧ (nx = .value val ∨ (nx = .skip ∧ val = undef)) ∧ rep3 rd' L' (ov u s) pv val ∧ Stp F rd L s rd' L' (ov u s) w'

theorem OpRes.pure (hw : WOk rd L s w) (hg : Grows F rd L s w) {a : Act} {o : Oper} {k : K} {pv : PV} {val : Value} (hk : k pv []) (hr : (execOp a.eval o).run P w = .ok (.value val) w) (hv : rep3 rd L s pv val) :
    OpRes P F rd L s w a o k := ⟨pv, [], rd, L, w, .value val, val, hk, hr, .inl rfl, hv, Stp.refl hw hg⟩

theorem rep3_agg {cs : List PV} {v : Value} (h : rep3 rd L s (.agg cs) v) : ∃ vs : List Value, v = .agg vs.toArray ∧ All2 (rep1 rd L s) cs vs ∧ ∀ u ∈ vs, u.oneCell' = true := h
theorem rep3_bool {b : Bool} {v : Value} (h : rep3 rd L s (.sc (.bool b)) v) : v = .bool b := scal_rep h
theorem rep3_int {i : IntKind} {n : Int} {v : Value} (h : rep3 rd L s (.sc (.int i n)) v) : v = .int i n := scal_rep h
theorem rep3_str {b : ByteArray} {v : Value} (h : rep3 rd L s (.sc (.string b)) v) : v = .string b := scal_rep h

/-- Cells of a value that is stored or boxed. -/
theorem rep3_cells {p : PV} {v : Value} (h : rep3 rd L s p v) (hp : p ≠ .undef) (ht : ∀ l, p ≠ .tup l) : ∃ vs : List Value, v.cells = vs.toArray ∧ All2 (rep1 rd L s) p.cells vs ∧ ∀ u ∈ vs, u.oneCell' = true := by
  cases p with
  | agg cs => obtain ⟨vs, rfl, h1, h2⟩ := h; exact ⟨vs, rfl, h1, h2⟩
  | tup l => exact absurd rfl (ht l)
  | undef => exact absurd rfl hp
  | _ =>
    have h1 : v.oneCell' = true := rep1_one (rd := rd) (L := L) (s := s) hp h
    refine ⟨[v], ?_, .cons h .nil, by simpa using h1⟩
    cases v <;> first | rfl | simp [Value.oneCell'] at h1

theorem loadV_one {ag : Bool} {n : Nat} {cs : List PV} {k : PV → Prop} (h : loadV ag n cs k) (h1 : ag = false) : n = 1 := by
  subst h1
  cases cs with
  | nil => exact h.elim
  | cons c cs => exact h.1
theorem loadV_ok {ag : Bool} {n : Nat} {cs : List PV} {k : PV → Prop} (h : loadV ag n cs k) {R : PV → Value → Prop} {vs : List Value} (hcs : All2 R cs vs) :
    ∃ pv, k pv ∧ n ≤ vs.length ∧ (if ag then ∃ l, pv = .agg l ∧ l = cs.take n ∧ All2 R l (vs.take n) else R pv ((vs.take n).headD undef)) := by
  cases ag with
  | true => obtain ⟨h2, hk⟩ := h; exact ⟨_, hk, by rw [← hcs.len]; exact Nat.le_of_ble_eq_true h2, _, rfl, rfl, hcs.take n⟩
  | false =>
    cases hcs with
    | nil => exact h.elim
    | cons hc hcs => obtain ⟨h2, hk⟩ := h; subst h2; exact ⟨_, hk, by simp, hc⟩

theorem op_load (hT : TabOK P T) {g : Nat → PV} {a : Act} (hrep : ∀ t, rep3 rd L s (g t) (a.tmps.getD t undef)) (hw : WOk rd L s w) (hg : Grows F rd L s w) {o : Oper} {t : TypeId} {x : Operand} (ho : o.op = .load t x) {k : K}
    (h : opVC T o g s k) : OpRes P F rd L s w a o k := by
  unfold opVC at h
  rw [ho] at h
  dsimp only at h
  have hx := evo_rep hrep x
  cases hl : look T t with
  | none => rw [hl] at h; exact h.elim
  | some r =>
    rw [hl] at h
    dsimp only at h
    have hr := hT t r hl
    have fin : ∀ (cs : List PV) (vs : List Value) (b q : Nat), All2 (rep1 rd L s) cs vs → (∀ u ∈ vs, u.oneCell' = true) → (∀ (j : Nat) v, vs[j]? = some v → w.cell? ⟨b, q + j, none⟩ = some v) → a.eval x = .pointer (some ⟨b, q, none⟩) →
        loadV r.agg r.n cs (fun v => k v []) → OpRes P F rd L s w a o k := by
      intro cs vs b q h1 hone h2 h3 h4
      obtain ⟨pv, hk, hle, h5⟩ := loadV_ok h4 h1
      have hl : (vs.take r.n).length = r.n := by rw [List.length_take]; omega
      refine OpRes.pure hw hg hk (val := if r.agg then .agg (vs.take r.n).toArray else (vs.take r.n).headD undef) ?_ ?_
      · have := run_load_cells (w := w) hr b q (vs.take r.n) hl (fun j v hv => h2 j v (by
          rw [List.getElem?_take] at hv; split at hv
          · exact hv
          · cases hv))
        simp only [execOp, ho, h3, Sem.run_bind, this, Result.andThen]; rfl
      · cases hag : r.agg with
        | true => rw [hag] at h5; obtain ⟨l, rfl, _, hl2⟩ := h5; exact ⟨_, rfl, hl2, fun u hu => hone u (List.mem_of_mem_take hu)⟩
        | false => rw [hag] at h5; exact rep3_of_rep2 (rep2_of_rep1 h5)
    cases hp : evo g x with
    | rp cs =>
      rw [hp] at h hx
      generalize hav : a.eval x = av at hx
      cases hx with
      | rp hrd hrp =>
        rename_i b q u
        refine fin cs ((List.range cs.length).map u) b q (All2.of_get (by simp) fun i c v hc hv => ?_) (fun v hv => ?_) (fun j v hv => ?_) hav h
        · rw [List.getElem?_map] at hv
          obtain ⟨i', hi', rfl⟩ := Option.map_eq_some_iff.1 hv
          have := List.getElem?_range (n := cs.length) (i := i)
          have hi : i < cs.length := (List.getElem?_eq_some_iff.1 hc).1
          rw [List.getElem?_range hi] at hi'
          cases hi'
          exact rep1_of_P (hrp i c hc)
        · obtain ⟨i, hi, rfl⟩ := List.mem_map.1 hv
          have hi : i < cs.length := by simpa using hi
          exact (hrp i _ (List.getElem?_eq_getElem hi)).oneCell
        · rw [List.getElem?_map] at hv
          obtain ⟨i', hi', rfl⟩ := Option.map_eq_some_iff.1 hv
          have hj : j < cs.length := by
            have := (List.getElem?_eq_some_iff.1 hi').1; simpa using this
          rw [List.getElem?_range hj] at hi'
          cases hi'
          exact (hw.hrd _ _ (hrd j _ (List.getElem?_eq_getElem hj))).1
    | loc id off =>
      rw [hp] at h hx
      dsimp only at h
      cases hs : s id with
      | none => rw [hs] at h; exact h.elim
      | some ob =>
        rw [hs] at h
        cases ob with
        | box cs fr =>
          dsimp only at h
          obtain ⟨vs, e, h1, h2, h3, _⟩ := hw.box id cs fr hs
          have hv := hx.1 ⟨cs, fr, hs⟩
          refine fin (cs.drop off) (vs.drop off) (L.bl id) off (h2.drop off) (fun u hu => h3 u (List.mem_of_mem_drop hu)) (fun j v hj => ?_) hv h
          rw [List.getElem?_drop] at hj
          rw [cell_of_row w _ _ _ _ _ h1]
          simpa using hj
        | _ => exact h.elim
    | lel id n i j =>
      rw [hp] at h hx
      dsimp only at h
      cases hs : s id with
      | none => rw [hs] at h; exact h.elim
      | some ob =>
        rw [hs] at h
        cases ob with
        | row e sz es fr =>
          dsimp only at h
          obtain ⟨rfl, el, hel, h⟩ := h
          obtain ⟨xs, h1, h2, h3, _⟩ := hw.row id e sz es fr hs
          obtain ⟨b, hb, hv⟩ := hx.1 _ _ _ _ hs rfl
          have hlen : el.length = sz := h3 el (List.mem_of_getElem? hel)
          have hsub : ∀ q c, el[q]? = some c → ∃ v, xs[i * sz + q]? = some v ∧ RepP rd c v := fun q c hc => h2.get (flat_get h3 hel hc)
          have hxl : xs.length = es.length * sz := h1.1
          have hi : i < es.length := (List.getElem?_eq_some_iff.1 hel).1
          have hmul : i * sz + sz ≤ es.length * sz := by rw [← Nat.succ_mul]; exact Nat.mul_le_mul_right _ hi
          have hvs : All2 (rep1 rd L s) (el.drop j) (((xs.drop (i * sz)).take sz).drop j) := by
            refine All2.drop (All2.of_get ?_ fun q c v hc hv' => ?_) j
            · rw [List.length_take, List.length_drop, hlen]; omega
            · obtain ⟨v', hv1, hr'⟩ := hsub q c hc
              have : v = v' := by
                rw [List.getElem?_take] at hv'
                split at hv'
                · rw [List.getElem?_drop, hv1] at hv'; cases hv'; rfl
                · cases hv'
              rw [this]; exact rep1_of_P hr'
          refine fin (el.drop j) (((xs.drop (i * sz)).take sz).drop j) b (i * sz + j) hvs (fun u hu => ?_) (fun q v hq => ?_) hv h
          · obtain ⟨q, hq⟩ := List.getElem?_of_mem (List.mem_of_mem_drop (List.mem_of_mem_take (List.mem_of_mem_drop hu)))
            obtain ⟨c, _, hc⟩ := h2.get' hq
            exact hc.oneCell
          · rw [List.getElem?_drop, List.getElem?_take] at hq
            split at hq
            · rw [List.getElem?_drop] at hq
              have := h1.cells hb _ _ hq
              rw [Addr.add_lit, Nat.zero_add] at this
              rw [← this]; congr 2; omega
            · cases hq
        | _ => exact h.elim
    | _ => rw [hp] at h; exact h.elim
end
section
variable {P : Program} {T : Tab} {F : Fr} {rd : Rd} {L : Lay} {s : Objs} {w : World}

theorem run_eql_bool {t : TypeId} (h : P.underlying t = some .bool) (a b : Bool) : (binOp .eql t (.bool a) (.bool b)).run P w = .ok (.bool (a == b)) w := by
  have h1 : binOp .eql t (.bool a) (.bool b) = (do pure (Value.bool (← Op.equal t (.bool a) (.bool b)))) := rfl
  have h2 := run_equalIn_bool' (P := P) w 9999 t a b h
  rw [h1, Sem.run_bind, show Op.equal t (.bool a) (.bool b) = Op.equalIn (9999 + 1) t (.bool a) (.bool b) from rfl, h2]; rfl
theorem run_neq_bool {t : TypeId} (h : P.underlying t = some .bool) (a b : Bool) : (binOp .neq t (.bool a) (.bool b)).run P w = .ok (.bool (!(a == b))) w := by
  have h1 : binOp .neq t (.bool a) (.bool b) = (do pure (Value.bool (!(← Op.equal t (.bool a) (.bool b))))) := rfl
  have h2 := run_equalIn_bool' (P := P) w 9999 t a b h
  rw [h1, Sem.run_bind, show Op.equal t (.bool a) (.bool b) = Op.equalIn (9999 + 1) t (.bool a) (.bool b) from rfl, h2]; rfl

theorem run_eql_slice_nil {t e : TypeId} {a : Option Addr} {l c : Nat} (h : P.underlying t = some (.slice e)) : (binOp .eql t (.slice a l c) (.slice none 0 0)).run P w = .ok (.bool a.isNone) w := by
  simp only [binOp]
  simp [run_equal_slice_nil w t e a l c h]

theorem op_pure (hT : TabOK P T) {g : Nat → PV} {a : Act} (hrep : ∀ t, rep3 rd L s (g t) (a.tmps.getD t undef)) (hw : WOk rd L s w) (hg : Grows F rd L s w) {o : Oper} {k : K}
    (h : opVC T o g s k) (hop : match o.op with | .move _ | .assign _ | .pick .. | .nilCheck _ | .binOp .. | .unOp .. | .convert .. | .fieldAddr .. | .field .. | .extract .. => True | _ => False) : OpRes P F rd L s w a o k := by
  obtain ⟨dst, op, ty, pos, after, guard⟩ := o
  have ev := evo_rep hrep
  cases op with
  | move x => exact OpRes.pure hw hg h rfl (ev x)
  | assign x => exact OpRes.pure hw hg h rfl (ev x)
  | pick c x y =>
    simp only [opVC] at h
    have hc := ev c
    split at h
    · rename_i t hp
      rw [hp] at hc
      have hcv := rep3_bool hc
      cases t with
      | true => exact OpRes.pure hw hg h (by simp [execOp, hcv, asBool]) (ev x)
      | false => exact OpRes.pure hw hg h (by simp [execOp, hcv, asBool]) (ev y)
    · exact h.elim
  | nilCheck x =>
    simp only [opVC] at h
    have hx := ev x
    split at h
    · rename_i id off hp
      rw [hp] at hx
      have hx' := hx
      obtain ⟨h1, ⟨b, hb⟩, h2⟩ := hx
      exact OpRes.pure hw hg h (val := .pointer (some b)) (by simp [execOp, hb]) (by rw [hb] at hx'; exact hx')
    · rename_i cs hp
      rw [hp] at hx
      generalize hav : a.eval x = av at hx
      have hx' := hx
      cases hx with
      | rp _ _ => exact OpRes.pure hw hg h (val := .pointer (some _)) (by simp [execOp, hav]) hx'
    · rename_i id n i j hp
      rw [hp] at hx
      have hx' := hx
      obtain ⟨h1, h3, ⟨b, hb⟩, h2⟩ := hx
      exact OpRes.pure hw hg h (val := .pointer (some b)) (by simp [execOp, hb]) (by rw [hb] at hx'; exact hx')
    · rename_i f c hp
      rw [hp] at hx
      generalize hav : a.eval x = av at hx
      have hx' := hx
      cases hx with
      | fn _ _ => exact OpRes.pure hw hg h (val := .func _ _ _) (by simp [execOp, hav]) hx'
    · exact h.elim
  | binOp op t x y yt =>
    simp only [opVC] at h
    have hx := ev x
    have hy := ev y
    split at h
    · rename_i p q hp hq
      rw [hp] at hx
      rw [hq] at hy
      obtain ⟨vx, hvx, hx, _⟩ := hx
      obtain ⟨vy, hvy, hy, _⟩ := hy
      split at h
      · rename_i r n ti ag z hl
        obtain ⟨h1, h2, h⟩ := h
        have hr := hT _ _ hl
        split at h
        · rename_i b he
          have hk := (hr.eq rfl _ _ _ (eqInts_V hx hy he) (by rw [← hx.len]; exact h1.symm) (by rw [← hy.len]; exact h2.symm) x y w).1
          exact OpRes.pure hw hg h (by simp only [execOp, hvx, hvy]; rw [Sem.run_bind] at hk ⊢; simp only [Sem.run_bind] at hk ⊢; rw [hk]; rfl) (.sc rfl)
        · rename_i b he
          have hk := (hr.eq rfl _ _ _ (eqInts_V hx hy he) (by rw [← hx.len]; exact h1.symm) (by rw [← hy.len]; exact h2.symm) x y w).2
          exact OpRes.pure hw hg h (by simp only [execOp, hvx, hvy]; rw [Sem.run_bind] at hk ⊢; simp only [Sem.run_bind] at hk ⊢; rw [hk]; rfl) (.sc rfl)
        · exact h.elim
      · exact h.elim
    · rename_i p q hp hq
      rw [hp] at hx
      rw [hq] at hy
      have hx := rep3_bool hx
      have hy := rep3_bool hy
      split at h
      · rename_i hl
        have hr := (hT _ _ hl).ti
        refine OpRes.pure hw hg h ?_ (.sc rfl)
        simp only [execOp, hx, hy, Sem.run_bind, eqGuard_bool, Result.andThen, run_eql_bool hr]; rfl
      · rename_i hl
        have hr := (hT _ _ hl).ti
        refine OpRes.pure hw hg h ?_ (.sc rfl)
        simp only [execOp, hx, hy, Sem.run_bind, eqGuard_bool, Result.andThen, run_neq_bool hr]; rfl
      · exact h.elim
    · rename_i o sz es hp hq
      rw [hp] at hx
      rw [hq] at hy
      have hx : RepP rd (.sl o sz es) (a.eval x) := hx
      have hy : RepP rd .nils (a.eval y) := hy
      generalize hvy : a.eval y = vy at hy
      cases hy
      generalize hvx : a.eval x = vx at hx
      cases hx with
      | sl hcap hmax hnone ha hsz hrd hrp =>
        rename_i a0 cap b0 o0 u0
        have hb : es ≠ [] → a0.isNone = false := fun he => by rw [ha he]; rfl
        split at h
        · rename_i hl
          have hr := (hT _ _ hl).ti
          exact OpRes.pure hw hg (h _ hb) (by simp only [execOp, hvx, hvy, Sem.run_bind, eqGuard_at_slice, Sem.run_pure, Result.andThen, run_eql_slice_nil hr]) (.sc rfl)
        · rename_i hl
          have hr := (hT _ _ hl).ti
          exact OpRes.pure hw hg (h _ hb) (by simp only [execOp, hvx, hvy, Sem.run_bind, eqGuard_at_slice, Sem.run_pure, Result.andThen, run_neq_slice_nil w _ _ a0 es.length cap hr]) (.sc rfl)
        · exact h.elim
    · rename_i hp hq
      rw [hp] at hx
      rw [hq] at hy
      have hx : RepP rd .nils (a.eval x) := hx
      have hy : RepP rd .nils (a.eval y) := hy
      generalize hvy : a.eval y = vy at hy
      cases hy
      generalize hvx : a.eval x = vx at hx
      cases hx
      split at h
      · rename_i hl
        have hr := (hT _ _ hl).ti
        exact OpRes.pure hw hg h (by simp only [execOp, hvx, hvy, Sem.run_bind, eqGuard_at_slice, Sem.run_pure, Result.andThen, run_eql_slice_nil hr]; rfl) (.sc rfl)
      · rename_i hl
        have hr := (hT _ _ hl).ti
        exact OpRes.pure hw hg h (by simp only [execOp, hvx, hvy, Sem.run_bind, eqGuard_at_slice, Sem.run_pure, Result.andThen, run_neq_slice_nil w _ _ none 0 0 hr]; rfl) (.sc rfl)
      · exact h.elim
    · obtain ⟨pv, val, hk, hr, hv⟩ := binS_ok (P := P) (w := w) (t := t) (X := x) (Y := y) hx hy h
      exact OpRes.pure hw hg hk (by simp only [execOp]; rw [Sem.run_bind, hr]; rfl) (rep3_of_P hv)
  | unOp op t x =>
    simp only [opVC] at h
    have hx := ev x
    split at h
    · rename_i b hp
      rw [hp] at hx
      have hx := rep3_bool hx
      exact OpRes.pure hw hg h (by simp [execOp, hx, Op.unary]) (.sc rfl)
    · rename_i i n hp
      rw [hp] at hx
      have hx := rep3_int hx
      exact OpRes.pure hw hg h (by simp [execOp, hx, Op.unary, Op.intArith]) (.sc rfl)
    · exact h.elim
  | convert t u x =>
    simp only [opVC] at h
    have hx := ev x
    split at h
    · rename_i h1 h2 hp
      rw [hp] at hx
      have hx := rep3_int hx
      have k1 := (hT _ _ h1).ti
      have k2 := (hT _ _ h2).ti
      exact OpRes.pure hw hg h (by simp [execOp, hx, convert, run_underlying k1, run_underlying k2, Conv.intToInt]) (.sc rfl)
    · rename_i h1 h2 hp
      rw [hp] at hx
      have hx := rep3_str hx
      have k1 := (hT _ _ h1).ti
      have k2 := (hT _ _ h2).ti
      exact OpRes.pure hw hg h (by simp [execOp, hx, convert, run_underlying k1, run_underlying k2]) (.sc rfl)
    · exact h.elim
  | fieldAddr t x f =>
    simp only [opVC] at h
    have hx := ev x
    have hfo : ∀ {q : Nat × Nat × Bool}, fieldOf T t f = some q → ∀ ad, (Instr.fieldAt t (.pointer (some ad)) f).run P w = .ok (.pointer (some (ad.add q.1))) w := by
      intro q hq ad
      unfold fieldOf at hq
      split at hq
      · rename_i fs n ag z eq hl
        obtain ⟨_, fields, hf, hk⟩ := (hT _ _ hl).ti
        obtain ⟨fd, i, d, h1, h2, h3, h4, h5, _⟩ := hk f q.1 q.2.1 q.2.2 hq
        simp [Instr.fieldAt, run_underlying hf, h1, Instr.sureAddr, fieldPlace, sizeOf, typeInfo, h3, h4, h2, Nat.ne_of_gt h5]
      · cases hq
    split at h
    · rename_i off n ag id p hq hp
      rw [hp] at hx
      obtain ⟨h1, ⟨b, hb⟩, h2⟩ := hx
      have hr := hfo hq b
      refine OpRes.pure hw hg h (by simp only [execOp, hb, Sem.run_bind, hr, Result.andThen]; rfl) ⟨fun hh => ?_, ⟨_, rfl⟩, h2⟩
      have := h1 hh
      rw [hb] at this
      cases this
      rw [Addr.add_lit]
    · rename_i off n ag cs hq hp
      rw [hp] at hx
      generalize hav : a.eval x = av at hx
      cases hx with
      | rp h1 h2 =>
        rename_i b q u
        have hr := hfo hq ⟨b, q, none⟩
        refine OpRes.pure hw hg h (by simp only [execOp, hav, Sem.run_bind, hr, Result.andThen]; rfl) ?_
        rw [Addr.add_lit]
        refine .rp (u := fun j => u (off + j)) (fun j c hc => ?_) (fun j c hc => ?_)
        · rw [List.getElem?_drop] at hc
          rw [Nat.add_assoc]; exact h1 _ _ hc
        · rw [List.getElem?_drop] at hc
          exact h2 _ _ hc
    · rename_i off n ag id m i j hq hp
      rw [hp] at hx
      obtain ⟨h1, h3, ⟨b, hb⟩, h2⟩ := hx
      have hr := hfo hq b
      refine OpRes.pure hw hg h (by simp only [execOp, hb, Sem.run_bind, hr, Result.andThen]; rfl) ⟨fun e sz es fr h4 h5 => ?_, h3, ⟨_, rfl⟩, h2⟩
      obtain ⟨bb, h6, h7⟩ := h1 e sz es fr h4 h5
      rw [hb] at h7
      cases h7
      exact ⟨bb, h6, by rw [Addr.add_lit, Nat.add_assoc]⟩
    · exact h.elim
  | field t x f =>
    simp only [opVC] at h
    have hx := ev x
    split at h
    · rename_i off n ag cs hq hp
      rw [hp] at hx
      obtain ⟨vs, hv, hvs, hone⟩ := hx
      unfold fieldOf at hq
      split at hq
      · rename_i fs n' ag' z eq hl
        obtain ⟨_, fields, hf, hk⟩ := (hT _ _ hl).ti
        obtain ⟨fd, i, d, h1, h2, h3, h4, h5, h6, h7⟩ := hk f off n ag hq
        have h1n : ag = false → n = 1 := loadV_one h
        obtain ⟨pv, hk2, hle, h8⟩ := loadV_ok h (hvs.drop off)
        have ha := run_isAgg_row (w := w) ⟨d, h6, h7⟩
        refine OpRes.pure hw hg hk2 (val := if ag then .agg ((vs.drop off).take n).toArray else ((vs.drop off).take n).headD undef) ?_ ?_
        · simp only [execOp, hv, Instr.field, Sem.run_bind, run_underlying hf, Result.andThen, h1, asAgg, part]
          cases hag : ag with
          | true =>
            rw [hag] at ha
            simp [ha, sizeOf, typeInfo, h3, h4, h2]
          | false =>
            rw [hag] at ha
            have := h1n hag
            subst this
            simp [ha, h2]
            cases hd : vs.drop off with
            | nil => rw [hd] at hle; simp at hle
            | cons v r =>
              have : vs[off]? = some v := by
                have := congrArg (·[0]?) hd
                simpa [List.getElem?_drop] using this
              simp [this]
        · cases hag : ag with
          | true => rw [hag] at h8; obtain ⟨l, rfl, _, hl2⟩ := h8; exact ⟨_, rfl, hl2, fun u hu => hone u (List.mem_of_mem_drop (List.mem_of_mem_take hu))⟩
          | false => rw [hag] at h8; exact rep3_of_rep2 (rep2_of_rep1 h8)
      · cases hq
    · exact h.elim
  | extract x i =>
    simp only [opVC] at h
    have hx := ev x
    split at h
    · rename_i vs hp
      rw [hp] at hx
      split at h
      · rename_i v hv
        obtain ⟨us, hu, hus⟩ := hx
        obtain ⟨u, h1, h2⟩ := hus.get hv
        exact OpRes.pure hw hg h (by simp [execOp, hu, Instr.extract, h1]) (rep3_of_rep2 h2)
      · exact h.elim
    · exact h.elim
  | _ => exact hop.elim
end
section
variable {P : Program} {T : Tab} {F : Fr} {rd : Rd} {L : Lay} {s : Objs} {w : World}

theorem rb_ne (d : Option Nat) : rb d % 1000 ≠ 500 := by simp only [rb]; omega

theorem OpRes.newbox (hw : WOk rd L s w) (hg : Grows F rd L s w) {a : Act} {o : Oper} {k : K} {id e : Nat} {cs : List PV} {vs : List Value} (hid : id % 1000 ≠ 500) (hs : s id = none) (hcs : All2 (rep1 rd L s) cs vs) (h1 : ∀ u ∈ vs, u.oneCell' = true)
    (hk : k (.loc id 0) [(id, .box cs false)]) (hr : (execOp a.eval o).run P w = .ok (.value (.pointer (some ⟨w.heap.size, 0, none⟩))) (w.alloc (.cells vs.toArray e))) : OpRes P F rd L s w a o k := by
  have hst := newbox_ok hw hg (e := e) hid hs hcs h1
  refine ⟨_, _, rd, L.setBl id w.heap.size, _, _, _, hk, hr, .inl rfl, ⟨fun _ => ?_, ⟨_, rfl⟩, ?_⟩, hst⟩
  · simp [Lay.setBl]
  · rw [ov_at]; simp

theorem All2.any {α β : Type} {R : α → β → Prop} {l : List α} {m : List β} (h : All2 R l m) : ∀ b ∈ m, ∃ a, R a b := by
  intro b hb
  obtain ⟨i, hi⟩ := List.getElem?_of_mem hb
  obtain ⟨a, _, ha⟩ := h.get' hi
  exact ⟨a, ha⟩

theorem op_alloc (hT : TabOK P T) {g : Nat → PV} {a : Act} (hw : WOk rd L s w) (hg : Grows F rd L s w) {o : Oper} {t : TypeId} (ho : o.op = .alloc t) {k : K}
    (h : opVC T o g s k) : OpRes P F rd L s w a o k := by
  unfold opVC at h
  rw [ho] at h
  dsimp only at h
  split at h
  · rename_i r hl
    obtain ⟨i, z, hi, hsz, hpos, _, hz, hzz, _⟩ := (hT t r hl).info
    have key : ∀ id, id % 1000 ≠ 500 → s id = none → k (.loc id 0) [(id, .box r.zero false)] → OpRes P F rd L s w a o k := fun id hid hs hk => by
      refine OpRes.newbox hw hg hid hs (e := t) (hzz.imp fun _ _ h => rep1_of_P (h rd)) (fun u hu => ?_) hk ?_
      · obtain ⟨p, hp⟩ := hzz.any u hu
        exact (hp rd).oneCell
      · simp [execOp, ho, Instr.alloc, zeroValue, typeInfo, hi, hz, newVar, newRow]
    split at h
    · rename_i hs
      exact key _ (rb_ne _) hs h
    · exact key _ (by simp only [rb]; omega) h.1 h.2
  · exact h.elim

theorem op_box (hT : TabOK P T) {g : Nat → PV} {a : Act} (hrep : ∀ t, rep3 rd L s (g t) (a.tmps.getD t undef)) (hw : WOk rd L s w) (hg : Grows F rd L s w) {o : Oper} {t : TypeId} {x : Operand} (ho : o.op = .box t x) {k : K}
    (h : opVC T o g s k) : OpRes P F rd L s w a o k := by
  unfold opVC at h
  rw [ho] at h
  dsimp only at h
  have hx := evo_rep hrep x
  split at h
  · exact h.elim
  · exact h.elim
  · rename_i pv r hl hne hnt
    obtain ⟨hs, hn, hk⟩ := h
    obtain ⟨vs, hv, hvs, h1⟩ := rep3_cells hx (fun h => hne h) (fun l hl => hnt l hl)
    refine OpRes.newbox hw hg (rb_ne _) hs (e := t) hvs h1 hk ?_
    simp [execOp, ho, Instr.box, newVar, newRow, hv]
  · exact h.elim

/-- 'splice' over represented cells. -/
theorem splice_ok {R : PV → Value → Prop} {cs new : List PV} {vs us : List Value} (h : All2 R cs vs) (h' : All2 R new us) (off : Nat) : All2 R (splice cs off new) (vs.take off ++ us ++ vs.drop (off + us.length)) := by
  unfold splice
  rw [h'.len]
  exact ((h.take off).append h').append (h.drop _)

theorem foldl_splice (off : Nat) : ∀ (us : List Value) (k : Nat) (cs : List Value), off + k + us.length ≤ cs.length →
    ((us.zipIdx k).foldl (fun (c : Array Value) (x : Value × Nat) => c.setIfInBounds (off + x.2) x.1) cs.toArray).toList = cs.take (off + k) ++ us ++ cs.drop (off + k + us.length)
  | [], k, cs, _ => by simp
  | u :: us, k, cs, h => by
    simp only [List.zipIdx_cons, List.foldl_cons, List.length_cons]
    have h1 : off + k < cs.length := by simp only [List.length_cons] at h; omega
    rw [show (cs.toArray.setIfInBounds (off + k) u) = (cs.set (off + k) u).toArray by simp]
    rw [foldl_splice off us (k + 1) (cs.set (off + k) u) (by simp only [List.length_set, List.length_cons] at h ⊢; omega)]
    have := list_seg_step cs (off + k) u us (by simp only [List.length_cons] at h; omega)
    simpa [Nat.add_assoc] using this

theorem fill_ok {R : PV → Value → Prop} {place : Nat → Option (Nat × Nat)} : ∀ {ps : List (Nat × PV)} {us : List (Nat × Value)} {cs : List PV} {vs : List Value} {out : List PV},
    All2 (fun p u => p.1 = u.1 ∧ ∃ l : List Value, u.2.cells = l.toArray ∧ All2 R p.2.cells l) ps us → All2 R cs vs → fillV place cs ps = some out →
    ∃ o : List Value, Instr.fill place vs.toArray us = some o.toArray ∧ All2 R out o := by
  intro ps
  induction ps with
  | nil => intro us cs vs out h1 h2 h3; cases h1; cases h3; exact ⟨vs, rfl, h2⟩
  | cons p ps ih =>
    intro us cs vs out h1 h2 h3
    obtain ⟨i, p⟩ := p
    cases h1 with
    | cons hu hus =>
      rename_i u us
      obtain ⟨j, u⟩ := u
      obtain ⟨hij, l, hl, hR⟩ := hu
      dsimp only at hij hl hR
      subst hij
      simp only [fillV] at h3
      cases hp : place i with
      | none => rw [hp] at h3; cases h3
      | some q =>
        obtain ⟨off, size⟩ := q
        rw [hp] at h3
        dsimp only at h3
        cases hb : (Nat.beq p.cells.length size && Nat.ble (off + size) cs.length) with
        | false => rw [hb] at h3; cases h3
        | true =>
          rw [hb] at h3
          simp only [cond_true] at h3
          simp only [Bool.and_eq_true] at hb
          have e1 := Nat.eq_of_beq_eq_true hb.1
          have e2 := Nat.le_of_ble_eq_true hb.2
          have hll : l.length = size := by rw [← hR.len]; exact e1
          have hvl : cs.length = vs.length := h2.len
          obtain ⟨o, ho1, ho2⟩ := ih hus (splice_ok h2 hR off) h3
          refine ⟨o, ?_, ho2⟩
          simp only [Instr.fill, hp, hl]
          rw [if_neg (by simp; omega)]
          rw [← ho1]
          congr 1
          have := foldl_splice off l 0 vs (by omega)
          rw [← Array.foldl_toList]
          simp only [Array.toList_zipIdx, Nat.add_zero] at this ⊢
          rw [← Array.toList_inj]
          simpa using this

theorem noU_spec {l : List (Nat × PV)} (h : noU l = true) : ∀ q ∈ l, q.2 ≠ .undef ∧ ∀ r, q.2 ≠ .tup r := by
  intro q hq
  have := List.all_eq_true.1 h q hq
  constructor
  · intro e; rw [e] at this; cases this
  · intro r e; rw [e] at this; cases this

theorem parts_ok {g : Nat → PV} {a : Act} (hrep : ∀ t, rep3 rd L s (g t) (a.tmps.getD t undef)) {ps : List (Nat × Operand)} (hno : noU (parts g ps) = true) :
    All2 (fun p u => p.1 = u.1 ∧ ∃ l : List Value, u.2.cells = l.toArray ∧ All2 (fun p v => rep1 rd L s p v ∧ v.oneCell' = true) p.2.cells l) (parts g ps) (ps.map fun (i, x) => (i, a.eval x)) := by
  induction ps with
  | nil => exact .nil
  | cons p ps ih =>
    obtain ⟨i, x⟩ := p
    have h1 := noU_spec hno (i, evo g x) (by simp [parts])
    obtain ⟨vs, hv, hvs, h2⟩ := rep3_cells (evo_rep hrep x) h1.1 h1.2
    exact .cons ⟨rfl, vs, hv, All2.of_get hvs.len fun j c v hc hv => ⟨by obtain ⟨v', e1, e2⟩ := hvs.get hc; rw [hv] at e1; cases e1; exact e2, h2 v (List.mem_of_getElem? hv)⟩⟩
      (ih (by unfold noU parts at hno ⊢; simp only [List.map_cons, List.all_cons, Bool.and_eq_true] at hno; exact hno.2))

theorem op_build (hT : TabOK P T) {g : Nat → PV} {a : Act} (hrep : ∀ t, rep3 rd L s (g t) (a.tmps.getD t undef)) (hw : WOk rd L s w) (hg : Grows F rd L s w) {o : Oper} {t : TypeId} {ps : Array (Nat × Operand)} (ho : o.op = .build t ps) {k : K}
    (h : opVC T o g s k) : OpRes P F rd L s w a o k := by
  unfold opVC at h
  rw [ho] at h
  dsimp only at h
  have fin : ∀ {place : Nat → Option (Nat × Nat)} {zero cs : List PV} {z : Value}, All2 (fun p v => ∀ rd, RepP rd p v) zero z.cells.toList → noU (parts g ps.toList) = true → fillV place zero (parts g ps.toList) = some cs → k (.agg cs) [] →
      (∀ cells, Instr.fill place z.cells (ps.map fun (i, x) => (i, a.eval x)).toList = some cells → P.built t (ps.map fun (i, x) => (i, a.eval x)).toList = some cells) → OpRes P F rd L s w a o k := by
    intro place zero cs z hz hno hf hk hb
    obtain ⟨out, h1, h2⟩ := fill_ok (parts_ok hrep hno) (hz.imp fun _ _ h => ⟨rep1_of_P (h rd), (h rd).oneCell⟩) hf
    have hr := run_build (P := P) w t (ps.map fun (i, x) => (i, a.eval x)) out.toArray (hb _ (by simpa using h1))
    refine OpRes.pure hw hg hk (val := .agg out.toArray) ?_ ⟨out, rfl, h2.imp fun _ _ h => h.1, fun u hu => ?_⟩
    · simp only [execOp, ho, Sem.run_bind, hr, Result.andThen]; rfl
    · obtain ⟨p, hp⟩ := h2.any u hu
      exact hp.2
  split at h
  · rename_i fs n ag zero eq hl
    split at h
    · rename_i cs hf
      have hr := hT _ _ hl
      obtain ⟨i, z, hi, hsz, hpos, _, hz, hzz, _⟩ := hr.info
      obtain ⟨_, fields, hfl, hk⟩ := hr.ti
      have hlen := hr.len fs rfl fields hfl
      refine fin hzz h.1 hf h.2 fun cells hc => ?_
      have hm : fields.toList.mapM (fun f => (P.info? f.type).map fun i => (f.offset, i.size)) = some (fs.map fun f => (f.1, f.2.1)) := by
        refine mapM_some_of_get _ _ (by simp [hlen]) fun k x hx => ?_
        have hkl : k < fs.length := by
          have := (List.getElem?_eq_some_iff.1 hx).1
          rw [hlen]; simpa using this
        obtain ⟨⟨off, n, ag⟩, hq⟩ : ∃ q, fs[k]? = some q := ⟨_, List.getElem?_eq_getElem hkl⟩
        obtain ⟨f, i', d, h1, h2, h3, h4, _⟩ := hk k off n ag hq
        have : x = f := by
          have h5 : fields.toList[k]? = some f := by simpa using h1
          rw [hx] at h5; cases h5; rfl
        subst this
        simp [h3, h2, h4, hq]
      simp only [Program.built, hi, hfl, hz, hm]
      rw [← hc]
      congr 1
      funext j
      simp
    · exact h.elim
  · rename_i len n ag n' ag' zero eq hl
    split at h
    · rename_i cs hf
      have hr := hT _ _ hl
      obtain ⟨i, z, hi, hsz, hpos, _, hz, hzz, _⟩ := hr.info
      obtain ⟨_, e, ie, d, he, hie, hsize, _⟩ := hr.ti
      refine fin hzz h.1 hf h.2 fun cells hc => ?_
      simp only [Program.built, hi, he, hz, hie, hsize]
      exact hc
    · exact h.elim
  · exact h.elim
end
section
variable {P : Program} {T : Tab} {F : Fr} {rd : Rd} {L : Lay} {s s1 : Objs} {w : World}

theorem flat_inv {es : List (List PV)} {sz : Nat} (h : ∀ x ∈ es, x.length = sz) : ∀ {q : Nat} {c : PV}, es.flatten[q]? = some c → ∃ i j e, q = i * sz + j ∧ es[i]? = some e ∧ e[j]? = some c := by
  induction es with
  | nil => intro q c h1; simp at h1
  | cons x es ih =>
    intro q c h1
    have hx := h x (by simp)
    simp only [List.flatten_cons, List.getElem?_append] at h1
    split at h1
    · exact ⟨0, q, x, by omega, rfl, h1⟩
    · obtain ⟨i, j, e, h2, h3, h4⟩ := ih (fun y hy => h y (by simp [hy])) h1
      exact ⟨i + 1, j, e, by rw [Nat.succ_mul]; omega, by simpa using h3, h4⟩

theorem sl_flat {own : Option TypeId} {sz : Nat} {es : List (List PV)} {v : Value} (h : RepP rd (.sl own sz es) v) : ∃ (xs : List Value) (a : Option Addr) (cap : Nat), v = .slice a es.length cap ∧ All2 (RepP rd) es.flatten xs ∧
    (∀ x ∈ es, x.length = sz) ∧ es.length ≤ cap ∧ cap ≤ maxLen ∧ (a = none → cap = 0) ∧ (es ≠ [] → ∃ b o, a = some ⟨b, o, none⟩ ∧ ∀ (j : Nat) x, xs[j]? = some x → rd ⟨b, o + j, none⟩ = some x) := by
  generalize hp : PV.sl own sz es = p at h
  cases h with
  | sl hcap hmax hnone ha hsz hrd hrep =>
    rename_i own' sz' es' a cap b o u
    cases hp
    refine ⟨(List.range es.flatten.length).map (fun j => (rd ⟨b, o + j, none⟩).getD undef), a, cap, rfl, All2.of_get (by simp) fun q c v hc hv => ?_, hsz, hcap, hmax, hnone, fun hne => ⟨b, o, ha hne, fun j x hx => ?_⟩⟩
    · obtain ⟨i, j, e, rfl, h1, h2⟩ := flat_inv hsz hc
      rw [List.getElem?_map, List.getElem?_range (List.getElem?_eq_some_iff.1 hc).1] at hv
      simp only [Option.map_some, hrd i e j c h1 h2, Option.getD_some, Option.some.injEq] at hv
      rw [← hv]
      exact hrep i e j c h1 h2
    · rw [List.getElem?_map] at hx
      obtain ⟨q, hq, rfl⟩ := Option.map_eq_some_iff.1 hx
      have hj : j < es.flatten.length := by simpa using (List.getElem?_eq_some_iff.1 hq).1
      rw [List.getElem?_range hj] at hq
      cases hq
      obtain ⟨i, k, e, rfl, h1, h2⟩ := flat_inv hsz (List.getElem?_eq_getElem hj)
      rw [hrd i e k _ h1 h2]; rfl
  | _ => cases hp

theorem flat_rep {l : List PV} {n : Nat} : ∀ {q : Nat}, q < n * l.length → ((List.replicate n l).flatten)[q]? = l[q % l.length]? := by
  intro q hq
  have hpos : 0 < l.length := by
    rcases Nat.eq_zero_or_pos l.length with h | h
    · rw [h] at hq; simp at hq
    · exact h
  have hi : q / l.length < n := (Nat.div_lt_iff_lt_mul hpos).2 hq
  have hm := Nat.mod_lt q hpos
  have h1 : (List.replicate n l)[q / l.length]? = some l := by rw [List.getElem?_replicate, if_pos hi]
  have h2 : l[q % l.length]? = some l[q % l.length] := List.getElem?_eq_getElem hm
  have := flat_get (es := List.replicate n l) (sz := l.length) (fun x hx => by rw [(List.mem_replicate.1 hx).2]) h1 h2
  rw [h2, ← this]
  congr 1
  have := Nat.div_add_mod q l.length
  rw [Nat.mul_comm]; exact this.symm

theorem zeros_ok {zero : List PV} {z : Array Value} {n sz : Nat} (hz : All2 (fun p v => ∀ rd, RepP rd p v) zero z.toList) (hs : z.size = sz) (hpos : 0 < sz) :
    All2 (fun p v => ∀ rd, RepP rd p v) ((List.replicate n zero).flatten) ((Array.range (n * sz)).map (z[· % z.size]!)).toList := by
  have hl : zero.length = sz := by rw [hz.len]; simpa using hs
  refine All2.of_get ?_ fun q c v hc hv => ?_
  · rw [flat_len (sz := sz) (fun x hx => by rw [(List.mem_replicate.1 hx).2]; exact hl)]; simp
  · have hq : q < n * zero.length := by
      have := (List.getElem?_eq_some_iff.1 hc).1
      rwa [flat_len (sz := zero.length) (fun x hx => by rw [(List.mem_replicate.1 hx).2]), List.length_replicate] at this
    rw [flat_rep hq, hl] at hc
    obtain ⟨v', h1, h2⟩ := hz.get hc
    have h3 : v = v' := by
      simp only [Array.toList_map, List.getElem?_map, Array.toList_range] at hv
      rw [List.getElem?_range (by rw [← hl]; exact hq)] at hv
      simp only [Option.map_some, Option.some.injEq, hs] at hv
      rw [← hv]
      have h4 : q % sz < z.size := by rw [hs]; exact Nat.mod_lt _ hpos
      rw [getElem!_pos z _ h4]
      have h5 : z.toList[q % sz]? = some z[q % sz] := by rw [List.getElem?_eq_getElem (by simpa using h4)]; simp
      rw [h1] at h5; cases h5; rfl
    rw [h3]; exact h2

theorem chunks_flat {sz : Nat} : ∀ (n : Nat) (l : List PV), l.length = n * sz → (chunks sz n l).flatten = l ∧ (chunks sz n l).length = n ∧ ∀ x ∈ chunks sz n l, x.length = sz
  | 0, l, h => by
    simp only [Nat.zero_mul] at h
    have := List.eq_nil_of_length_eq_zero h
    subst this
    simp [chunks]
  | n + 1, l, h => by
    rw [Nat.succ_mul] at h
    obtain ⟨h1, h2, h3⟩ := chunks_flat (sz := sz) n (l.drop sz) (by rw [List.length_drop]; omega)
    refine ⟨?_, ?_, ?_⟩
    · simp only [chunks, List.flatten_cons, h1, List.take_append_drop]
    · simp only [chunks, List.length_cons, h2]
    · intro x hx
      simp only [chunks, List.mem_cons] at hx
      rcases hx with rfl | hx
      · rw [List.length_take]; omega
      · exact h3 x hx

theorem fillV_len {place : Nat → Option (Nat × Nat)} : ∀ {ps : List (Nat × PV)} {cs out : List PV}, fillV place cs ps = some out → out.length = cs.length
  | [], cs, out, h => by cases h; rfl
  | (i, p) :: ps, cs, out, h => by
    simp only [fillV] at h
    cases hp : place i with
    | none => rw [hp] at h; cases h
    | some q =>
      obtain ⟨off, size⟩ := q
      rw [hp] at h
      dsimp only at h
      cases hb : (Nat.beq p.cells.length size && Nat.ble (off + size) cs.length) with
      | false => rw [hb] at h; cases h
      | true =>
        rw [hb] at h
        simp only [cond_true] at h
        simp only [Bool.and_eq_true] at hb
        have e1 := Nat.eq_of_beq_eq_true hb.1
        have e2 := Nat.le_of_ble_eq_true hb.2
        rw [fillV_len h]
        simp only [splice, List.length_append, List.length_take, List.length_drop]
        omega

theorem shareP_ok {g : Nat → PV} {a : Act} {ps : List (Nat × Operand)} : ∀ {rd : Rd} {s1 : Objs} (_ : Fz s s1) (_ : WOk rd L s1 w) (_ : Grows F rd L s1 w) (_ : ∀ t, rep3 rd L s1 (g t) (a.tmps.getD t undef)) {k : List (Nat × PV) → List (Nat × Obj) → Prop} (_ : shareP s (parts g ps) k),
    ∃ qs u rd1, k qs u ∧ FzU s u ∧ Stp F rd L s1 rd1 L (ov u s1) w ∧ All2 (fun p v => p.1 = v.1 ∧ ∃ l : List Value, v.2.cells = l.toArray ∧ All2 (RepP rd1) p.2.cells l) qs (ps.map fun (i, x) => (i, a.eval x)) := by
  induction ps with
  | nil => intro rd s1 hz hw hg hrep k h; exact ⟨[], [], rd, h, FzU.nil s, Stp.refl hw hg, .nil⟩
  | cons p ps ih =>
    intro rd s1 hz hw hg hrep k h
    obtain ⟨i, x⟩ := p
    have hx := evo_rep hrep x
    simp only [parts, List.map_cons, shareP] at h
    have hx2 : rep2 rd L s1 (evo g x) (a.eval x) := by
      cases hp : evo g x with
      | tup l => rw [hp] at h; exact h.elim
      | _ => rw [hp] at hx; exact hx
    obtain ⟨q, u, rd1, h1, hu, hst, _, hq⟩ := share2_ok hz hw hg hx2 h
    obtain ⟨qs, u2, rd2, h2, hu2, hst2, hqs⟩ := ih (hz.ov hu) hst.ok hst.gr (fun t => rep3_mono hst.le hst.obj (hrep t)) h1
    refine ⟨_, _, rd2, h2, hu.append hu2, ?_, .cons ⟨rfl, ?_⟩ hqs⟩
    · rw [hu.swap hu2]
      exact hst.trans hst2
    · obtain ⟨l, h3, h4⟩ := hq
      exact ⟨l, h3, h4.imp fun _ _ h => h.mono hst2.le⟩

theorem fzu_none {u : List (Nat × Obj)} (hu : FzU s u) {id : Nat} (hs : s id = none) : ov u s id = none := by
  simp only [ov]
  cases hl : look u id with
  | none => exact hs
  | some o => obtain ⟨e, sz, es, fr, h1, _⟩ := hu id o hl; rw [hs] at h1; cases h1

/-- A new row. -/
theorem newrow_ok (hw : WOk rd L s w) (hg : Grows F rd L s w) {w' : World} {id e sz : Nat} {es : List (List PV)} {v : Value} {xs : List Value} (hid : id % 1000 ≠ 500) (hs : s id = none)
    (hown : w'.ownsRow 0 e sz v es.length xs) (hgr : w.grownBy w' none) (hdr : w.drawn ≤ w'.drawn) (hv : ∀ b, v.ownBlock = some b → w.heap.size ≤ b) (hxs : All2 (RepP rd) es.flatten xs) (hsz : ∀ x ∈ es, x.length = sz) :
    Stp F rd L s rd (L.setSv id v) (ov [(id, .row e sz es false)] s) w' ∧ rep3 rd (L.setSv id v) (ov [(id, .row e sz es false)] s) (.ls id es.length) v := by
  refine ⟨row_ok hw hg (row := none) hown hgr hdr (fun b h => by cases h) (fun b h => .inr (hv b h)) hxs hsz (fun b h => by cases h) (fun b h => by cases h) (objLe_new hs (L.setSv_ne id v)) (fun h => hid (F.pin5 id h)), ?_⟩
  refine ⟨fun e' sz' es' fr' h _ => by simp [Lay.setSv], fun e' sz' es' fr' h => ?_, ?_, by rw [ov_at]; simp⟩
  · rw [ov_at] at h; cases h; exact Nat.le_refl _
  · rcases hown.2 with ⟨h, h0⟩ | ⟨g, cap, cur, h, _⟩
    · exact ⟨none, 0, by rw [h0]; exact h⟩
    · exact ⟨_, _, h⟩

theorem op_buildSlice (hT : TabOK P T) {g : Nat → PV} {a : Act} (hrep : ∀ t, rep3 rd L s (g t) (a.tmps.getD t undef)) (hw : WOk rd L s w) (hg : Grows F rd L s w) {o : Oper} {t : TypeId} {len : Nat} {ps : Array (Nat × Operand)} (ho : o.op = .buildSlice t len ps) {k : K}
    (h : opVC T o g s k) : OpRes P F rd L s w a o k := by
  unfold opVC at h
  rw [ho] at h
  dsimp only at h
  split at h
  · rename_i e n ag zr eq hl
    split at h
    · rename_i r hle
      obtain ⟨qs, u, rd1, h1, hu, hst, hqs⟩ := shareP_ok (Fz.refl s) hw hg hrep h
      split at h1
      · rename_i cs hf
        obtain ⟨hs, hlen, hk⟩ := h1
        have hlen := Nat.le_of_ble_eq_true hlen
        have hte := (hT _ _ hl).ti
        have hre := hT _ _ hle
        obtain ⟨i, z, hi, hsz, hpos, _, hz, hzz, hzs⟩ := hre.info
        have hzo := zeros_ok (n := len) hzz hzs hpos
        obtain ⟨out, h2, h3⟩ := fill_ok (R := RepP rd1) hqs (hzo.imp fun _ _ h => h rd1) hf
        have hcl : cs.length = len * r.n := by
          rw [fillV_len hf, flat_len (sz := r.n) (fun x hx => by rw [(List.mem_replicate.1 hx).2, hzz.len]; simpa using hzs), List.length_replicate]
        obtain ⟨c1, c2, c3⟩ := chunks_flat len cs hcl
        have hol : out.length = len * r.n := by rw [← h3.len]; exact hcl
        have hown := World.ownsRow_lit (base := 0) (e := e) (size := r.n) w out.toArray len (Nat.zero_le _) (by have : len ≤ len * r.n := Nat.le_mul_of_pos_right _ hpos; unfold maxLen; omega) (by simpa using hol)
        have hnew := newrow_ok (id := rb o.dst) hst.ok hst.gr (es := chunks r.n len cs) (rb_ne _) (fzu_none hu hs) (by rw [c2]; exact hown) (World.grownBy_alloc w _ none) (Nat.le_refl _) (fun b hb => by simp [Value.ownBlock] at hb; omega) (by rw [c1]; simpa using h3) c3
        have hst2 := hst.trans hnew.1
        rw [← ov_append] at hst2 hnew
        refine ⟨_, _, rd1, _, _, _, _, hk, ?_, .inl rfl, by rw [c2] at hnew; exact hnew.2, hst2⟩
        by_cases h0 : len * r.n = 0
        · have hl0 : len = 0 := by
            rcases Nat.mul_eq_zero.1 h0 with h | h
            · exact h
            · omega
          subst hl0
          simp only [Nat.zero_mul] at h2
          have : (ps.map fun (i, x) => (i, a.eval x)).toList = ps.toList.map fun (i, x) => (i, a.eval x) := by simp
          simp [execOp, ho, Instr.buildSlice, run_underlying hte, sizeOf, typeInfo, hi, hsz]
          simp at h2
          simp [h2, newRow, show (Array.range 0) = (#[] : Array Nat) from rfl]
        · have hr := run_buildSlice (P := P) w t e len (ps.map fun (i, x) => (i, a.eval x)) out.toArray i z hte hi hz (by rw [hsz]; omega) (by rw [hsz]; exact h0) (by rw [hsz, Array.toList_map]; rw [Array.toArray_toList] at h2; exact h2)
          simp only [execOp, ho, Sem.run_bind, hr, Result.andThen]
          rfl
      · exact h1.elim
    · exact h.elim
  · exact h.elim
end
end Go.Vi
end
