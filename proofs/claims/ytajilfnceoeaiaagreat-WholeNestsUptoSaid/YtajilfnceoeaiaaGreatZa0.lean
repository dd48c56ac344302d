/- Parts of the proof: A calculus for function bodies: 'WP' turns a body, its results wanted, into a plain proposition over numbers, cells and worlds; 'call_of' says that this proposition is enough for a call, The calculus of V is sound: the operations, The calculus of V is sound: regions in their own order, The calculus of V is sound: regions that draw their order, The calculus of V is sound: bodies and calls, Words ov. -/
import Derived.Test.YtajilfnceoeaiaaGreatProg
import Derived.WalkKit
import Derived.OrdersHeld
import Derived.Scope
import Derived.Conc.LoneSelect
import Derived.Conc.LoneCalls
import Derived.Great.BuildSlice
set_option linter.unusedVariables false
set_option linter.unusedSimpArgs false
/- A calculus for function bodies: 'WP' turns a body, its results wanted, into a plain proposition over numbers, cells and worlds; 'call_of' says that this proposition is enough for a call. -/
namespace Go.Proofs.YtajilfnceoeaiaaGreat.V
open Go

abbrev Env := List Value
/-- What one cell holds. -/
inductive C1 where
  | ki (k : IntKind)
  | kb
  | ks
  | kp
  | km
  | kc
  | kv
structure Sl where
  a : Option Addr
  n : Nat
  c : Nat
abbrev C1.T : C1 → Type
  | .ki _ => Int
  | .kb => Bool
  | .ks => Sl
  | .kp => Option Addr
  | .km => Option Nat
  | .kc => Option Nat
  | .kv => Value
def C1.val : (c : C1) → c.T → Value
  | .ki k, n => .int k n
  | .kb, b => .bool b
  | .ks, s => .slice s.a s.n s.c
  | .kp, a => .pointer a
  | .km, r => .map r
  | .kc, r => .chan r
  | .kv, v => v
def C1.un : (c : C1) → Value → Option c.T
  | .ki k, .int k' n => if k = k' then some n else none
  | .kb, .bool b => some b
  | .ks, .slice a n c => some ⟨a, n, c⟩
  | .kp, .pointer a => some a
  | .km, .map r => some r
  | .kc, .chan r => some r
  | .kv, v => some v
  | _, _ => none
theorem C1.un_val (c : C1) (v : Value) (x : c.T) (h : c.un v = some x) : v = c.val x := by
  cases c <;> cases v <;> simp_all [C1.un, C1.val]
  all_goals (first | (obtain ⟨rfl, rfl⟩ := h; exact ⟨rfl, rfl⟩) | (subst h; exact ⟨rfl, rfl, rfl⟩) | skip)
def Cur (ρ : Type) : List C1 → Type
  | [] => ρ
  | c :: cs => c.T → Cur ρ cs
def lam {ρ : Type} : (cs : List C1) → (List Value → ρ) → Cur ρ cs
  | [], k => k []
  | c :: cs, k => fun x => lam cs fun vs => k (c.val x :: vs)
def apl {ρ : Type} (d : ρ) : (cs : List C1) → Cur ρ cs → List Value → ρ
  | [], f, [] => f
  | c :: cs, f, v :: vs => match c.un v with
    | some x => apl d cs (f x) vs
    | none => d
  | _, _, _ => d
def exK : (cs : List C1) → Cur (World → Prop) cs → (List Value → Prop) → World → Prop
  | [], K, r, w => r [] ∧ K w
  | c :: cs, K, r, w => ∃ x, exK cs (K x) (fun vs => r (c.val x :: vs)) w
def allC : (cs : List C1) → (List Value → Prop) → Prop
  | [], k => k []
  | c :: cs, k => ∀ x : c.T, allC cs fun vs => k (c.val x :: vs)
structure Sh where
  agg : Bool
  cs : List C1
def flat : List Sh → List C1
  | [] => []
  | s :: r => s.cs ++ flat r
def asm : List Sh → List Value → List Value
  | [], _ => []
  | s :: r, vs => (match s.agg with | true => Value.agg (vs.take s.cs.length).toArray | false => vs.headD undef) :: asm r (vs.drop s.cs.length)
def mk (sh : List Sh) (vs : List Value) : Value := match asm sh vs with
  | [v] => v
  | l => .tuple l.toArray
theorem exK_lam : ∀ (cs : List C1) (k : List Value → World → Prop) (r : List Value → Prop) (w : World), exK cs (lam cs k) r w → ∃ vs, r vs ∧ k vs w
  | [], k, r, w, h => ⟨[], h⟩
  | c :: cs, k, r, w, ⟨x, h⟩ => by
    obtain ⟨vs, h1, h2⟩ := exK_lam cs _ _ w h
    exact ⟨_, h1, h2⟩
/-- A call ends in a value of that shape, of which, with the world behind it, K holds. -/
def Call (P : Program) (f : FuncId) (args : List Value) (sh : List Sh) (K : Cur (World → Prop) (flat sh)) (w : World) : Prop :=
  Calls P f args.toArray w fun e w' => exK (flat sh) K (fun vs => e = .returned (mk sh vs)) w'

/-! ### The operations -/
def cellOf : Value → C1
  | .int k _ => .ki k
  | .bool _ => .kb
  | .slice .. => .ks
  | .pointer _ => .kp
  | .map _ => .km
  | .chan _ => .kc
  | _ => .kv
def WithAddr (p : Option Addr) (K : Addr → Prop) : Prop := match p with
  | some a => K a
  | none => False
def If (b : Bool) (x y : Prop) : Prop := match b with
  | true => x
  | false => y
def Ld (c : C1) (a : Addr) (K : c.T → World → Prop) (w : World) : Prop := ∃ x, w.cell? a = some (c.val x) ∧ K x w
def LdN : (cs : List C1) → Nat → Addr → Cur (World → Prop) cs → World → Prop
  | [], _, _, K, w => K w
  | c :: cs, i, a, K, w => Ld c (a.add i) (fun x => LdN cs (i + 1) a (K x)) w
def St (a : Addr) (v : Value) (K : World → Prop) (w : World) : Prop := (∃ u, w.cell? a = some u) ∧ w.frozen? a = false ∧ K (w.setCell a v)
def StN : List Value → Nat → Addr → (World → Prop) → World → Prop
  | [], _, _, K, w => K w
  | v :: vs, i, a, K, w => St (a.add i) v (StN vs (i + 1) a K) w
def New (cs : List Value) (t : TypeId) (K : Addr → World → Prop) (w : World) : Prop := K ⟨w.heap.size, 0, none⟩ (w.alloc (.cells cs.toArray t))
section
variable (P : Program)
/-- A piece of the machine's own: it ends in a value of that shape. -/
def Sm (s : Sem Value) (sh : List Sh) (K : Cur (World → Prop) (flat sh)) (w : World) : Prop := ∃ w', exK (flat sh) K (fun vs => s.run P w = .ok (mk sh vs) w') w'
def SmU (s : Sem Unit) (K : World → Prop) (w : World) : Prop := ∃ w', s.run P w = .ok () w' ∧ K w'
def shOf (t : TypeId) : Sh := match P.info? t with
  | some i => (match i.zero with
    | some (.agg cs) => ⟨true, cs.toList.map cellOf⟩
    | some v => ⟨false, [cellOf v]⟩
    | none => ⟨false, [.kv]⟩)
  | none => ⟨false, [.kv]⟩
/-- The parts of a value of a tuple's type; else the one. -/
def shsOf (t : TypeId) : List Sh := match P.underlying t with
  | some (.tuple ts) => ts.toList.map (shOf P)
  | _ => [shOf P t]
def isAggT (t : TypeId) : Option Bool := match P.underlying t with
  | some (.struct _) => some true
  | some (.array _ _) => some true
  | some _ => some false
  | none => none
def sizeT (t : TypeId) : Option Nat := (P.info? t).map (·.size)
def fieldOff (t : TypeId) (f : Nat) : Option (TypeId × Nat) := match P.underlying t with
  | some (.struct fs) => (match fs.toList[f]? with
    | some fd => some (fd.type, fd.offset)
    | none => none)
  | _ => none
def maxV (k : IntKind) : Int → List Value → Option Int
  | x, [] => some x
  | x, .int k' y :: r => if k = k' then maxV k (if y > x then y else x) r else none
  | _, _ => none
def minV (k : IntKind) : Int → List Value → Option Int
  | x, [] => some x
  | x, .int k' y :: r => if k = k' then minV k (if y < x then y else x) r else none
  | _, _ => none
def bv (op : BinOp) (t : TypeId) (x y : Value) : Option Value := match op, x, y with
  | .add, .int k a, .int k' b => if k = k' then some (.int k (k.wrap (a + b))) else none
  | .sub, .int k a, .int k' b => if k = k' then some (.int k (k.wrap (a - b))) else none
  | .mul, .int k a, .int k' b => if k = k' then some (.int k (k.wrap (a * b))) else none
  | .eql, .int k a, .int k' b => if k = k' then some (.bool (a == b)) else none
  | .neq, .int k a, .int k' b => if k = k' then some (.bool (a != b)) else none
  | .lss, .int k a, .int k' b => if k = k' then some (.bool (decide (a < b))) else none
  | .leq, .int k a, .int k' b => if k = k' then some (.bool (decide (a ≤ b))) else none
  | .gtr, .int k a, .int k' b => if k = k' then some (.bool (decide (a > b))) else none
  | .geq, .int k a, .int k' b => if k = k' then some (.bool (decide (a ≥ b))) else none
  | .shl, .int k a, .int _ b => if b < 0 then none else some (.int k (k.wrap (a * 2 ^ (min b.toNat k.bits))))
  | .shr, .int k a, .int _ b => if b < 0 then none else some (.int k (a.fdiv (2 ^ (min b.toNat k.bits))))
  | .eql, .pointer a, .pointer none => (match P.underlying t with
    | some (.pointer _) => some (.bool a.isNone)
    | _ => none)
  | .neq, .pointer a, .pointer none => (match P.underlying t with
    | some (.pointer _) => some (.bool !a.isNone)
    | _ => none)
  | .eql, .slice a _ _, .slice none 0 0 => (match P.underlying t with
    | some (.slice _) => some (.bool a.isNone)
    | _ => none)
  | .neq, .slice a _ _, .slice none 0 0 => (match P.underlying t with
    | some (.slice _) => some (.bool !a.isNone)
    | _ => none)
  | _, _, _ => none
/-- The value of an operation that asks nothing of the world and cannot fail. -/
def pv (ρ : Operand → Value) (o : Oper) : Option Value := match o.op with
  | .move x => some (ρ x)
  | .assign x => some (ρ x)
  | .pick c a b => (match ρ c with
    | .bool true => some (ρ a)
    | .bool false => some (ρ b)
    | _ => none)
  | .unOp .not _ x => (match ρ x with
    | .bool b => some (.bool !b)
    | _ => none)
  | .unOp .neg _ x => (match ρ x with
    | .int k n => some (.int k (k.wrap (0 - n)))
    | _ => none)
  | .extract x i => (match ρ x with
    | .tuple vs => vs.toList[i]?
    | _ => none)
  | .makeFunc fn first cap => some (.func fn (first.toList.map ρ).toArray (cap.toList.map ρ).toArray)
  | .binOp op t x y _ => bv P op t (ρ x) (ρ y)
  | .convert s d x => (match P.underlying s, P.underlying d, ρ x with
    | some (.int _), some (.int k), .int _ n => some (.int k (k.wrap n))
    | _, _, _ => none)
  | .field t x f => (match ρ x, fieldOff P t f with
    | .agg cs, some (ft, off) => (match isAggT P ft, sizeT P ft with
      | some true, some n => some (.agg ((cs.toList.drop off).take n).toArray)
      | some false, _ => cs.toList[off]?
      | _, _ => none)
    | _, _ => none)
  | .build t parts => (P.built t (parts.toList.map fun x => (x.1, ρ x.2))).map .agg
  | .call { callee := .builtin .len, args, argTypes } => (match argTypes.toList, args.toList with
    | [t], [x] => (match P.underlying t, ρ x with
      | some (.slice _), .slice _ n _ => some (.int .i64 n)
      | some (.array n _), _ => some (.int .i64 n)
      | _, _ => none)
    | _, _ => none)
  | .call { callee := .builtin .max, args, .. } => (match args.toList.map ρ with
    | .int k x :: r => (maxV k x r).map (.int k)
    | _ => none)
  | .call { callee := .builtin .min, args, .. } => (match args.toList.map ρ with
    | .int k x :: r => (minV k x r).map (.int k)
    | _ => none)
  | _ => none
def elemT (t : TypeId) : Option TypeId := match P.underlying t with
  | some (.slice e) => some e
  | _ => none
def mapT (t : TypeId) : Option TypeId := match P.underlying t with
  | some (.map _ e) => some e
  | _ => none
/-- What a piece of the machine's own is run, and the shape of what it gives. -/
def semOf (ρ : Operand → Value) (o : Oper) : Option (Sem Value × List Sh) := match o.op with
  | .lookup t x i ok => (mapT P t).map fun e => (Instr.lookup t (ρ x) (ρ i) ok, match ok with
    | true => [shOf P e, ⟨false, [.kb]⟩]
    | false => [shOf P e])
  | .mapEntry t m k => (mapT P t).map fun e => (Instr.mapEntry t (ρ m) (ρ k), [shOf P e, ⟨false, [.ki .i64]⟩])
  | .makeMap t none => some (Instr.makeMap t none, [⟨false, [.km]⟩])
  | .makeChan t s => some (Instr.makeChan t (ρ s), [⟨false, [.kc]⟩])
  | .makeSlice t l c => some (Instr.makeSlice t (ρ l) (ρ c), [⟨false, [.ks]⟩])
  | .slice t x lo hi mx => some (Instr.sliceAt t (ρ x) (lo.map ρ) (hi.map ρ) (mx.map ρ), [⟨false, [.ks]⟩])
  | .range t x => some (Instr.range t (ρ x), [⟨false, [.kp]⟩])
  | .entry x => some (Instr.entry (ρ x), [⟨false, [.ki .i64]⟩, ⟨true, [.ki .i64, .ki .i64, .ki .i64, .ki .i64, .ki .i64, .kb]⟩])
  | .index t x i => some (Instr.index t (ρ x) (ρ i), [shOf P o.type])
  | .binOp op t x y _ => some (do eqGuard op t x y (ρ x) (ρ y); binOp op t (ρ x) (ρ y), [⟨false, [.kb]⟩])
  | .call { callee := .builtin .append, args, argTypes } => some (Builtin.append_ argTypes o.type (args.toList.map ρ).toArray, [⟨false, [.ks]⟩])
  | .call { callee := .builtin .copy, args, argTypes } => some (Builtin.copy_ argTypes o.type (args.toList.map ρ).toArray, [⟨false, [.ki .i64]⟩])
  | .call { callee := .builtin .delete, args, argTypes } => some (Builtin.delete_ argTypes o.type (args.toList.map ρ).toArray, [])
  | .call { callee := .builtin .clear, args, argTypes } => some (Builtin.clear_ argTypes o.type (args.toList.map ρ).toArray, [])
  | .call { callee := .builtin .len, args, argTypes } => some (Builtin.len_ argTypes o.type (args.toList.map ρ).toArray, [⟨false, [.ki .i64]⟩])
  | .call { callee := .builtin .cap, args, argTypes } => some (Builtin.cap_ argTypes o.type (args.toList.map ρ).toArray, [⟨false, [.ki .i64]⟩])
  | _ => none
/-- The next entry of a map that is ranged over, or that there is none. -/
def Nxt (it : Value) (t : TypeId) (K : Value → World → Prop) (w : World) : Prop :=
  (∃ w', (Instr.next it false t).run P w = .ok (.tuple #[.bool false]) w' ∧ K (.tuple #[.bool false]) w') ∨
  (∃ k v w', (Instr.next it false t).run P w = .ok (.tuple #[.bool true, k, v]) w' ∧ K (.tuple #[.bool true, k, v]) w')
def opV (ρ : Operand → Value) (o : Oper) (K : Value → World → Prop) (w : World) : Prop := match pv P ρ o with
  | some v => K v w
  | none => match o.op with
    | .nilCheck x => (match ρ x with
      | .pointer p => WithAddr p fun a => K (.pointer (some a)) w
      | .func (.func f) a b => K (.func (.func f) a b) w
      | _ => False)
    | .fieldAddr t x f => (match ρ x, fieldOff P t f with
      | .pointer p, some (ft, off) => (match sizeT P ft with
        | some (_ + 1) => WithAddr p fun a => K (.pointer (some (a.add off))) w
        | _ => False)
      | _, _ => False)
    | .indexAddr t x ix => (match P.underlying t, ρ x, ρ ix with
      | some (.slice e), .slice base n _, .int _ i => (match sizeT P e with
        | some sz => (0 ≤ i ∧ i < (n : Int)) ∧ WithAddr base fun a => K (.pointer (some (a.add (i.toNat * sz)))) w
        | none => False)
      | some (.array n e), .pointer p, .int _ i => (match sizeT P e with
        | some sz => (0 ≤ i ∧ i < (n : Int)) ∧ WithAddr p fun a => K (.pointer (some (a.add (i.toNat * sz)))) w
        | none => False)
      | _, _, _ => False)
    | .load t x => (match ρ x, isAggT P t, shOf P t with
      | .pointer p, some true, sh => (match sizeT P t == some sh.cs.length with
        | true => WithAddr p fun a => LdN sh.cs 0 a (lam sh.cs fun vs => K (.agg vs.toArray)) w
        | false => False)
      | .pointer p, some false, ⟨_, [c]⟩ => WithAddr p fun a => Ld c a (fun x => K (c.val x)) w
      | _, _, _ => False)
    | .store t x v => (match ρ x with
      | .pointer p => (match (ρ v).cells.toList.all Value.oneCell' && (sizeT P t == some (ρ v).cells.toList.length) with
        | true => WithAddr p fun a => StN (ρ v).cells.toList 0 a (K undef) w
        | false => False)
      | _ => False)
    | .alloc t => (match (P.info? t).bind (·.zero) with
      | some z => New z.cells.toList t (fun a => K (.pointer (some a))) w
      | none => False)
    | .box t x => New (ρ x).cells.toList t (fun a => K (.pointer (some a))) w
    | .binOp .quo _ x y _ => (match ρ x, ρ y with
      | .int k a, .int k' b => (match decide (k = k') with
        | true => b ≠ 0 ∧ K (.int k (k.wrap (a.tdiv b))) w
        | false => False)
      | _, _ => False)
    | .binOp .rem _ x y _ => (match ρ x, ρ y with
      | .int k a, .int k' b => (match decide (k = k') with
        | true => b ≠ 0 ∧ K (.int k (a.tmod b)) w
        | false => False)
      | _, _ => False)
    | .buildSlice t n parts => (match elemT P t with
      | some e => (match n, parts.toList, P.info? e with
        | 0, [], some _ => New [] e (fun a => K (.slice (some a) 0 0)) w
        | n, _, some i => (match i.zero, decide (¬ n * i.size > 2 ^ 24 ∧ ¬ n * i.size = 0) with
          | some z, true => (match Instr.fill (fun j => some (j * i.size, i.size)) ((Array.range (n * i.size)).map (z.cells[· % z.cells.size]!)) (parts.toList.map fun x => (x.1, ρ x.2)) with
            | some cs => New cs.toList e (fun a => K (.slice (some a) n n)) w
            | none => False)
          | _, _ => False)
        | _, _, none => False)
      | none => False)
    | .mapUpdate t m k x => SmU P (Instr.mapUpdate t (ρ m) (ρ k) (ρ x)) (K undef) w
    | .entryStore t m k x => SmU P (Instr.entryStore t (ρ m) (ρ k) (ρ x)) (K undef) w
    | .next it false => Nxt P (ρ it) o.type K w
    | .call { callee := .value f, args, .. } => (match ρ f with
      | .func (.func g) first cap => (match P.funcs[g]? with
        | some fn => (match fn.body.isSome && !(fn.name == "runtime.NumGoroutine") with
          | true => Call P g (first.toList ++ args.toList.map ρ ++ cap.toList) (fn.resultTypes.toList.map (shOf P)) (lam _ fun vs => K (mk (fn.resultTypes.toList.map (shOf P)) vs)) w
          | false => False)
        | none => False)
      | _ => False)
    | _ => (match semOf P ρ o with
      | some (s, sh) => Sm P s sh (lam _ fun vs => K (mk sh vs)) w
      | none => False)
/-- A receive from a channel of the goroutine's own, and a send with a default. -/
def Rv (c : Option Nat) (K : Value → World → Prop) (w : World) : Prop :=
  ∃ r cap buf s n, c = some r ∧ w.heap[r]? = some (.chan cap buf false s n false) ∧ 0 < buf.size ∧ K (buf.getD 0 undef) (w.setChan r cap (buf.extract 1 buf.size) false s (n + 1) false)
def Sel (c : Option Nat) (v : Value) (K L : World → Prop) (w : World) : Prop :=
  ∃ r cap buf s n, c = some r ∧ w.heap[r]? = some (.chan cap buf false s n false) ∧
    (buf.size < cap → K (w.setChan r cap (buf.push v) false (s + 1) n false)) ∧ (cap ≤ buf.size → L w)
def opR (ρ : Operand → Value) (o : Oper) (K : Value → World → Prop) (w : World) : Prop := match o.op with
  | .recv t ch false => (match P.underlying t, ρ ch with
    | some (.chan _ el), .chan c => (match (P.info? el).bind (·.zero) with
      | some _ => Rv c K w
      | none => False)
    | _, _ => False)
  | .select cs false => (match cs.toList with
    | [⟨ch, some x, el⟩] => (match (P.info? el).bind (·.zero), ρ ch with
      | some _, .chan c => Sel c (ρ x) (K (.tuple #[goInt 0, .bool false])) (K (.tuple #[goInt (-1), .bool false])) w
      | _, _ => False)
    | _ => False)
  | _ => opV P ρ o K w
def ev (e : Env) : Operand → Value
  | .tmp t => e.getD t undef
  | .const v => v
  | .global g => .pointer (some ⟨g, 0, none⟩)
  | .func f => .func (.func f) #[] #[]
def putE (e : Env) (d : Option Tmp) (v : Value) : Env := match d with
  | some d => e.set d v
  | none => e
def yl (all : List Oper) (e : Env) (j : Nat) : Option Bool := match all[j]? with
  | some o => (match o.dst with
    | some d => (match e[d]? with
      | some (.bool b) => some b
      | _ => none)
    | none => none)
  | none => none
def wantB (all : List Oper) (e : Env) (o : Oper) : Bool := match o.guard with
  | none => true
  | some (j, want) => (match yl all e j with
    | some b => b == want
    | none => false)
def isG (all : List Oper) (i : Nat) : Bool := all.any fun o => match o.guard with
  | some (j, _) => j == i
  | none => false
def splitV (g : Bool) (v : Value) (k : Value → Prop) : Prop := match g with
  | true => (match v with
    | .bool b => If b (k (.bool true)) (k (.bool false))
    | v => k v)
  | false => k v
def wpR (all : List Oper) : Nat → List Oper → (Env → World → Prop) → Env → World → Prop
  | _, [], K, e, w => K e w
  | i, o :: rest, K, e, w => match wantB all e o with
    | true => opR P (ev e) o (fun v w' => splitV (isG all i) v fun v => wpR all (i + 1) rest K (putE e o.dst v) w') w
    | false => wpR all (i + 1) rest K (putE e o.dst undef) w
/-! ### A region that draws its order: a plan of it, in which what only reads comes first -/
inductive Plan where
  | done
  | take (i : Nat) (p : Plan)
  | run (i : Nat) (p : Plan)
  | run2 (i : Nat) (p : Plan) (j : Nat) (q : Plan)
abbrev Kept := List (Nat × Addr × List Value)
def keepsAt (a : Addr) : Nat → List Value → World → Prop
  | _, [], _ => True
  | i, [v], w => w.cell? (a.add i) = some v
  | i, v :: vs, w => w.cell? (a.add i) = some v ∧ keepsAt a (i + 1) vs w
def unord (all : List Oper) (i j : Nat) : Bool := match all[j]? with
  | some o => !(o.after.toList.any fun e => Region.binds .any e && e.on == i)
  | none => false
def keepK (all : List Oper) (j : Nat) : Kept → Prop → World → Prop
  | [], X, _ => X
  | (i, a, vs) :: r, X, w => match unord all i j with
    | true => keepsAt a 0 vs w ∧ keepK all j r X w
    | false => keepK all j r X w
/-- An operation that asks nothing of the world. -/
def opS (ρ : Operand → Value) (o : Oper) (K : Value → Prop) : Prop := match pv P ρ o with
  | some v => K v
  | none => match o.op with
    | .nilCheck x => (match ρ x with
      | .pointer p => WithAddr p fun a => K (.pointer (some a))
      | .func (.func f) a b => K (.func (.func f) a b)
      | _ => False)
    | .fieldAddr t x f => (match ρ x, fieldOff P t f with
      | .pointer p, some (ft, off) => (match sizeT P ft with
        | some (_ + 1) => WithAddr p fun a => K (.pointer (some (a.add off)))
        | _ => False)
      | _, _ => False)
    | .indexAddr t x ix => (match P.underlying t, ρ x, ρ ix with
      | some (.slice e), .slice base n _, .int _ i => (match sizeT P e with
        | some sz => (0 ≤ i ∧ i < (n : Int)) ∧ WithAddr base fun a => K (.pointer (some (a.add (i.toNat * sz))))
        | none => False)
      | some (.array n e), .pointer p, .int _ i => (match sizeT P e with
        | some sz => (0 ≤ i ∧ i < (n : Int)) ∧ WithAddr p fun a => K (.pointer (some (a.add (i.toNat * sz))))
        | none => False)
      | _, _, _ => False)
    | .binOp op _ x y _ => (match op, ρ x, ρ y with
      | .quo, .int k a, .int k' b => (match decide (k = k') with
        | true => b ≠ 0 ∧ K (.int k (k.wrap (a.tdiv b)))
        | false => False)
      | .rem, .int k a, .int k' b => (match decide (k = k') with
        | true => b ≠ 0 ∧ K (.int k (a.tmod b))
        | false => False)
      | _, _, _ => False)
    | _ => False
def wpP (all : List Oper) : Plan → Kept → (Env → World → Prop) → Env → World → Prop
  | .done, _, K, e, w => K e w
  | .take i p, T, K, e, w => match all[i]? with
    | some o => (match wantB all e o with
      | true => (match o.op with
        | .load t x => (match ev e x, isAggT P t, shOf P t with
          | .pointer q, some true, sh => (match sizeT P t == some sh.cs.length with
            | true => WithAddr q fun a => LdN sh.cs 0 a (lam sh.cs fun vs => wpP all p ((i, a, vs) :: T) K (putE e o.dst (.agg vs.toArray))) w
            | false => False)
          | .pointer q, some false, ⟨_, [c]⟩ => WithAddr q fun a => Ld c a (fun x w => splitV (isG all i) (c.val x) fun v => wpP all p ((i, a, [c.val x]) :: T) K (putE e o.dst v) w) w
          | _, _, _ => False)
        | _ => opS P (ev e) o fun v => splitV (isG all i) v fun v => wpP all p T K (putE e o.dst v) w)
      | false => wpP all p T K (putE e o.dst undef) w)
    | none => False
  | .run i p, T, K, e, w => match all[i]? with
    | some o => (match wantB all e o with
      | true => opV P (ev e) o (fun v w' => keepK all i T (splitV (isG all i) v fun v => wpP all p T K (putE e o.dst v) w') w') w
      | false => wpP all p T K (putE e o.dst undef) w)
    | none => False
  | .run2 i p j q, T, K, e, w => (match all[i]? with
    | some o => (match wantB all e o with
      | true => opV P (ev e) o (fun v w' => keepK all i T (splitV (isG all i) v fun v => wpP all p T K (putE e o.dst v) w') w') w
      | false => wpP all p T K (putE e o.dst undef) w)
    | none => False) ∧ (match all[j]? with
    | some o => (match wantB all e o with
      | true => opV P (ev e) o (fun v w' => keepK all j T (splitV (isG all j) v fun v => wpP all q T K (putE e o.dst v) w') w') w
      | false => wpP all q T K (putE e o.dst undef) w)
    | none => False)
def planOk (ops : Array Oper) : Plan → Array Bool → Bool
  | .done, l => (Region.ready .any ops l).isEmpty
  | .take i p, l => Region.free .any ops l i && (Region.ready .any ops l).contains i && planOk ops p (l.setIfInBounds i true)
  | .run i p, l => (Region.ready .any ops l == [i]) && planOk ops p (l.setIfInBounds i true)
  | .run2 i p j q, l => (Region.ready .any ops l == [i, j]) && planOk ops p (l.setIfInBounds i true) && planOk ops q (l.setIfInBounds j true)
def Plan.sz : Plan → Nat
  | .done => 0
  | .take _ p => p.sz + 1
  | .run _ p => p.sz + 1
  | .run2 _ p _ q => max p.sz q.sz + 1
def planAll (ops : Array Oper) (p : Plan) : Bool := Region.noSelect ops && planOk ops p (Array.replicate ops.size false) && decide (p.sz ≤ ops.size)
/-! ### A body -/
inductive X where
  | normal
  | exit (i : Nat)
  | ret
structure Hints where
  loops : List (Nat × List (Nat × C1))
  joins : List (Nat × List (Nat × C1))
  draws : List (Nat × Plan)
  cuts : List Nat
def firstR : Code → Option Nat
  | .region id _ _ => some id
  | .seq a b => (match firstR a with
    | some r => some r
    | none => firstR b)
  | .block _ c => firstR c
  | .loop c => firstR c
  | .scope c => firstR c
  | .cond _ a b => (match firstR a with
    | some r => some r
    | none => firstR b)
  | _ => none
def dsts : List Oper → List Nat
  | [] => []
  | o :: r => match o.dst with
    | some d => d :: dsts r
    | none => dsts r
def mods : Code → List Nat
  | .region _ ops _ => dsts ops.toList
  | .seq a b => mods a ++ mods b
  | .block _ c => mods c
  | .loop c => mods c
  | .scope c => mods c
  | .cond _ a b => mods a ++ mods b
  | _ => []
def slots : List (Nat × C1) → Env → List Value
  | [], _ => []
  | (d, _) :: r, e => e.getD d undef :: slots r e
def kinds : List (Nat × C1) → List C1
  | [] => []
  | (_, c) :: r => c :: kinds r
def wr : List (Nat × C1) → List Value → Env → Env
  | (d, _) :: r, v :: vs, e => wr r vs (e.set d v)
  | _, _, e => e
def junk (js : Nat → Value) : List Nat → Env → Env
  | [], e => e
  | d :: r, e => junk js r (e.set d (js d))
def findH (r : Option Nat) : List (Nat × List (Nat × C1)) → Option (List (Nat × C1))
  | [] => none
  | (i, x) :: l => match r with
    | some r => (match r == i with
      | true => some x
      | false => findH (some r) l)
    | none => none
def isCut (r : Option Nat) : List Nat → Bool
  | [] => false
  | i :: l => match r with
    | some r => (match r == i with
      | true => true
      | false => isCut (some r) l)
    | none => false
def findP (r : Nat) : List (Nat × Plan) → Option Plan
  | [] => none
  | (i, x) :: l => match r == i with
    | true => some x
    | false => findP r l
def act (e : Env) : Act := { tmps := e.toArray, defers := [] }
def agree (ds : List Nat) (e e' : Env) : Prop := e'.length = e.length ∧ ∀ i, i ∉ ds → e'[i]? = e[i]?
def QN (ds : List Nat) (e₀ : Env) (K : Env → World → Prop) : Exit → Act → World → Prop
  | .normal, a, w => ∃ e, a = act e ∧ agree ds e₀ e ∧ K e w
  | _, _, _ => False
/-- A region that draws its order, as the machine has it. -/
def RawR (id : Nat) (ops : Array Oper) (K : Env → World → Prop) (e : Env) (w : World) : Prop := (Code.region id ops true).wp P (QN (dsts ops.toList) e K) (act e) w
def WP (H : Hints) : Code → (X → Env → World → Prop) → Env → World → Prop
  | .skip, K, e, w => K .normal e w
  | .label _, K, e, w => K .normal e w
  | .ret, K, e, w => K .ret e w
  | .exit i, K, e, w => K (.exit i) e w
  | .scope c, K, e, w => WP H c K e w
  | .block i c, K, e, w => WP H c (fun x e w => match x with
    | .exit j => (match j == i with
      | true => K .normal e w
      | false => K (.exit j) e w)
    | x => K x e w) e w
  | .cond c a b, K, e, w => (match ev e c with
    | .bool t => If t (match isCut (firstR a) H.cuts with
      | true => False
      | false => WP H a K e w) (match isCut (firstR b) H.cuts with
      | true => False
      | false => WP H b K e w)
    | _ => False)
  | .region _ ops false, K, e, w => wpR P ops.toList 0 ops.toList (fun e w => K .normal e w) e w
  | .region id ops true, K, e, w => (match findP id H.draws with
    | some p => (match planAll ops p with
      | true => wpP P ops.toList p [] (fun e w => K .normal e w) e w.drew
      | false => False)
    | none => RawR P id ops (fun e w => K .normal e w) e w)
  | .seq a b, K, e, w => (match findH (firstR b) H.joins with
    | none => WP H a (fun x e w => match x with
      | .normal => (match isCut (firstR b) H.cuts with
        | true => False
        | false => WP H b K e w)
      | x => K x e w) e w
    | some js => ∃ J : Cur (World → Prop) (kinds js), WP H a (fun x e w => match x with
        | .normal => apl (fun _ => False) (kinds js) J (slots js e) w
        | x => K x e w) e w ∧ allC (kinds js) fun vs => ∀ w' : World, apl (fun _ => False) (kinds js) J vs w' → ∀ z : Nat → Value, WP H b K (wr js vs (junk z (mods a) e)) w')
  | .loop c, K, e, w => (match findH (firstR c) H.loops with
    | none => False
    | some js => ∃ (I : Cur (World → Prop) (kinds js)) (μ : Cur (World → Nat) (kinds js)), apl (fun _ => False) (kinds js) I (slots js e) w ∧
        allC (kinds js) fun vs => ∀ w' : World, apl (fun _ => False) (kinds js) I vs w' → ∀ z : Nat → Value, WP H c (fun x e w => match x with
          | .normal => apl (fun _ => False) (kinds js) I (slots js e) w ∧ apl (fun _ => 0) (kinds js) μ (slots js e) w < apl (fun _ => 0) (kinds js) μ vs w'
          | x => K x e w) (wr js vs (junk z (mods c) e)) w')
  | _, _, _, _ => False
def cellsL : Value → List Value
  | .agg cs => cs.toList
  | v => [v]
def shOk : List Sh → List Value → Bool
  | [], [] => true
  | s :: r, v :: vs => (match s.agg, v with
    | true, .agg cs => cs.toList.length == s.cs.length
    | true, _ => false
    | false, .agg _ => false
    | false, _ => s.cs.length == 1) && shOk r vs
  | _, _ => false
def flatV : List Value → List Value
  | [] => []
  | v :: r => cellsL v ++ flatV r
def retV : List ResultVar → List Value → (List Value → World → Prop) → Env → World → Prop
  | [], acc, k, _, w => k acc.reverse w
  | .tmp t :: r, acc, k, e, w => retV r (e.getD t undef :: acc) k e w
  | .cell a t :: r, acc, k, e, w => match e.getD a undef, isAggT P t, shOf P t with
    | .pointer p, some true, sh => (match sizeT P t == some sh.cs.length with
      | true => WithAddr p fun a => LdN sh.cs 0 a (lam sh.cs fun vs => retV r (.agg vs.toArray :: acc) k e) w
      | false => False)
    | .pointer p, some false, ⟨_, [c]⟩ => WithAddr p fun a => Ld c a (fun x => retV r (c.val x :: acc) k e) w
    | _, _, _ => False
def WPF (H : Hints) (fn : Func) (args : List Value) (sh : List Sh) (K : Cur (World → Prop) (flat sh)) (w : World) : Prop := match fn.body with
  | some c => WP P H c (fun x e w => match x with
    | .exit _ => False
    | _ => retV P fn.results.toList [] (fun vs w => match shOk sh vs with
      | true => apl (fun _ => False) (flat sh) K (flatV vs) w
      | false => False) e w) (args ++ List.replicate (fn.ntmps - args.length) undef) w
  | none => False
end
end Go.Proofs.YtajilfnceoeaiaaGreat.V
/- The calculus of V is sound: the operations. -/
namespace Go.Proofs.YtajilfnceoeaiaaGreat.V
open Go
section
variable {P : Program}
def CallV (P : Program) (f : FuncId) (args : Array Value) (w : World) (K : Value → World → Prop) : Prop := Calls P f args w fun e w' => ∃ v, e = .returned v ∧ K v w'
def OpOk (P : Program) (ρ : Operand → Value) (o : Oper) (K : Value → World → Prop) (w : World) : Prop :=
  (∃ v w', (execOp ρ o).run P w = .ok (.value v) w' ∧ K v w') ∨ (∃ w', (execOp ρ o).run P w = .ok .skip w' ∧ K undef w') ∨
  (∃ f args w', (execOp ρ o).run P w = .ok (.enter f args) w' ∧ CallV P f args w' K)
theorem maxV_run (k : IntKind) : ∀ (r : List Value) (x m : Int) (w : World), maxV k x r = some m → (r.foldlM Builtin.max2 (.int k x)).run P w = .ok (.int k m) w
  | [], x, m, w, h => by simp [maxV] at h; subst h; rfl
  | v :: r, x, m, w, h => by
    cases v <;> simp only [maxV, reduceCtorEq] at h
    split at h
    · rename_i hk; subst hk
      simp only [List.foldlM_cons, Builtin.max2, Sem.run_bind, Sem.run_pure, Result.andThen_ok]
      exact maxV_run k r _ m w h
    · cases h
theorem minV_run (k : IntKind) : ∀ (r : List Value) (x m : Int) (w : World), minV k x r = some m → (r.foldlM Builtin.min2 (.int k x)).run P w = .ok (.int k m) w
  | [], x, m, w, h => by simp [minV] at h; subst h; rfl
  | v :: r, x, m, w, h => by
    cases v <;> simp only [minV, reduceCtorEq] at h
    split at h
    · rename_i hk; subst hk
      simp only [List.foldlM_cons, Builtin.min2, Sem.run_bind, Sem.run_pure, Result.andThen_ok]
      exact minV_run k r _ m w h
    · cases h
theorem eq_ptr {t e : TypeId} (a : Option Addr) (h : P.underlying t = some (.pointer e)) (w : World) : (Op.equal t (.pointer a) (.pointer none)).run P w = .ok a.isNone w := by
  unfold Op.equal Op.maxDepth
  generalize hd : (10000 : Nat) = d
  obtain ⟨d, rfl⟩ : ∃ n, d = n + 1 := ⟨9999, hd.symm⟩
  cases a <;> simp [Op.equalIn, run_underlying h]
theorem eq_slice {t e : TypeId} (a : Option Addr) (n c : Nat) (h : P.underlying t = some (.slice e)) (w : World) : (Op.equal t (.slice a n c) (.slice none 0 0)).run P w = .ok a.isNone w := by
  unfold Op.equal Op.maxDepth
  generalize hd : (10000 : Nat) = d
  obtain ⟨d, rfl⟩ : ∃ n, d = n + 1 := ⟨9999, hd.symm⟩
  cases a <;> simp [Op.equalIn, run_underlying h]
theorem bv_run {op : BinOp} {t : TypeId} {x y : Operand} {a b v : Value} (h : bv P op t a b = some v) (w : World) :
    (do eqGuard op t x y a b; binOp op t a b : Sem Value).run P w = .ok v w := by
  unfold bv at h
  split at h
  all_goals (try (split at h; rotate_left; (first | (cases h; done) | skip)))
  all_goals (try (cases h; done))
  all_goals simp only [Option.some.injEq] at h
  all_goals (try subst h)
  all_goals (try (rename_i hk; subst hk))
  all_goals (first
    | (simp [eqGuard, binOp, Op.intArith, Op.intCmp]; done)
    | (rename_i hk; simp [eqGuard, binOp, Op.shift, hk]; done)
    | (rename_i hk; simp [eqGuard, binOp, eq_ptr _ hk]; done)
    | (rename_i hk; simp [eqGuard, binOp, eq_slice _ _ _ hk]; done))
theorem isAggT_run {t : TypeId} {b : Bool} (h : isAggT P t = some b) (w : World) : (isAgg t).run P w = .ok b w := by
  unfold isAggT at h
  cases hu : P.underlying t with
  | none => rw [hu] at h; cases h
  | some d =>
    simp only [isAgg, Sem.run_bind, run_underlying hu, Result.andThen_ok]
    rw [hu] at h
    cases d <;> simp_all
theorem pv_run {ρ : Operand → Value} {o : Oper} {v : Value} (h : pv P ρ o = some v) (w : World) : (execOp ρ o).run P w = .ok (.value v) w := by
  unfold pv at h
  split at h
  case h_1 x ho => simp only [Option.some.injEq] at h; subst h; simp [execOp, ho]
  case h_2 x ho => simp only [Option.some.injEq] at h; subst h; simp [execOp, ho]
  case h_3 c a b ho =>
    split at h <;> first | (cases h; done) | (rename_i hc; simp only [Option.some.injEq] at h; subst h; simp [execOp, ho, hc, asBool])
  case h_4 t x ho =>
    split at h <;> first | (cases h; done) | (rename_i hc; simp only [Option.some.injEq] at h; subst h; simp [execOp, ho, hc, Op.unary])
  case h_5 t x ho =>
    split at h <;> first | (cases h; done) | (rename_i hc; simp only [Option.some.injEq] at h; subst h; simp [execOp, ho, hc, Op.unary, Op.intArith])
  case h_6 x i ho =>
    split at h
    · rename_i vs hc
      rw [Array.getElem?_toList] at h
      simp [execOp, ho, hc, Instr.extract, h]
    · cases h
  case h_7 fn first cap ho =>
    simp only [Option.some.injEq] at h; subst h
    simp [execOp, ho, Instr.makeFunc, ← Array.toList_map]
  case h_8 op t x y t' ho =>
    have := bv_run (x := x) (y := y) h w
    simp only [execOp, ho, Sem.run_bind]
    rw [Sem.run_bind] at this
    rw [this]
    rfl
  case h_9 s d x ho =>
    split at h <;> first | (cases h; done) | (rename_i h1 h2 h3; simp only [Option.some.injEq] at h; subst h; simp [execOp, ho, h3, convert, run_underlying h1, run_underlying h2, Conv.intToInt])
  case h_10 t x f ho =>
    split at h
    · rename_i cs ft off hx hf
      unfold fieldOff at hf
      split at hf <;> try (cases hf; done)
      rename_i fs hu
      split at hf <;> try (cases hf; done)
      rename_i fd hfd
      simp only [Option.some.injEq, Prod.mk.injEq] at hf
      obtain ⟨rfl, rfl⟩ := hf
      rw [Array.getElem?_toList] at hfd
      split at h
      · rename_i n ha hs
        simp only [Option.some.injEq] at h; subst h
        obtain ⟨i, hi, hn⟩ := Option.map_eq_some_iff.1 hs
        have hag := isAggT_run ha w
        simp [execOp, ho, hx, Instr.field, run_underlying hu, hfd, asAgg, part, hag, sizeOf, typeInfo, hi, hn]
        apply Array.ext'
        simp
      · rename_i ha
        have hag := isAggT_run ha w
        rw [Array.getElem?_toList] at h
        simp [execOp, ho, hx, Instr.field, run_underlying hu, hfd, asAgg, part, hag, h]
      · cases h
    · cases h
  case h_11 t parts ho =>
    simp only [Option.map_eq_some_iff] at h
    obtain ⟨cells, hb, rfl⟩ := h
    simp only [execOp, ho, Sem.run_bind]
    rw [run_build w t _ cells (by simpa using hb)]
    rfl
  case h_12 args argTypes ho =>
    split at h
    · rename_i t x ht hx
      obtain rfl : argTypes = #[t] := by cases argTypes; simpa using ht
      obtain rfl : args = #[x] := by cases args; simpa using hx
      split at h <;> try (cases h; done)
      · rename_i hu hv
        simp only [Option.some.injEq] at h; subst h
        simp [execOp, ho, resolve, invoke, builtin, Builtin.len_, run_underlying hu, hv, goInt]
      · rename_i hu
        simp only [Option.some.injEq] at h; subst h
        simp [execOp, ho, resolve, invoke, builtin, Builtin.len_, run_underlying hu, goInt]
    · cases h
  case h_13 args at_ ho =>
    split at h
    · rename_i k x r hr
      obtain ⟨m, hm, rfl⟩ := Option.map_eq_some_iff.1 h
      have := maxV_run (P := P) k r x m w hm
      simp [execOp, ho, resolve, invoke, builtin, Builtin.max_, hr, this]
    · cases h
  case h_14 args at_ ho =>
    split at h
    · rename_i k x r hr
      obtain ⟨m, hm, rfl⟩ := Option.map_eq_some_iff.1 h
      have := minV_run (P := P) k r x m w hm
      simp [execOp, ho, resolve, invoke, builtin, Builtin.min_, hr, this]
    · cases h
  case h_15 => cases h
theorem _root_.Go.Result.andThen_assoc {α β γ : Type} (r : Result α) (f : α → World → Result β) (g : β → World → Result γ) : (r.andThen f).andThen g = r.andThen fun a w => (f a w).andThen g := by cases r <;> rfl
theorem map_l {α β : Type} (f : α → β) (xs : Array α) : (xs.toList.map f).toArray = xs.map f := by apply Array.ext'; simp
theorem LdN_run : ∀ (cs : List C1) (i : Nat) (a : Addr) (k : List Value → World → Prop) (acc : Array Value) (w : World), LdN cs i a (lam cs k) w →
    ∃ vs : List Value, (loadCellsFrom a i cs.length acc).run P w = .ok (acc ++ vs.toArray) w ∧ k vs w
  | [], i, a, k, acc, w, h => ⟨[], by simp [loadCellsFrom], h⟩
  | c :: cs, i, a, k, acc, w, ⟨x, hx, h⟩ => by
    obtain ⟨vs, h1, h2⟩ := LdN_run cs (i + 1) a _ (acc.push (c.val x)) w h
    refine ⟨c.val x :: vs, ?_, h2⟩
    simp only [List.length_cons, loadCellsFrom, Sem.run_bind, run_load, hx, Result.andThen_ok]
    rw [h1]
    congr 1
    apply Array.ext'
    simp
theorem StN_run : ∀ (vs : List Value) (i : Nat) (a : Addr) (K : World → Prop) (w : World), vs.all Value.oneCell' = true → StN vs i a K w →
    ∃ w', (storeCells a vs i).run P w = .ok () w' ∧ K w'
  | [], i, a, K, w, _, h => ⟨w, by simp [storeCells], h⟩
  | v :: vs, i, a, K, w, hv, ⟨⟨u, hu⟩, hf, h⟩ => by
    simp only [List.all_cons, Bool.and_eq_true] at hv
    obtain ⟨w', h1, h2⟩ := StN_run vs (i + 1) a K _ hv.2 h
    refine ⟨w', ?_, h2⟩
    simp only [storeCells, Sem.run_bind, run_store P _ _ _ _ hv.1, hu, hf, Bool.false_eq_true, if_false, Result.andThen_ok]
    exact h1
theorem opV_ok {ρ : Operand → Value} {o : Oper} {K : Value → World → Prop} {w : World} (h : opV P ρ o K w) : OpOk P ρ o K w := by
  unfold opV at h
  split at h
  · rename_i v hv
    exact .inl ⟨v, w, pv_run hv w, h⟩
  split at h
  case h_1 x ho =>
    split at h
    · rename_i p hp
      cases p with
      | none => exact h.elim
      | some a => exact .inl ⟨_, w, by simp [execOp, ho, hp], h⟩
    · rename_i f a b hp
      exact .inl ⟨_, w, by simp [execOp, ho, hp], h⟩
    · exact h.elim
  case h_2 t x f ho =>
    split at h
    · rename_i p ft off hp hf
      unfold fieldOff at hf
      split at hf <;> try (cases hf; done)
      rename_i fs hu
      split at hf <;> try (cases hf; done)
      rename_i fd hfd
      simp only [Option.some.injEq, Prod.mk.injEq] at hf
      obtain ⟨rfl, rfl⟩ := hf
      rw [Array.getElem?_toList] at hfd
      split at h
      · rename_i m hs
        obtain ⟨i, hi, hn⟩ := Option.map_eq_some_iff.1 hs
        cases p with
        | none => exact h.elim
        | some a =>
          refine .inl ⟨_, w, ?_, h⟩
          simp [execOp, ho, hp, Instr.fieldAt, run_underlying hu, hfd, Instr.sureAddr, fieldPlace, sizeOf, typeInfo, hi, hn]
      · exact h.elim
    · exact h.elim
  case h_3 t x ix ho =>
    split at h
    · rename_i e base n c k i hu hx hi
      split at h
      · rename_i sz hs
        obtain ⟨ti, hti, hn⟩ := Option.map_eq_some_iff.1 hs
        obtain ⟨hb, h⟩ := h
        cases base with
        | none => exact h.elim
        | some a =>
          refine .inl ⟨_, w, ?_, h⟩
          simp [execOp, ho, hx, hi, Instr.indexAt, asIntOf, run_underlying hu, hb, sizeOf, typeInfo, hti, hn]
      · exact h.elim
    · rename_i n e p k i hu hx hi
      split at h
      · rename_i sz hs
        obtain ⟨ti, hti, hn⟩ := Option.map_eq_some_iff.1 hs
        obtain ⟨hb, h⟩ := h
        cases p with
        | none => exact h.elim
        | some a =>
          refine .inl ⟨_, w, ?_, h⟩
          simp [execOp, ho, hx, hi, Instr.indexAt, Instr.sureAddr, asIntOf, run_underlying hu, hb, sizeOf, typeInfo, hti, hn]
      · exact h.elim
    · exact h.elim
  case h_4 t x ho =>
    split at h
    · rename_i p hp ha
      split at h
      · rename_i hs
        cases p with
        | none => exact h.elim
        | some a =>
          obtain ⟨vs, h1, h2⟩ := LdN_run (P := P) _ 0 a _ #[] w h
          have hs := (beq_iff_eq.1 hs)
          obtain ⟨ti, hti, hn⟩ := Option.map_eq_some_iff.1 hs
          refine .inl ⟨_, w, ?_, h2⟩
          simp only [execOp, ho, hp, Sem.run_bind, Instr.loadAt, Instr.sureAddr, Sem.run_pure, Result.andThen_ok, loadVar, isAggT_run ha w, if_true, sizeOf, typeInfo, run_program, hti, hn, loadCells, h1]
          simp
      · exact h.elim
    · rename_i p b c hp ha hsh
      cases p with
      | none => exact h.elim
      | some a =>
        obtain ⟨x, hx, h⟩ := h
        refine .inl ⟨_, w, ?_, h⟩
        simp [execOp, ho, hp, Instr.loadAt, Instr.sureAddr, loadVar, isAggT_run ha w, hx]
    · exact h.elim
  case h_5 t x v ho =>
    split at h
    · rename_i p hp
      split at h
      · rename_i hs
        simp only [Bool.and_eq_true, beq_iff_eq] at hs
        obtain ⟨ti, hti, hn⟩ := Option.map_eq_some_iff.1 hs.2
        cases p with
        | none => exact h.elim
        | some a =>
          obtain ⟨w', h1, h2⟩ := StN_run (P := P) _ 0 a _ w hs.1 h
          refine .inr (.inl ⟨w', ?_, h2⟩)
          have hn' : (ρ v).cells.size = ti.size := by rw [hn]; simp
          simp only [execOp, ho, hp, Sem.run_bind, Instr.storeAt, Instr.sureAddr, Sem.run_pure, Result.andThen_ok, storeVar, sizeOf, typeInfo, run_program, hti, hn', ne_eq, not_true_eq_false, if_false, h1]
      · exact h.elim
    · exact h.elim
  case h_6 t ho =>
    split at h
    · rename_i z hz
      obtain ⟨i, hi, hz⟩ := Option.bind_eq_some_iff.1 hz
      refine .inl ⟨_, _, ?_, h⟩
      simp [execOp, ho, Instr.alloc, zeroValue, typeInfo, hi, hz, newVar, newRow]
    · exact h.elim
  case h_7 t x ho =>
    refine .inl ⟨_, _, ?_, h⟩
    simp [execOp, ho, Instr.box, newVar, newRow]
  case h_8 x y t t' ho =>
    split at h
    · rename_i k a k' b hx hy
      split at h
      · rename_i hk
        obtain rfl := of_decide_eq_true hk
        obtain ⟨hb, h⟩ := h
        refine .inl ⟨_, w, ?_, h⟩
        simp [execOp, ho, hx, hy, eqGuard, binOp, Op.intDiv, hb]
      · exact h.elim
    · exact h.elim
  case h_9 x y t t' ho =>
    split at h
    · rename_i k a k' b hx hy
      split at h
      · rename_i hk
        obtain rfl := of_decide_eq_true hk
        obtain ⟨hb, h⟩ := h
        refine .inl ⟨_, w, ?_, h⟩
        simp [execOp, ho, hx, hy, eqGuard, binOp, Op.intDiv, hb]
      · exact h.elim
    · exact h.elim
  case h_10 t n parts ho =>
    split at h
    · rename_i e he
      unfold elemT at he
      split at he <;> try (cases he; done)
      rename_i e' hu
      simp only [Option.some.injEq] at he; subst he
      split at h
      · rename_i i hp hi
        obtain rfl : parts = #[] := by cases parts; simpa using hp
        refine .inl ⟨_, _, ?_, h⟩
        simp [execOp, ho, Instr.buildSlice, run_underlying hu, sizeOf, typeInfo, hi, Instr.fill, newRow]
        have h0 : ∀ g : Nat → Value, Array.map g (Array.range 0) = #[] := fun g => Array.ext' (by simp)
        rw [h0]
      · rename_i hi _
        split at h
        · rename_i z hz hd
          have hd := of_decide_eq_true hd
          split at h
          · rename_i cs hcs
            refine .inl ⟨_, _, ?_, h⟩
            simp only [execOp, ho, Sem.run_bind]
            rw [run_buildSlice w t e' _ _ cs _ z hu hi hz hd.1 hd.2 (by simpa using hcs)]
            rfl
          · exact h.elim
        · exact h.elim
      · exact h.elim
    · exact h.elim
  case h_11 t m k x ho =>
    obtain ⟨w', h1, h2⟩ := h
    exact .inr (.inl ⟨w', by simp [execOp, ho, h1], h2⟩)
  case h_12 t m k x ho =>
    obtain ⟨w', h1, h2⟩ := h
    exact .inr (.inl ⟨w', by simp [execOp, ho, h1], h2⟩)
  case h_13 it ho =>
    rcases h with ⟨w', h1, h2⟩ | ⟨k, v, w', h1, h2⟩
    · exact .inl ⟨_, w', by simp [execOp, ho, h1], h2⟩
    · exact .inl ⟨_, w', by simp [execOp, ho, h1], h2⟩
  case h_14 f args at_ ho =>
    split at h
    · rename_i g first cap hf
      split at h
      · rename_i fn hfn
        split at h
        · rename_i hb
          simp only [Bool.and_eq_true, Bool.not_eq_true', beq_eq_false_iff_ne, ne_eq] at hb
          refine .inr (.inr ⟨g, (first.toList ++ args.toList.map ρ ++ cap.toList).toArray, w, ?_, ?_⟩)
          · have hb1 : fn.body.isNone = false := by cases hx : fn.body <;> simp_all
            have hb2 : (fn.name == "runtime.NumGoroutine") = false := by simpa using hb.2
            have hb3 : first ++ (Array.map ρ args ++ cap) = (first.toList ++ args.toList.map ρ ++ cap.toList).toArray := by apply Array.ext'; simp
            simp only [execOp, ho, resolve, hf, Deferred.ofValue, invoke, callFunc, Sem.run_bind, run_program, Sem.run_pure, Result.andThen_ok, hfn, hb2, hb1, Bool.false_eq_true, if_false, Array.append_assoc, hb3]
          · refine Calls.mono h fun e w' he => ?_
            obtain ⟨vs, h1, h2⟩ := exK_lam _ _ _ _ he
            exact ⟨_, h1, h2⟩
        · exact h.elim
      · exact h.elim
    · exact h.elim
  case h_15 =>
    split at h
    · rename_i s sh hs
      obtain ⟨w', h⟩ := h
      obtain ⟨vs, h1, h2⟩ := exK_lam _ _ _ _ h
      refine .inl ⟨_, w', ?_, h2⟩
      clear h h2
      unfold semOf at hs
      split at hs
      case h_17 => cases hs
      all_goals (rename_i ho; simp only [Option.map_eq_some_iff, Option.some.injEq, Prod.mk.injEq] at hs; first | (obtain ⟨rfl, rfl⟩ := hs) | (obtain ⟨e, _, rfl, rfl⟩ := hs))
      all_goals ((try simp only [map_l] at h1); simp only [execOp, ho, resolve, invoke, builtin, Sem.run_bind, Sem.run_pure, Result.andThen_ok, Option.map_none] at h1 ⊢; first | (rw [h1]; rfl) | (rw [← Result.andThen_assoc, h1]; rfl))
    · exact h.elim
end
end Go.Proofs.YtajilfnceoeaiaaGreat.V
/- The calculus of V is sound: regions in their own order. -/
namespace Go.Proofs.YtajilfnceoeaiaaGreat.V
open Go
section
variable {P : Program}
theorem eval_act (e : Env) : (act e).eval = ev e := by
  funext x
  cases x <;> simp [act, Act.eval, ev]
theorem put_act (e : Env) (d : Option Tmp) (v : Value) : (act e).put d v = act (putE e d v) := by
  cases d <;> simp [act, Act.put, putE]
theorem act_inj {e e' : Env} (h : act e = act e') : e = e' := by
  have := congrArg Act.tmps h
  simpa [act] using this
theorem agree.refl (ds : List Nat) (e : Env) : agree ds e e := ⟨rfl, fun _ _ => rfl⟩
theorem agree.trans {ds : List Nat} {a b c : Env} (h : agree ds a b) (k : agree ds b c) : agree ds a c := ⟨k.1.trans h.1, fun i hi => (k.2 i hi).trans (h.2 i hi)⟩
theorem agree.mono {ds ds' : List Nat} {a b : Env} (h : agree ds a b) (hs : ∀ i, i ∈ ds → i ∈ ds') : agree ds' a b := ⟨h.1, fun i hi => h.2 i fun hm => hi (hs i hm)⟩
theorem agree.put {ds : List Nat} {e : Env} {d : Option Tmp} (v : Value) (h : ∀ x, d = some x → x ∈ ds) : agree ds e (putE e d v) := by
  cases d with
  | none => exact agree.refl _ _
  | some x =>
    refine ⟨by simp [putE], fun i hi => ?_⟩
    have : x ≠ i := fun e => hi (e ▸ h x rfl)
    simp [putE, List.getElem?_set_ne this]
def Arr (P : Program) (ops : Array Oper) (l : List Nat) (Q : Exit → Act → World → Prop) (a : Act) (w : World) : Prop :=
  ∀ (b : Frame) (k : List Item) (cs : List Frame), ∃ e a' w', Q e a' w' ∧ Arrives P (lone (b.at a (.inRegion ops l :: k)) cs w) b k cs e a' w'
section
variable {ops : Array Oper} {i : Nat} {rest : List Nat} {Q : Exit → Act → World → Prop} {a : Act} {w : World} {o : Oper}
theorem arr_nil (h : Q .normal a w) : Arr P ops [] Q a w := fun _ _ _ => ⟨.normal, a, w, h, .one step_region_end⟩
theorem arr_skip (ho : ops[i]? = some o) (hw : Region.wanted o (yielded ops a.tmps) = false) (h : Arr P ops rest Q (a.put o.dst undef) w) : Arr P ops (i :: rest) Q a w := by
  intro b k cs
  obtain ⟨e, a', w', hq, harr⟩ := h b k cs
  have hs := step_op_skip (P := P) (b := b) (a := a) (k := k) (cs := cs) (w := w) (ops := ops) (i := i) (rest := rest) (by simp [ho, hw])
  simp only [ho, Option.bind_some] at hs
  exact ⟨e, a', w', hq, .of_steps (.one hs) harr⟩
theorem arr_ok (ho : ops[i]? = some o) (hw : Region.wanted o (yielded ops a.tmps) = true) (h : OpOk P a.eval o (fun v w' => Arr P ops rest Q (a.put o.dst v) w') w) : Arr P ops (i :: rest) Q a w := by
  intro b k cs
  have hg := stepG_op (P := P) (b := b) (k := k) (cs := cs) (w := w) (rest := rest) ho hw
  have hfin : ∀ v, (b.at a (.inRegion ops (i :: rest) :: k)).finish v = b.at (a.put o.dst v) (.inRegion ops rest :: k) := by
    intro v; rw [Frame.finish_at, ho]; rfl
  rcases h with ⟨v, w', hr, h⟩ | ⟨w', hr, h⟩ | ⟨f, args, w', hr, h⟩
  · obtain ⟨e, a', w'', hq, harr⟩ := h b k cs
    refine ⟨e, a', w'', hq, .of_steps (.one (step_lone_go ?_)) harr⟩
    rw [hg, ← hfin]; simp [stepG.apply, hr]
  · obtain ⟨e, a', w'', hq, harr⟩ := h b k cs
    refine ⟨e, a', w'', hq, .of_steps (.one (step_lone_go ?_)) harr⟩
    rw [hg, ← hfin]; simp [stepG.apply, hr]
  · obtain ⟨_, w'', fr, ⟨v, rfl, hR⟩, hsteps, _, hleave⟩ := h (b.at a (.inRegion ops (i :: rest) :: k) :: cs)
    have henter : step P (lone (b.at a (.inRegion ops (i :: rest) :: k)) cs w) =
        .next (lone (Frame.enter P f args .normal) (b.at a (.inRegion ops (i :: rest) :: k) :: cs) w') :=
      step_lone_go (by rw [hg]; simp [stepG.apply, hr, Frame.at])
    obtain ⟨e, a', w₃, hq, harr⟩ := hR b k cs
    refine ⟨e, a', w₃, hq, .of_steps (.head henter (hsteps.trans (.one ?_))) harr⟩
    rw [← hfin]; exact step_leave_returned hleave
open Go.Conc in
theorem arr_recv {t el : TypeId} {ch : Operand} {dir : ChanDir} (ho : ops[i]? = some o) (hw : Region.wanted o (yielded ops a.tmps) = true) (hop : o.op = .recv t ch false)
    {c : Option Nat} {z : Value} (hu : P.underlying t = some (.chan dir el)) (hz : (P.info? el).bind (·.zero) = some z) (hc : a.eval ch = .chan c)
    (h : Rv c (fun v w' => Arr P ops rest Q (a.put o.dst v) w') w) : Arr P ops (i :: rest) Q a w := by
  intro b k cs
  obtain ⟨r, cap, buf, s, n, rfl, hr, hpos, h⟩ := h
  have hg := stepG_op (P := P) (b := b) (k := k) (cs := cs) (w := w) (rest := rest) ho hw
  obtain ⟨ti, hti, hzi⟩ := Option.bind_eq_some_iff.1 hz
  have hrun : (execOp a.eval o).run P w = .ok (.comm #[rcase r z] true (.recv false)) w := by
    simp [execOp, hop, hc, run_underlying hu, zeroValue, typeInfo, hti, hzi, rcase]
  obtain ⟨es, hcomm⟩ : ∃ es, stepG P true (G (b.at a (.inRegion ops (i :: rest) :: k)) cs) w = .comm (G (b.at a (.inRegion ops (i :: rest) :: k)) cs) #[rcase r z] true (.recv false) w es := by
    unfold G
    rw [hg]
    simp only [stepG.apply, Sem.runT_eq, hrun, if_true, GStep.after]
    exact ⟨_, rfl⟩
  obtain ⟨e, a', w₃, hq, harr⟩ := h b k cs
  refine ⟨e, a', w₃, hq, .of_steps (.one ?_) harr⟩
  rw [lone_eq_solo, step_lone_recv_buf false hcomm hr hpos, Frame.finish_at, ho]
  rfl
open Go.Conc in
theorem arr_sel {el : TypeId} {ch x : Operand} (ho : ops[i]? = some o) (hw : Region.wanted o (yielded ops a.tmps) = true) (hop : o.op = .select #[⟨ch, some x, el⟩] false)
    {c : Option Nat} {z : Value} (hz : (P.info? el).bind (·.zero) = some z) (hc : a.eval ch = .chan c)
    (h : Sel c (a.eval x) (fun w' => Arr P ops rest Q (a.put o.dst (.tuple #[goInt 0, .bool false])) w') (fun w' => Arr P ops rest Q (a.put o.dst (.tuple #[goInt (-1), .bool false])) w') w) :
    Arr P ops (i :: rest) Q a w := by
  intro b k cs
  obtain ⟨r, cap, buf, s, n, rfl, hr, h1, h2⟩ := h
  have hg := stepG_op (P := P) (b := b) (k := k) (cs := cs) (w := w) (rest := rest) ho hw
  obtain ⟨ti, hti, hzi⟩ := Option.bind_eq_some_iff.1 hz
  have hrun : (execOp a.eval o).run P w = .ok (.comm #[scase r (a.eval x) z] false .select) w := by
    simp [execOp, hop, hc, zeroValue, typeInfo, hti, hzi, scase]
  obtain ⟨es, hcomm⟩ : ∃ es, stepG P true (G (b.at a (.inRegion ops (i :: rest) :: k)) cs) w = .comm (G (b.at a (.inRegion ops (i :: rest) :: k)) cs) #[scase r (a.eval x) z] false .select w es := by
    unfold G
    rw [hg]
    simp only [stepG.apply, Sem.runT_eq, hrun, if_true, GStep.after]
    exact ⟨_, rfl⟩
  rcases Nat.lt_or_ge buf.size cap with hlt | hge
  · obtain ⟨e, a', w₃, hq, harr⟩ := h1 hlt b k cs
    refine ⟨e, a', w₃, hq, .of_steps (.one ?_) harr⟩
    rw [lone_eq_solo, step_lone_select_send_room hcomm hr hlt, Frame.finish_at, ho]
    rfl
  · obtain ⟨e, a', w₃, hq, harr⟩ := h2 hge b k cs
    refine ⟨e, a', w₃, hq, .of_steps (.one ?_) harr⟩
    rw [lone_eq_solo, step_lone_select_send_full hcomm hr hge, Frame.finish_at, ho]
    rfl
end
theorem OpOk.mono {ρ : Operand → Value} {o : Oper} {K K' : Value → World → Prop} {w : World} (h : OpOk P ρ o K w) (hk : ∀ v w, K v w → K' v w) : OpOk P ρ o K' w := by
  rcases h with ⟨v, w', h1, h2⟩ | ⟨w', h1, h2⟩ | ⟨f, a, w', h1, h2⟩
  · exact .inl ⟨v, w', h1, hk _ _ h2⟩
  · exact .inr (.inl ⟨w', h1, hk _ _ h2⟩)
  · exact .inr (.inr ⟨f, a, w', h1, Calls.mono h2 fun e w'' ⟨v, hv, hK⟩ => ⟨v, hv, hk _ _ hK⟩⟩)
theorem splitV_imp {g : Bool} {v : Value} {k : Value → Prop} (h : splitV g v k) : k v := by
  unfold splitV at h
  cases g with
  | false => exact h
  | true =>
    cases v with
    | bool b => cases b <;> exact h
    | _ => exact h
theorem wanted_act {all : List Oper} {e : Env} {o : Oper} : Region.wanted o (yielded all.toArray (act e).tmps) = wantB all e o := by
  unfold Region.wanted wantB
  cases o.guard with
  | none => rfl
  | some g =>
    obtain ⟨j, want⟩ := g
    show (yielded all.toArray (act e).tmps j == some want) = _
    have : yielded all.toArray (act e).tmps j = yl all e j := by
      unfold yielded yl act
      simp only [List.getElem?_toArray]
      cases all[j]? with
      | none => rfl
      | some p =>
        simp only [Option.bind_some]
        cases p.dst with
        | none => rfl
        | some d =>
          simp only [Option.bind_some]
          cases e[d]? with
          | none => rfl
          | some v => cases v <;> rfl
    rw [this]
    show (yl all e j == some want) = (match yl all e j with
      | some b => b == want
      | none => false)
    generalize yl all e j = y
    cases y <;> simp
theorem mem_dsts {all : List Oper} {o : Oper} (h : o ∈ all) : ∀ x, o.dst = some x → x ∈ dsts all := by
  intro x hx
  induction all with
  | nil => cases h
  | cons p r ih =>
    unfold dsts
    rcases List.mem_cons.1 h with rfl | h
    · rw [hx]; exact List.mem_cons_self
    · split
      · exact List.mem_cons_of_mem _ (ih h)
      · exact ih h
theorem opR_arr {all : List Oper} {i : Nat} {rest : List Nat} {Q : Exit → Act → World → Prop} {e : Env} {w : World} {o : Oper} (ho : all[i]? = some o) (hw : wantB all e o = true)
    (h : opR P (ev e) o (fun v w' => Arr P all.toArray rest Q (act (putE e o.dst v)) w') w) : Arr P all.toArray (i :: rest) Q (act e) w := by
  have ho' : all.toArray[i]? = some o := by simpa using ho
  have hw' : Region.wanted o (yielded all.toArray (act e).tmps) = true := by rw [wanted_act]; exact hw
  unfold opR at h
  split at h
  · rename_i t ch hop
    split at h
    · rename_i dir el c hu hc
      split at h
      · rename_i z hz
        refine arr_recv ho' hw' hop hu hz (by rw [eval_act]; exact hc) ?_
        simpa only [put_act] using h
      · exact h.elim
    · exact h.elim
  · rename_i cs hop
    split at h
    · rename_i ch x el hcs
      obtain rfl : cs = #[⟨ch, some x, el⟩] := by cases cs; simpa using hcs
      split at h
      · rename_i z c hz hc
        refine arr_sel ho' hw' hop hz (by rw [eval_act]; exact hc) ?_
        simpa only [put_act, eval_act] using h
      · exact h.elim
    · exact h.elim
  · refine arr_ok ho' hw' ?_
    rw [eval_act]
    simpa only [put_act] using opV_ok h
theorem opR_mono {ρ : Operand → Value} {o : Oper} {K K' : Value → World → Prop} {w : World} (h : opR P ρ o K w) (hk : ∀ v w, K v w → K' v w) : opR P ρ o K' w ∨ OpOk P ρ o K' w := by
  unfold opR at h ⊢
  split at h
  · refine .inl ?_
    split at h
    · split at h
      · obtain ⟨r, cap, buf, s, n, h1, h2, h3, h4⟩ := h
        exact ⟨r, cap, buf, s, n, h1, h2, h3, hk _ _ h4⟩
      · exact h
    · exact h
  · refine .inl ?_
    split at h
    · split at h
      · obtain ⟨r, cap, buf, s, n, h1, h2, h3, h4⟩ := h
        exact ⟨r, cap, buf, s, n, h1, h2, fun hh => hk _ _ (h3 hh), fun hh => hk _ _ (h4 hh)⟩
      · exact h
    · exact h
  · exact .inr ((opV_ok h).mono hk)
theorem wpR_sound {all : List Oper} {K : Env → World → Prop} {e₀ : Env} : ∀ (rest : List Oper) (i : Nat) (e : Env) (w : World), all.drop i = rest → agree (dsts all) e₀ e → wpR P all i rest K e w →
    Arr P all.toArray (List.range' i rest.length) (QN (dsts all) e₀ K) (act e) w
  | [], i, e, w, hd, ha, h => arr_nil ⟨e, rfl, ha, h⟩
  | o :: rest, i, e, w, hd, ha, h => by
    have hi : i < all.length := by
      rcases Nat.lt_or_ge i all.length with h' | h'
      · exact h'
      · rw [List.drop_eq_nil_of_le h'] at hd; cases hd
    have hd' := List.drop_eq_getElem_cons hi
    rw [hd] at hd'
    obtain ⟨ho, hrest⟩ := List.cons.inj hd'
    have hoi : all[i]? = some o := by rw [List.getElem?_eq_getElem hi, ← ho]
    have hmem := mem_dsts (List.mem_of_getElem? hoi)
    simp only [List.length_cons, List.range'_succ]
    unfold wpR at h
    split at h
    · rename_i hw
      have key : ∀ v w', splitV (isG all i) v (fun v => wpR P all (i + 1) rest K (putE e o.dst v) w') → Arr P all.toArray (List.range' (i + 1) rest.length) (QN (dsts all) e₀ K) (act (putE e o.dst v)) w' :=
        fun v w' hs => wpR_sound rest (i + 1) _ w' hrest.symm (ha.trans (agree.put v hmem)) (splitV_imp hs)
      rcases opR_mono h key with h | h
      · exact opR_arr hoi hw h
      · refine arr_ok (o := o) (by simpa using hoi) (by rw [wanted_act]; exact hw) ?_
        rw [eval_act]
        simpa only [put_act] using h
    · rename_i hw
      refine arr_skip (o := o) (by simpa using hoi) (by rw [wanted_act]; exact hw) ?_
      rw [put_act]
      exact wpR_sound rest (i + 1) _ w hrest.symm (ha.trans (agree.put undef hmem)) h
theorem region_sound {id : Nat} {ops : Array Oper} {K : Env → World → Prop} {e : Env} {w : World} (h : wpR P ops.toList 0 ops.toList K e w) :
    (Code.region id ops false).wp P (QN (dsts ops.toList) e K) (act e) w := by
  intro b k cs
  have := wpR_sound ops.toList 0 e w rfl (agree.refl _ _) h b k cs
  rw [List.range_eq_range'.symm] at this
  obtain ⟨x, a', w', hq, harr⟩ := this
  exact ⟨x, a', w', hq, .of_steps (.one step_region) (by simpa using harr)⟩
end
end Go.Proofs.YtajilfnceoeaiaaGreat.V
/- The calculus of V is sound: regions that draw their order. -/
namespace Go.Proofs.YtajilfnceoeaiaaGreat.V
open Go
section
variable {P : Program} {ops : Array Oper} {Q : Exit → Act → World → Prop}
def DT (T : Nat → World → Prop) (U : Nat → Nat → Bool) (j : Nat) (w w' : World) : Prop := w'.heap = w.heap ∨ ∀ i, U i j = true → T i w'
def wpAnyT (P : Program) (ops : Array Oper) (Q : Exit → Act → World → Prop) (T : Nat → World → Prop) (U : Nat → Nat → Bool) : Nat → Array Bool → Act → World → Prop
  | 0, l, a, w => Region.ready .any ops l = [] ∧ Q .normal a w
  | n + 1, l, a, w => (Region.ready .any ops l = [] → Q .normal a w) ∧ ∀ j ∈ Region.ready .any ops l, wpOp P ops Q j (fun a' w' => DT T U j w w' ∧ wpAnyT P ops Q T U n (l.setIfInBounds j true) a' w') a w
theorem wpAny_of_T {T : Nat → World → Prop} {U : Nat → Nat → Bool} : ∀ (n : Nat) (l : Array Bool) (a : Act) (w : World), wpAnyT P ops Q T U n l a w → wpAny P .any ops Q n l a w
  | 0, _, _, _, h => h
  | n + 1, _, _, _, h => ⟨h.1, fun i hi => wpOp_mono (fun a' w' h' => wpAny_of_T n _ a' w' h'.2) (h.2 i hi)⟩
theorem wpAnyT.weaken {T T' : Nat → World → Prop} {U : Nat → Nat → Bool} (ht : ∀ i w, T' i w → T i w) : ∀ (n : Nat) (l : Array Bool) (a : Act) (w : World), wpAnyT P ops Q T' U n l a w → wpAnyT P ops Q T U n l a w
  | 0, _, _, _, h => h
  | n + 1, _, _, _, h => ⟨h.1, fun i hi => wpOp_mono (fun a' w' h' => ⟨h'.1.imp id (fun hk k hu => ht _ _ (hk k hu)), wpAnyT.weaken ht n _ a' w' h'.2⟩) (h.2 i hi)⟩
theorem wpAnyT_done {T : Nat → World → Prop} {U : Nat → Nat → Bool} {l : Array Bool} {a : Act} {w : World} (hr : Region.ready .any ops l = []) (h : Q .normal a w) : ∀ n, wpAnyT P ops Q T U n l a w
  | 0 => ⟨hr, h⟩
  | _ + 1 => ⟨fun _ => h, by rw [hr]; simp⟩
theorem wpAnyT_first {T : Nat → World → Prop} {U : Nat → Nat → Bool} {i : Nat} {oi : Oper} {v : Value} (hi : ops[i]? = some oi) (hsel : ∀ (j : Nat) (o : Oper) cs b, ops[j]? = some o → o.op ≠ .select cs b)
    (hQ : ∀ c a w, Q (.panic c) (a.put oi.dst v) w → Q (.panic c) a w) (hT : ∀ w w' : World, w'.heap = w.heap → T i w → T i w')
    (hU : ∀ j oj, ops[j]? = some oj → j ≠ i → (∀ e ∈ oj.after, Region.binds .any e = true → e.on ≠ i) → U i j = true) :
    ∀ (fuel : Nat) (l : Array Bool) (a : Act) (w : World),
      (∀ j oj, ops[j]? = some oj → j ≠ i → l.getD j true = false → (∀ e ∈ oj.after, Region.binds .any e = true → e.on ≠ i) → oi.apart ops oj = true) →
      i ∈ Region.ready .any ops l → YieldsIf P ops (T i) oi v a → T i w →
      wpAnyT P ops Q T U fuel (l.setIfInBounds i true) (a.put oi.dst v) w → wpAnyT P ops Q T U (fuel + 1) l a w := by
  intro fuel
  induction fuel with
  | zero =>
    intro l a w _ hr hy hS H
    refine ⟨fun h => (by rw [h] at hr; cases hr), fun j hj => ?_⟩
    by_cases hji : j = i
    · subst hji; exact hy.wpOp hi hS ⟨.inl rfl, H⟩
    · have := ready_mono hj hji
      rw [H.1] at this
      cases this
  | succ fuel ih =>
    intro l a w hfree hr hy hS H
    refine ⟨fun h => (by rw [h] at hr; cases hr), fun j hj => ?_⟩
    by_cases hji : j = i
    · subst hji; exact hy.wpOp hi hS ⟨.inl rfl, H⟩
    · have h1 := H.2 j (ready_mono hj hji)
      obtain ⟨hjun, oj, hoj, hall⟩ := mem_ready.1 hj
      have hnot : ∀ e ∈ oj.after, Region.binds .any e = true → e.on ≠ i := fun e he hb heq => by
        have h1 := hall e he hb
        have h0 := (mem_ready.1 hr).1
        rw [heq] at h1
        rcases Nat.lt_or_ge i l.size with h' | h'
        · simp [h'] at h0 h1; rw [h0] at h1; cases h1
        · simp [Array.getElem?_eq_none h'] at h1
      have h2 := wpOp_putIf hoj (hfree j oj hoj hji hjun hnot) (fun cs b => hsel i oi cs b hi) (fun cs b => hsel j oj cs b hoj) hQ hy h1
      have hfree' : ∀ k ok, ops[k]? = some ok → k ≠ i → (l.setIfInBounds j true).getD k true = false →
          (∀ e ∈ ok.after, Region.binds .any e = true → e.on ≠ i) → oi.apart ops ok = true := fun k ok hk hki hun hno => by
        refine hfree k ok hk hki ?_ hno
        by_cases hjk : j = k
        · subst hjk; exact hjun
        · rw [getD_set_ne true hjk] at hun; exact hun
      refine wpOp_mono (fun a' w' h3 => ?_) h2
      obtain ⟨hy', hd, hk⟩ := h3
      have hTi : T i w' := by
        rcases hd with hd | hd
        · exact hT _ _ hd hS
        · exact hd i (hU j oj hoj hji hnot)
      refine ⟨hd, ih (l.setIfInBounds j true) a' w' hfree' (ready_mono hr (Ne.symm hji)) hy' hTi ?_⟩
      rw [Array.setIfInBounds_comm _ _ hji]
      exact hk
end
section
variable {P : Program}
theorem opS_run {ρ : Operand → Value} {o : Oper} {K : Value → Prop} (h : opS P ρ o K) : ∃ v, (∀ w, (execOp ρ o).run P w = .ok (.value v) w) ∧ K v := by
  unfold opS at h
  split at h
  · rename_i v hv
    exact ⟨v, pv_run hv, h⟩
  split at h
  case h_1 x ho =>
    split at h
    · rename_i p hp
      cases p with
      | none => exact h.elim
      | some a => exact ⟨_, fun w => by simp [execOp, ho, hp], h⟩
    · rename_i f a b hp
      exact ⟨_, fun w => by simp [execOp, ho, hp], h⟩
    · exact h.elim
  case h_2 t x f ho =>
    split at h
    · rename_i p ft off hp hf
      unfold fieldOff at hf
      split at hf <;> try (cases hf; done)
      rename_i fs hu
      split at hf <;> try (cases hf; done)
      rename_i fd hfd
      simp only [Option.some.injEq, Prod.mk.injEq] at hf
      obtain ⟨rfl, rfl⟩ := hf
      rw [Array.getElem?_toList] at hfd
      split at h
      · rename_i m hs
        obtain ⟨i, hi, hn⟩ := Option.map_eq_some_iff.1 hs
        cases p with
        | none => exact h.elim
        | some a =>
          refine ⟨_, fun w => ?_, h⟩
          simp [execOp, ho, hp, Instr.fieldAt, run_underlying hu, hfd, Instr.sureAddr, fieldPlace, sizeOf, typeInfo, hi, hn]
      · exact h.elim
    · exact h.elim
  case h_3 t x ix ho =>
    split at h
    · rename_i e base n c k i hu hx hi
      split at h
      · rename_i sz hs
        obtain ⟨ti, hti, hn⟩ := Option.map_eq_some_iff.1 hs
        obtain ⟨hb, h⟩ := h
        cases base with
        | none => exact h.elim
        | some a =>
          refine ⟨_, fun w => ?_, h⟩
          simp [execOp, ho, hx, hi, Instr.indexAt, asIntOf, run_underlying hu, hb, sizeOf, typeInfo, hti, hn]
      · exact h.elim
    · rename_i n e p k i hu hx hi
      split at h
      · rename_i sz hs
        obtain ⟨ti, hti, hn⟩ := Option.map_eq_some_iff.1 hs
        obtain ⟨hb, h⟩ := h
        cases p with
        | none => exact h.elim
        | some a =>
          refine ⟨_, fun w => ?_, h⟩
          simp [execOp, ho, hx, hi, Instr.indexAt, Instr.sureAddr, asIntOf, run_underlying hu, hb, sizeOf, typeInfo, hti, hn]
      · exact h.elim
    · exact h.elim
  case h_4 op t x y t' ho =>
    split at h
    · rename_i k a k' b hx hy
      split at h
      · rename_i hk
        obtain rfl := of_decide_eq_true hk
        obtain ⟨hb, h⟩ := h
        refine ⟨_, fun w => ?_, h⟩
        simp [execOp, ho, hx, hy, eqGuard, binOp, Op.intDiv, hb]
      · exact h.elim
    · rename_i k a k' b hx hy
      split at h
      · rename_i hk
        obtain rfl := of_decide_eq_true hk
        obtain ⟨hb, h⟩ := h
        refine ⟨_, fun w => ?_, h⟩
        simp [execOp, ho, hx, hy, eqGuard, binOp, Op.intDiv, hb]
      · exact h.elim
    · exact h.elim
  case h_5 => exact h.elim
theorem keepsAt_cons {a : Addr} {i : Nat} {v : Value} {vs : List Value} {w : World} : keepsAt a i (v :: vs) w ↔ w.cell? (a.add i) = some v ∧ keepsAt a (i + 1) vs w := by
  cases vs with
  | nil => simp [keepsAt]
  | cons u us => simp [keepsAt]
theorem keepsAt_heap : ∀ {vs : List Value} {a : Addr} {i : Nat} {w w' : World}, w'.heap = w.heap → keepsAt a i vs w → keepsAt a i vs w'
  | [], _, _, _, _, _, _ => trivial
  | v :: vs, a, i, w, w', hh, h => by
    rw [keepsAt_cons] at h ⊢
    refine ⟨?_, keepsAt_heap hh h.2⟩
    have := h.1
    unfold World.cell? at this ⊢
    rw [hh]; exact this
theorem keepsAt_run : ∀ (vs : List Value) (a : Addr) (i : Nat) (acc : Array Value) (w : World), keepsAt a i vs w → (loadCellsFrom a i vs.length acc).run P w = .ok (acc ++ vs.toArray) w
  | [], a, i, acc, w, _ => by simp [loadCellsFrom]
  | v :: vs, a, i, acc, w, h => by
    rw [keepsAt_cons] at h
    simp only [List.length_cons, loadCellsFrom, Sem.run_bind, run_load, h.1, Result.andThen_ok]
    rw [keepsAt_run vs a (i + 1) _ w h.2]
    congr 1
    apply Array.ext'
    simp
theorem LdN_keeps : ∀ (cs : List C1) (i : Nat) (a : Addr) (k : List Value → World → Prop) (w : World), LdN cs i a (lam cs k) w → ∃ vs : List Value, vs.length = cs.length ∧ keepsAt a i vs w ∧ k vs w
  | [], i, a, k, w, h => ⟨[], rfl, trivial, h⟩
  | c :: cs, i, a, k, w, ⟨x, hx, h⟩ => by
    obtain ⟨vs, h1, h2, h3⟩ := LdN_keeps cs (i + 1) a _ w h
    exact ⟨c.val x :: vs, by simp [h1], keepsAt_cons.2 ⟨hx, h2⟩, h3⟩
def TK (T : Kept) (i : Nat) (w : World) : Prop := ∀ a vs, (i, a, vs) ∈ T → keepsAt a 0 vs w
theorem TK_heap (T : Kept) (i : Nat) (w w' : World) (hh : w'.heap = w.heap) (h : TK T i w) : TK T i w' := fun a vs hm => keepsAt_heap hh (h a vs hm)
theorem keepK_elim {all : List Oper} {j : Nat} : ∀ {T : Kept} {X : Prop} {w : World}, keepK all j T X w → (∀ i, unord all i j = true → TK T i w) ∧ X
  | [], X, w, h => ⟨fun _ _ _ _ hm => (nomatch hm), h⟩
  | (i, a, vs) :: r, X, w, h => by
    unfold keepK at h
    split at h
    · rename_i hu
      obtain ⟨h1, h2⟩ := h
      obtain ⟨h3, h4⟩ := keepK_elim h2
      refine ⟨fun k hk b us hm => ?_, h4⟩
      rcases List.mem_cons.1 hm with he | hm
      · obtain ⟨rfl, rfl, rfl⟩ : k = i ∧ b = a ∧ us = vs := by simpa using he
        exact h1
      · exact h3 k hk b us hm
    · rename_i hu
      obtain ⟨h3, h4⟩ := keepK_elim h
      refine ⟨fun k hk b us hm => ?_, h4⟩
      rcases List.mem_cons.1 hm with he | hm
      · obtain ⟨rfl, rfl, rfl⟩ : k = i ∧ b = a ∧ us = vs := by simpa using he
        rw [hk] at hu; cases hu
      · exact h3 k hk b us hm
theorem unord_of {all : List Oper} {i j : Nat} {oj : Oper} (hj : all.toArray[j]? = some oj) (h : ∀ e ∈ oj.after, Region.binds .any e = true → e.on ≠ i) : unord all i j = true := by
  unfold unord
  rw [List.getElem?_toArray] at hj
  rw [hj]
  simp only [Bool.not_eq_true', List.any_eq_false, Bool.and_eq_true, beq_iff_eq, not_and]
  intro e he hb
  exact h e (by simpa using he) hb
theorem wp_of_ok {o : Oper} {e : Env} {K : Value → World → Prop} {w : World} {Q : Exit → Act → World → Prop} {K' : Act → World → Prop} (h : OpOk P (ev e) o K w) (hk : ∀ v w', K v w' → K' (act (putE e o.dst v)) w') : o.wp P (act e) w K' Q := by
  unfold Oper.wp
  rw [eval_act]
  rcases h with ⟨v, w', h1, h2⟩ | ⟨w', h1, h2⟩ | ⟨f, a, w', h1, h2⟩
  · rw [h1, Oper.upon_value, put_act]; exact hk _ _ h2
  · rw [h1, Oper.upon_skip, put_act]; exact hk _ _ h2
  · rw [h1, Oper.upon_enter]
    refine Calls.mono h2 ?_
    rintro _ w'' ⟨v, rfl, h3⟩
    simp only [put_act]
    exact hk _ _ h3
theorem opV_mono {ρ : Operand → Value} {o : Oper} {K K' : Value → World → Prop} {w : World} (h : opV P ρ o K w) (hk : ∀ v w, K v w → K' v w) : OpOk P ρ o K' w := (opV_ok h).mono hk
theorem not_listed {l : Array Bool} {i : Nat} (h : l.getD i true = false) : l.getD i false = false := by
  rcases Nat.lt_or_ge i l.size with h' | h'
  · simp [h'] at h ⊢; exact h
  · simp [Array.getElem?_eq_none h'] at h
theorem listed_set {l : Array Bool} {i j : Nat} (h : l.getD j false = true) : (l.setIfInBounds i true).getD j false = true := getD_set_true h
theorem listed_self {l : Array Bool} {i : Nat} (h : l.getD i true = false) : (l.setIfInBounds i true).getD i false = true := by
  rcases Nat.lt_or_ge i l.size with h' | h'
  · simp [h']
  · simp [Array.getElem?_eq_none h'] at h
theorem run_sound {all : List Oper} {K : Env → World → Prop} {e₀ : Env} {T : Kept} {l : Array Bool} {e : Env} {w : World} {fuel i : Nat} {p : Plan} (ha : agree (dsts all) e₀ e)
    (ih : ∀ (e : Env) (w : World), agree (dsts all) e₀ e → wpP P all p T K e w → wpAnyT P all.toArray (QN (dsts all) e₀ K) (TK T) (unord all) fuel (l.setIfInBounds i true) (act e) w)
    (h : match all[i]? with
      | some o => (match wantB all e o with
        | true => opV P (ev e) o (fun v w' => keepK all i T (splitV (isG all i) v fun v => wpP P all p T K (putE e o.dst v) w') w') w
        | false => wpP P all p T K (putE e o.dst undef) w)
      | none => False) :
    wpOp P all.toArray (QN (dsts all) e₀ K) i (fun a' w' => DT (TK T) (unord all) i w w' ∧ wpAnyT P all.toArray (QN (dsts all) e₀ K) (TK T) (unord all) fuel (l.setIfInBounds i true) a' w') (act e) w := by
  unfold wpOp
  split at h
  · rename_i o hoi
    have hmem := mem_dsts (List.mem_of_getElem? hoi)
    rw [List.getElem?_toArray, hoi]
    simp only [wanted_act]
    split at h
    · rename_i hw
      rw [hw]
      refine .inl (wp_of_ok (opV_ok h) fun v w' hk => ?_)
      obtain ⟨h1, h2⟩ := keepK_elim hk
      exact ⟨.inr h1, ih _ _ (ha.trans (agree.put v hmem)) (splitV_imp h2)⟩
    · rename_i hw
      rw [hw]
      simp only [Bool.false_eq_true, if_false, put_act]
      exact ⟨.inl rfl, ih _ _ (ha.trans (agree.put undef hmem)) h⟩
  · exact h.elim
theorem plan_sound {all : List Oper} {K : Env → World → Prop} {e₀ : Env} (hsel : Region.noSelect all.toArray = true) : ∀ (p : Plan) (T : Kept) (l : Array Bool) (e : Env) (w : World) (fuel : Nat), p.sz ≤ fuel →
    planOk all.toArray p l = true → (∀ x ∈ T, l.getD x.1 false = true) → agree (dsts all) e₀ e → wpP P all p T K e w → wpAnyT P all.toArray (QN (dsts all) e₀ K) (TK T) (unord all) fuel l (act e) w := by
  intro p
  induction p with
  | done =>
    intro T l e w fuel _ hok _ ha h
    simp only [planOk, List.isEmpty_iff] at hok
    exact wpAnyT_done hok ⟨e, rfl, ha, h⟩ fuel
  | take i p ih =>
    intro T l e w fuel hsz hok hl ha h
    obtain ⟨fuel, rfl⟩ : ∃ m, fuel = m + 1 := ⟨fuel - 1, by simp [Plan.sz] at hsz; omega⟩
    have hsz' : p.sz ≤ fuel := by simp [Plan.sz] at hsz; omega
    simp only [planOk, Bool.and_eq_true] at hok
    obtain ⟨⟨hfree, hready⟩, hok⟩ := hok
    have hready : i ∈ Region.ready .any all.toArray l := by simpa using hready
    have hun : l.getD i true = false := (mem_ready.1 hready).1
    have hnT : ∀ a vs, (i, a, vs) ∉ T := fun a vs hm => by
      have := hl _ hm
      rw [not_listed hun] at this
      cases this
    have hTi : ∀ w, TK T i w := fun w a vs hm => absurd hm (hnT a vs)
    unfold wpP at h
    split at h
    · rename_i o hoi
      have hmem := mem_dsts (List.mem_of_getElem? hoi)
      have hoi' : all.toArray[i]? = some o := by simpa using hoi
      have hQ : ∀ (v : Value) c a w, QN (dsts all) e₀ K (.panic c) (Act.put a o.dst v) w → QN (dsts all) e₀ K (.panic c) a w := fun _ _ _ _ hh => hh.elim
      have go : ∀ (T' : Kept) (v : Value), (∀ x ∈ T, x ∈ T') → (∀ x ∈ T', x ∈ T ∨ x.1 = i) → YieldsIf P all.toArray (TK T' i) o v (act e) → TK T' i w → wpP P all p T' K (putE e o.dst v) w →
          wpAnyT P all.toArray (QN (dsts all) e₀ K) (TK T) (unord all) (fuel + 1) l (act e) w := by
        intro T' v hsub hsup hy hT hh
        refine wpAnyT.weaken (T' := TK T') (fun k w hk a vs hm => hk a vs (hsub _ hm)) _ _ _ _ ?_
        refine wpAnyT_first hoi' (Region.noSelect_spec hsel) (hQ v) (fun w w' hw => TK_heap T' i w w' hw) (fun j oj hj _ hn => unord_of hj hn) fuel l (act e) w (Region.free_spec hoi' hfree) hready hy hT ?_
        rw [put_act]
        refine ih T' _ _ w fuel hsz' hok (fun x hx => ?_) (ha.trans (agree.put v hmem)) hh
        rcases hsup x hx with hx | hx
        · exact listed_set (hl x hx)
        · rw [hx]; exact listed_self hun
      have one : ∀ (a : Addr) (vs : List Value), keepsAt a 0 vs w → TK ((i, a, vs) :: T) i w := fun a vs hk b us hm => by
        rcases List.mem_cons.1 hm with he | hm
        · obtain ⟨rfl, rfl⟩ : b = a ∧ us = vs := by simpa using he
          exact hk
        · exact absurd hm (hnT _ _)
      have sub : ∀ (x : Nat × Addr × List Value), ∀ y ∈ T, y ∈ x :: T := fun x y hy => List.mem_cons_of_mem _ hy
      have sup : ∀ (a : Addr) (vs : List Value), ∀ y ∈ (i, a, vs) :: T, y ∈ T ∨ y.1 = i := fun a vs y hy => by
        rcases List.mem_cons.1 hy with rfl | hy
        · exact .inr rfl
        · exact .inl hy
      split at h
      · rename_i hw
        have hw' : Region.wanted o (yielded all.toArray (act e).tmps) = true := by rw [wanted_act]; exact hw
        split at h
        · rename_i t x hop
          split at h
          · rename_i q hq hag
            split at h
            · rename_i hs
              cases q with
              | none => exact h.elim
              | some a =>
                have hs := beq_iff_eq.1 hs
                obtain ⟨ti, hti, hn⟩ := Option.map_eq_some_iff.1 hs
                obtain ⟨vs, hlen, hkeep, hh⟩ := LdN_keeps _ 0 a _ w h
                refine go ((i, a, vs) :: T) _ (sub _) (sup a vs) (.inl ⟨hw', fun w' hT => ?_⟩) (one a vs hkeep) hh
                have hk := hT a vs List.mem_cons_self
                have := keepsAt_run (P := P) vs a 0 #[] w' hk
                rw [hlen] at this
                rw [eval_act]
                simp only [execOp, hop, hq, Sem.run_bind, Instr.loadAt, Instr.sureAddr, Sem.run_pure, Result.andThen_ok, loadVar, isAggT_run hag w', if_true, sizeOf, typeInfo, run_program, hti, hn, loadCells, this]
                simp
            · exact h.elim
          · rename_i q b c hq hag hsh
            cases q with
            | none => exact h.elim
            | some a =>
              obtain ⟨x, hx, h⟩ := h
              have hh := splitV_imp h
              refine go ((i, a, [c.val x]) :: T) _ (sub _) (sup a _) (.inl ⟨hw', fun w' hT => ?_⟩) (one a _ (by simpa [keepsAt, Addr.add] using hx)) hh
              have hk : w'.cell? a = some (c.val x) := by simpa [keepsAt, Addr.add] using hT a _ List.mem_cons_self
              rw [eval_act]
              simp [execOp, hop, hq, Instr.loadAt, Instr.sureAddr, loadVar, isAggT_run hag w', hk]
          · exact h.elim
        · obtain ⟨v, hrun, hk⟩ := opS_run h
          refine go T v (fun x hx => hx) (fun x hx => .inl hx) (.inl ⟨hw', fun w' _ => ?_⟩) (hTi w) (splitV_imp hk)
          rw [eval_act]
          exact hrun w'
      · rename_i hw
        exact go T undef (fun x hx => hx) (fun x hx => .inl hx) (.inr ⟨by rw [wanted_act]; exact hw, rfl⟩) (hTi w) h
    · exact h.elim
  | run i p ih =>
    intro T l e w fuel hsz hok hl ha h
    obtain ⟨fuel, rfl⟩ : ∃ m, fuel = m + 1 := ⟨fuel - 1, by simp [Plan.sz] at hsz; omega⟩
    have hsz' : p.sz ≤ fuel := by simp [Plan.sz] at hsz; omega
    simp only [planOk, Bool.and_eq_true, beq_iff_eq] at hok
    obtain ⟨hready, hok⟩ := hok
    refine ⟨fun h0 => (by rw [hready] at h0; cases h0), fun j hj => ?_⟩
    rw [hready] at hj
    obtain rfl : j = i := by simpa using hj
    unfold wpP at h
    exact run_sound ha (fun e' w' ha' hh => ih T _ e' w' fuel hsz' hok (fun x hx => listed_set (hl x hx)) ha' hh) h
  | run2 i p j q ihp ihq =>
    intro T l e w fuel hsz hok hl ha h
    obtain ⟨fuel, rfl⟩ : ∃ m, fuel = m + 1 := ⟨fuel - 1, by simp [Plan.sz] at hsz; omega⟩
    have hsp : p.sz ≤ fuel := by simp [Plan.sz] at hsz; omega
    have hsq : q.sz ≤ fuel := by simp [Plan.sz] at hsz; omega
    simp only [planOk, Bool.and_eq_true, beq_iff_eq] at hok
    obtain ⟨⟨hready, hokp⟩, hokq⟩ := hok
    unfold wpP at h
    refine ⟨fun h0 => (by rw [hready] at h0; cases h0), fun k hk => ?_⟩
    rw [hready] at hk
    rcases (by simpa using hk : k = i ∨ k = j) with rfl | rfl
    · exact run_sound ha (fun e' w' ha' hh => ihp T _ e' w' fuel hsp hokp (fun x hx => listed_set (hl x hx)) ha' hh) h.1
    · exact run_sound ha (fun e' w' ha' hh => ihq T _ e' w' fuel hsq hokq (fun x hx => listed_set (hl x hx)) ha' hh) h.2
theorem drawn_sound (hm : P.follows .mixedOrders = true) {id : Nat} {ops : Array Oper} {p : Plan} {K : Env → World → Prop} {e : Env} {w : World} (hp : planAll ops p = true) (h : wpP P ops.toList p [] K e w.drew) :
    (Code.region id ops true).wp P (QN (dsts ops.toList) e K) (act e) w := by
  simp only [planAll, Bool.and_eq_true, decide_eq_true_eq] at hp
  obtain ⟨⟨h1, h2⟩, h3⟩ := hp
  refine wp_region_any hm (wpAny_of_T (T := TK []) (U := unord ops.toList) _ _ _ _ ?_)
  have := plan_sound (P := P) (all := ops.toList) (K := K) (e₀ := e) (by simpa using h1) p [] (Array.replicate ops.size false) e w.drew ops.size h3 (by simpa using h2) (fun _ hx => (nomatch hx)) (agree.refl _ _) h
  simpa using this
end
end Go.Proofs.YtajilfnceoeaiaaGreat.V
/- The calculus of V is sound: bodies and calls. -/
namespace Go.Proofs.YtajilfnceoeaiaaGreat.V
open Go
section
variable {P : Program}
section
variable {ρ : Type} (d : ρ)
theorem apl_nil (f : Cur ρ []) : apl d [] f [] = f := rfl
theorem apl_nil_cons (f : Cur ρ []) (v : Value) (vs : List Value) : apl d [] f (v :: vs) = d := rfl
theorem apl_cons_nil (c : C1) (cs : List C1) (f : Cur ρ (c :: cs)) : apl d (c :: cs) f [] = d := rfl
theorem apl_some {c : C1} {cs : List C1} {f : Cur ρ (c :: cs)} {v : Value} {vs : List Value} {x : c.T} (h : c.un v = some x) : apl d (c :: cs) f (v :: vs) = apl d cs (f x) vs := by
  show (match c.un v with
    | some x => apl d cs (f x) vs
    | none => d) = _
  rw [h]
theorem apl_none {c : C1} {cs : List C1} {f : Cur ρ (c :: cs)} {v : Value} {vs : List Value} (h : c.un v = none) : apl d (c :: cs) f (v :: vs) = d := by
  show (match c.un v with
    | some x => apl d cs (f x) vs
    | none => d) = _
  rw [h]
end
theorem apl_all : ∀ {cs : List C1} {I : Cur (World → Prop) cs} {k : List Value → Prop} {vs : List Value} {w : World}, apl (fun _ => False) cs I vs w → allC cs k → k vs
  | [], I, k, [], w, _, hk => hk
  | [], I, k, v :: vs, w, h, _ => by rw [apl_nil_cons] at h; exact h.elim
  | c :: cs, I, k, [], w, h, _ => by rw [apl_cons_nil] at h; exact h.elim
  | c :: cs, I, k, v :: vs, w, h, hk => by
    cases hx : c.un v with
    | none => rw [apl_none _ hx] at h; exact h.elim
    | some x =>
      rw [apl_some _ hx] at h
      rw [C1.un_val c v x hx]
      exact apl_all (k := fun vs => k (c.val x :: vs)) h (hk x)
theorem set_same {e : Env} {d : Nat} : e.set d (e.getD d undef) = e := by
  apply List.ext_getElem?
  intro j
  by_cases hj : d = j
  · subst hj
    rcases Nat.lt_or_ge d e.length with h | h
    · simp [h]
    · simp [h]
  · rw [List.getElem?_set_ne hj]
theorem junk_agree : ∀ (ds : List Nat) (e e' : Env), e'.length = e.length → (∀ i, i ∉ ds → e'[i]? = e[i]?) → junk (fun d => e'.getD d undef) ds e = e'
  | [], e, e', hl, h => List.ext_getElem? fun i => (h i (by simp)).symm
  | d :: r, e, e', hl, h => by
    refine junk_agree r _ e' (by simp [hl]) fun i hi => ?_
    by_cases hd : d = i
    · subst hd
      rcases Nat.lt_or_ge d e.length with hlt | hge
      · simp [hlt, List.getD, hl]
      · simp [hge, hl]
    · rw [List.getElem?_set_ne hd]
      exact h i (by simp only [List.mem_cons, not_or]; exact ⟨Ne.symm hd, hi⟩)
theorem wr_slots : ∀ (js : List (Nat × C1)) (e : Env), wr js (slots js e) e = e
  | [], e => by simp [wr]
  | (d, c) :: r, e => by
    simp only [slots, wr, set_same]
    exact wr_slots r e
def QK (ds : List Nat) (e₀ : Env) (K : X → Env → World → Prop) : Exit → Act → World → Prop
  | .normal, a, w => ∃ e, a = act e ∧ agree ds e₀ e ∧ K .normal e w
  | .exit i, a, w => ∃ e, a = act e ∧ agree ds e₀ e ∧ K (.exit i) e w
  | .ret, a, w => ∃ e, a = act e ∧ agree ds e₀ e ∧ K .ret e w
  | _, _, _ => False
theorem QK.mono {ds ds' : List Nat} {e₀ e₁ : Env} {K K' : X → Env → World → Prop} {x : Exit} {a : Act} {w : World} (h : QK ds e₀ K x a w) (hs : ∀ i, i ∈ ds → i ∈ ds') (h01 : agree ds' e₁ e₀) (hk : ∀ x e w, K x e w → K' x e w) : QK ds' e₁ K' x a w := by
  cases x <;> first
    | (obtain ⟨e, h1, h2, h3⟩ := h; exact ⟨e, h1, h01.trans (h2.mono hs), hk _ _ _ h3⟩)
    | exact h.elim
variable {H : Hints}
theorem WP_sound (hm : P.follows .mixedOrders = true) : ∀ (c : Code) (K : X → Env → World → Prop) (e : Env) (w : World), WP P H c K e w → c.wp P (QK (mods c) e K) (act e) w := by
  intro c
  induction c with
  | skip => exact fun K e w h => wp_skip ⟨e, rfl, agree.refl _ _, h⟩
  | label l => exact fun K e w h => wp_label ⟨e, rfl, agree.refl _ _, h⟩
  | ret => exact fun K e w h => wp_ret ⟨e, rfl, agree.refl _ _, h⟩
  | exit i => exact fun K e w h => wp_exit ⟨e, rfl, agree.refl _ _, h⟩
  | goto l => exact fun K e w h => h.elim
  | refuse s => exact fun K e w h => h.elim
  | rangeFunc f ps a b _ _ => exact fun K e w h => h.elim
  | scope c ih =>
    intro K e w h
    refine wp_scope_straight (wp_mono (ih K e w h) fun x a w hq => ?_)
    cases x <;> first | exact hq | exact hq.elim
  | block i c ih =>
    intro K e w h
    refine wp_block (wp_mono (ih _ e w h) fun x a w hq => ?_)
    cases x with
    | exit j =>
      obtain ⟨e', h1, h2, h3⟩ := hq
      simp only [Exit.inBlock]
      by_cases hj : j = i
      · subst hj
        simp only [beq_self_eq_true] at h3
        simp only [if_true]
        exact ⟨e', h1, h2, h3⟩
      · have : (j == i) = false := by simpa using hj
        simp only [this] at h3
        simp only [hj, if_false]
        exact ⟨e', h1, h2, h3⟩
    | normal => exact hq
    | ret => exact hq
    | goto l => exact hq.elim
    | panic l => exact hq.elim
    | outgrown => exact hq.elim
  | cond c a b iha ihb =>
    intro K e w h
    unfold WP at h
    split at h
    · rename_i t ht
      refine wp_cond (t := t) (by rw [eval_act]; exact ht) ?_
      cases t with
      | true =>
        simp only [If] at h
        split at h
        · exact h.elim
        · exact wp_mono (iha K e w h) fun x a w hq => QK.mono hq (fun i hi => List.mem_append_left _ hi) (agree.refl _ _) (fun _ _ _ h => h)
      | false =>
        simp only [If] at h
        split at h
        · exact h.elim
        · exact wp_mono (ihb K e w h) fun x a w hq => QK.mono hq (fun i hi => List.mem_append_right _ hi) (agree.refl _ _) (fun _ _ _ h => h)
    · exact h.elim
  | region id ops d =>
    intro K e w h
    cases d with
    | false =>
      refine wp_mono (region_sound h) fun x a w hq => ?_
      cases x <;> first | exact hq | exact hq.elim
    | true =>
      unfold WP at h
      split at h
      · split at h
        · rename_i hp
          refine wp_mono (drawn_sound hm hp h) fun x a w hq => ?_
          cases x <;> first | exact hq | exact hq.elim
        · exact h.elim
      · refine wp_mono h fun x a w hq => ?_
        cases x <;> first | exact hq | exact hq.elim
  | seq a b iha ihb =>
    intro K e w h
    have hl : ∀ i, i ∈ mods a → i ∈ mods (.seq a b) := fun i hi => List.mem_append_left _ hi
    have hr : ∀ i, i ∈ mods b → i ∈ mods (.seq a b) := fun i hi => List.mem_append_right _ hi
    unfold WP at h
    split at h
    · refine wp_seq (wp_mono (iha _ e w h) fun x a' w' hq => ?_)
      cases x with
      | normal =>
        obtain ⟨e', rfl, h2, h3⟩ := hq
        simp only [Exit.then]
        have h3 : (match isCut (firstR b) H.cuts with
          | true => False
          | false => WP P H b K e' w') := h3
        split at h3
        · exact h3.elim
        · exact wp_mono (ihb K e' w' h3) fun x a w hq => QK.mono hq hr (h2.mono hl) (fun _ _ _ h => h)
      | exit j => obtain ⟨e', h1, h2, h3⟩ := hq; exact ⟨e', h1, h2.mono hl, h3⟩
      | ret => obtain ⟨e', h1, h2, h3⟩ := hq; exact ⟨e', h1, h2.mono hl, h3⟩
      | goto l => exact hq.elim
      | panic l => exact hq.elim
      | outgrown => exact hq.elim
    · rename_i js _
      obtain ⟨J, h1, h2⟩ := h
      refine wp_seq (wp_mono (iha _ e w h1) fun x a' w' hq => ?_)
      cases x with
      | normal =>
        obtain ⟨e', rfl, ha, h3⟩ := hq
        simp only [Exit.then]
        have h4 := apl_all h3 h2 w' h3 (fun d => e'.getD d undef)
        rw [junk_agree (mods a) e e' ha.1 ha.2, wr_slots] at h4
        exact wp_mono (ihb K e' w' h4) fun x a w hq => QK.mono hq hr (ha.mono hl) (fun _ _ _ h => h)
      | exit j => obtain ⟨e', h1, h2, h3⟩ := hq; exact ⟨e', h1, h2.mono hl, h3⟩
      | ret => obtain ⟨e', h1, h2, h3⟩ := hq; exact ⟨e', h1, h2.mono hl, h3⟩
      | goto l => exact hq.elim
      | panic l => exact hq.elim
      | outgrown => exact hq.elim
  | loop c ih =>
    intro K e w h
    unfold WP at h
    split at h
    · exact h.elim
    · rename_i js _
      obtain ⟨I, μ, h1, h2⟩ := h
      refine wp_loop (fun a w => ∃ e', a = act e' ∧ agree (mods c) e e' ∧ apl (fun _ => False) (kinds js) I (slots js e') w) (fun a w => apl (fun _ => 0) (kinds js) μ (slots js a.tmps.toList) w) ⟨e, rfl, agree.refl _ _, h1⟩ ?_
      rintro _ w₁ ⟨e', rfl, ha, hI⟩
      have h4 := apl_all hI h2 w₁ hI (fun d => e'.getD d undef)
      rw [junk_agree (mods c) e e' ha.1 ha.2, wr_slots] at h4
      refine wp_mono (ih _ e' w₁ h4) fun x a' w' hq => ?_
      cases x with
      | normal =>
        obtain ⟨e'', rfl, hb, h5, h6⟩ := hq
        exact ⟨⟨e'', rfl, ha.trans hb, h5⟩, by simpa [act] using h6⟩
      | exit j => obtain ⟨e'', k1, k2, k3⟩ := hq; exact ⟨e'', k1, ha.trans k2, k3⟩
      | ret => obtain ⟨e'', k1, k2, k3⟩ := hq; exact ⟨e'', k1, ha.trans k2, k3⟩
      | goto l => exact hq.elim
      | panic l => exact hq.elim
      | outgrown => exact hq.elim
theorem asm_flat : ∀ (sh : List Sh) (vs : List Value), shOk sh vs = true → asm sh (flatV vs) = vs
  | [], [], _ => rfl
  | [], _ :: _, h => by simp [shOk] at h
  | _ :: _, [], h => by simp [shOk] at h
  | s :: r, v :: vs, h => by
    simp only [shOk, Bool.and_eq_true] at h
    have ih := asm_flat r vs h.2
    have hv := h.1
    unfold asm flatV
    cases hs : s.agg with
    | true =>
      rw [hs] at hv
      cases v <;> simp only [Bool.false_eq_true] at hv
      rename_i cs
      have hlen : cs.toList.length = s.cs.length := by simpa using hv
      simp only [cellsL]
      rw [← hlen, List.take_left' rfl, List.drop_left' rfl, ih]
    | false =>
      rw [hs] at hv
      have hlen : s.cs.length = 1 := by cases v <;> simp_all
      have hc : cellsL v = [v] := by cases v <;> simp_all [cellsL]
      rw [hc, hlen]
      simp [ih]
theorem exK_of_apl : ∀ (cs : List C1) (K : Cur (World → Prop) cs) (vs : List Value) (r : List Value → Prop) (w : World), apl (fun _ => False) cs K vs w → r vs → exK cs K r w
  | [], K, [], r, w, h, hr => ⟨hr, h⟩
  | [], K, _ :: _, _, _, h, _ => by rw [apl_nil_cons] at h; exact h.elim
  | _ :: _, _, [], _, _, h, _ => by rw [apl_cons_nil] at h; exact h.elim
  | c :: cs, K, v :: vs, r, w, h, hr => by
    cases hx : c.un v with
    | none => rw [apl_none _ hx] at h; exact h.elim
    | some x =>
      rw [apl_some _ hx] at h
      refine ⟨x, exK_of_apl cs (K x) vs _ w h ?_⟩
      rw [← C1.un_val c v x hx]
      exact hr
theorem mk_flat {sh : List Sh} {vs : List Value} (h : shOk sh vs = true) : mk sh (flatV vs) = if h : vs.toArray.size = 1 then vs.toArray[0] else .tuple vs.toArray := by
  unfold mk
  rw [asm_flat sh vs h]
  match vs with
  | [] => rfl
  | [v] => simp
  | u :: v :: r => simp
def rvF (tmps : Array Value) : ResultVar → Sem Value
  | .tmp t => pure (tmps.getD t undef)
  | .cell a t => do loadVar t (← asAddr (tmps.getD a undef))
theorem ret_run {e : Env} : ∀ (rs : List ResultVar) (acc : List Value) (k : List Value → World → Prop) (w : World), retV P rs acc k e w →
    ∃ vs : List Value, (rs.mapM (rvF (act e).tmps)).run P w = .ok vs w ∧ k (acc.reverse ++ vs) w
  | [], acc, k, w, h => ⟨[], by simp, by simpa [retV] using h⟩
  | .tmp t :: r, acc, k, w, h => by
    obtain ⟨vs, h1, h2⟩ := ret_run r _ k w h
    refine ⟨e.getD t undef :: vs, ?_, by simpa using h2⟩
    have h0 : (rvF (act e).tmps (.tmp t)).run P w = .ok (e.getD t undef) w := by simp [rvF, act]
    simp only [List.mapM_cons, Sem.run_bind, Sem.run_pure, Result.andThen_ok, h0, h1]
  | .cell a t :: r, acc, k, w, h => by
    have hget : (act e).tmps.getD a undef = e.getD a undef := by simp [act]
    unfold retV at h
    split at h
    · rename_i p hp hag
      split at h
      · rename_i hs
        cases p with
        | none => exact h.elim
        | some b =>
          obtain ⟨vs, h1, h2⟩ := LdN_run (P := P) _ 0 b _ #[] w h
          obtain ⟨us, h3, h4⟩ := ret_run r _ k w h2
          have hs := beq_iff_eq.1 hs
          obtain ⟨ti, hti, hn⟩ := Option.map_eq_some_iff.1 hs
          have h0 : (rvF (act e).tmps (.cell a t)).run P w = .ok (.agg vs.toArray) w := by
            simp only [rvF, Sem.run_bind, hget, hp, asAddr, Sem.run_pure, Result.andThen_ok, loadVar, isAggT_run hag w, if_true, sizeOf, typeInfo, run_program, hti, hn, loadCells, h1]
            simp
          refine ⟨_ :: us, ?_, by simpa using h4⟩
          simp only [List.mapM_cons, Sem.run_bind, Sem.run_pure, Result.andThen_ok, h0, h3]
      · exact h.elim
    · rename_i p b c hp hag hsh
      cases p with
      | none => exact h.elim
      | some q =>
        obtain ⟨x, hx, h⟩ := h
        obtain ⟨us, h3, h4⟩ := ret_run r _ k w h
        have h0 : (rvF (act e).tmps (.cell a t)).run P w = .ok (c.val x) w := by
          simp only [rvF, Sem.run_bind, hget, hp, asAddr, Sem.run_pure, Result.andThen_ok, loadVar, isAggT_run hag w, Bool.false_eq_true, if_false, run_load, hx]
        refine ⟨c.val x :: us, ?_, by simpa using h4⟩
        simp only [List.mapM_cons, Sem.run_bind, Sem.run_pure, Result.andThen_ok, h0, h3]
    · exact h.elim
/-- A body's proposition is enough for a call. -/
theorem call_of {H : Hints} {f : FuncId} {fn : Func} {args : List Value} {sh : List Sh} {K : Cur (World → Prop) (flat sh)} {w : World} {X : Prop}
    (hf : P.funcs[f]? = some fn) (hm : P.follows .mixedOrders = true) (hx : WPF P H fn args sh K w = X) (h : X) : Call P f args sh K w := by
  rw [← hx] at h
  unfold WPF at h
  split at h
  · rename_i c hb
    refine calls_of_wp hf hb ?_
    have h0 : ({ tmps := args.toArray ++ Array.replicate (fn.ntmps - args.toArray.size) undef, defers := [] } : Act) = act (args ++ List.replicate (fn.ntmps - args.length) undef) := by
      simp [act]
    rw [h0]
    refine wp_mono (WP_sound hm _ _ _ _ h) fun x a w' hq => ?_
    have key : ∀ e, retV P fn.results.toList [] (fun vs w => match shOk sh vs with
        | true => apl (fun _ => False) (flat sh) K (flatV vs) w
        | false => False) e w' → (act e).defers = [] ∧ ∃ v, (results fn (act e).tmps).run P w' = .ok v w' ∧ exK (flat sh) K (fun vs => Ending.returned v = .returned (mk sh vs)) w' := by
      intro e hr
      obtain ⟨vs, h1, h2⟩ := ret_run _ _ _ _ hr
      simp only [List.reverse_nil, List.nil_append] at h2
      split at h2
      · rename_i hs
        refine ⟨rfl, mk sh (flatV vs), ?_, exK_of_apl _ _ _ _ _ h2 rfl⟩
        show ((fn.results.mapM (rvF (act e).tmps)) >>= fun vs => pure (if h : vs.size = 1 then vs[0] else .tuple vs) : Sem Value).run P w' = _
        rw [Array.mapM_eq_mapM_toList, Sem.run_bind, Sem.run_map, h1]
        simp only [Result.andThen_ok, Sem.run_pure, mk_flat hs]
      · exact h2.elim
    cases x with
    | normal => obtain ⟨e, rfl, _, h3⟩ := hq; exact key e h3
    | ret => obtain ⟨e, rfl, _, h3⟩ := hq; exact key e h3
    | exit i => obtain ⟨e, rfl, _, h3⟩ := hq; exact h3.elim
    | goto l => exact hq.elim
    | panic l => exact hq.elim
    | outgrown => exact hq.elim
  · exact h.elim
end
end Go.Proofs.YtajilfnceoeaiaaGreat.V
/- Words over the program: the shapes of its types, its structs. -/
namespace Go.Proofs.YtajilfnceoeaiaaGreat.V
open Go
noncomputable abbrev P : Program := Tryz.prog
def sI : Sh := ⟨false, [.ki .i64]⟩
def sB : Sh := ⟨false, [.kb]⟩
def sS : Sh := ⟨false, [.ks]⟩
def sP : Sh := ⟨false, [.kp]⟩
def sM : Sh := ⟨false, [.km]⟩
def sC : Sh := ⟨false, [.kc]⟩
def sV : Sh := ⟨false, [.kv]⟩
theorem mixed : P.follows .mixedOrders = true := by kernel_rfl
structure Plat where
  levels : Sl
  sleeps : Sl
  devices : Sl
  idle : Int
  crit : Int
  switch : Int
  switchE : Int
  sems : Int
  horizon : Int
def Plat.l (x : Plat) : List Value := [.slice x.levels.a x.levels.n x.levels.c, .slice x.sleeps.a x.sleeps.n x.sleeps.c, .slice x.devices.a x.devices.n x.devices.c, .int .i64 x.idle, .int .i64 x.crit, .int .i64 x.switch, .int .i64 x.switchE, .int .i64 x.sems, .int .i64 x.horizon]
def Plat.v (x : Plat) : Value := .agg #[.slice x.levels.a x.levels.n x.levels.c, .slice x.sleeps.a x.sleeps.n x.sleeps.c, .slice x.devices.a x.devices.n x.devices.c, .int .i64 x.idle, .int .i64 x.crit, .int .i64 x.switch, .int .i64 x.switchE, .int .i64 x.sems, .int .i64 x.horizon]
def shPlat : Sh := ⟨true, [.ks, .ks, .ks, .ki .i64, .ki .i64, .ki .i64, .ki .i64, .ki .i64, .ki .i64]⟩
structure Task where
  period : Int
  cycles : Int
  sec : Sl
  devs : Sl
def Task.l (x : Task) : List Value := [.int .i64 x.period, .int .i64 x.cycles, .slice x.sec.a x.sec.n x.sec.c, .slice x.devs.a x.devs.n x.devs.c]
def Task.v (x : Task) : Value := .agg #[.int .i64 x.period, .int .i64 x.cycles, .slice x.sec.a x.sec.n x.sec.c, .slice x.devs.a x.devs.n x.devs.c]
def shTask : Sh := ⟨true, [.ki .i64, .ki .i64, .ks, .ks]⟩
structure Step where
  kind : Int
  a : Int
  b : Int
  c : Int
  period : Int
  cycles : Int
  sec : Sl
  devs : Sl
def Step.l (x : Step) : List Value := [.int .i64 x.kind, .int .i64 x.a, .int .i64 x.b, .int .i64 x.c, .int .i64 x.period, .int .i64 x.cycles, .slice x.sec.a x.sec.n x.sec.c, .slice x.devs.a x.devs.n x.devs.c]
def Step.v (x : Step) : Value := .agg #[.int .i64 x.kind, .int .i64 x.a, .int .i64 x.b, .int .i64 x.c, .int .i64 x.period, .int .i64 x.cycles, .slice x.sec.a x.sec.n x.sec.c, .slice x.devs.a x.devs.n x.devs.c]
def shStep : Sh := ⟨true, [.ki .i64, .ki .i64, .ki .i64, .ki .i64, .ki .i64, .ki .i64, .ks, .ks]⟩
structure Event where
  kind : Int
  task : Int
  at_ : Int
  due : Int
def Event.l (x : Event) : List Value := [.int .i64 x.kind, .int .i64 x.task, .int .i64 x.at_, .int .i64 x.due]
def Event.v (x : Event) : Value := .agg #[.int .i64 x.kind, .int .i64 x.task, .int .i64 x.at_, .int .i64 x.due]
def shEvent : Sh := ⟨true, [.ki .i64, .ki .i64, .ki .i64, .ki .i64]⟩
structure Job where
  task : Int
  release : Int
  deadline : Int
  left : Int
  real : Int
  started : Bool
def Job.l (x : Job) : List Value := [.int .i64 x.task, .int .i64 x.release, .int .i64 x.deadline, .int .i64 x.left, .int .i64 x.real, .bool x.started]
def Job.v (x : Job) : Value := .agg #[.int .i64 x.task, .int .i64 x.release, .int .i64 x.deadline, .int .i64 x.left, .int .i64 x.real, .bool x.started]
def shJob : Sh := ⟨true, [.ki .i64, .ki .i64, .ki .i64, .ki .i64, .ki .i64, .kb]⟩
structure Device where
  on : Int
  off : Int
  down : Int
  up : Int
  downE : Int
  upE : Int
  even : Int
def Device.l (x : Device) : List Value := [.int .i64 x.on, .int .i64 x.off, .int .i64 x.down, .int .i64 x.up, .int .i64 x.downE, .int .i64 x.upE, .int .i64 x.even]
def Device.v (x : Device) : Value := .agg #[.int .i64 x.on, .int .i64 x.off, .int .i64 x.down, .int .i64 x.up, .int .i64 x.downE, .int .i64 x.upE, .int .i64 x.even]
def shDevice : Sh := ⟨true, [.ki .i64, .ki .i64, .ki .i64, .ki .i64, .ki .i64, .ki .i64, .ki .i64]⟩
structure Away where
  from_ : Int
  until_ : Int
def Away.l (x : Away) : List Value := [.int .i64 x.from_, .int .i64 x.until_]
def Away.v (x : Away) : Value := .agg #[.int .i64 x.from_, .int .i64 x.until_]
def shAway : Sh := ⟨true, [.ki .i64, .ki .i64]⟩
structure Interval where
  kind : Int
  from_ : Int
  len : Int
  arg : Int
  task : Int
  cycles : Int
def Interval.l (x : Interval) : List Value := [.int .i64 x.kind, .int .i64 x.from_, .int .i64 x.len, .int .i64 x.arg, .int .i64 x.task, .int .i64 x.cycles]
def Interval.v (x : Interval) : Value := .agg #[.int .i64 x.kind, .int .i64 x.from_, .int .i64 x.len, .int .i64 x.arg, .int .i64 x.task, .int .i64 x.cycles]
def shInterval : Sh := ⟨true, [.ki .i64, .ki .i64, .ki .i64, .ki .i64, .ki .i64, .ki .i64]⟩
structure Meter where
  run : Int
  idle : Int
  switch : Int
  sleep : Int
def Meter.l (x : Meter) : List Value := [.int .i64 x.run, .int .i64 x.idle, .int .i64 x.switch, .int .i64 x.sleep]
def Meter.v (x : Meter) : Value := .agg #[.int .i64 x.run, .int .i64 x.idle, .int .i64 x.switch, .int .i64 x.sleep]
def shMeter : Sh := ⟨true, [.ki .i64, .ki .i64, .ki .i64, .ki .i64]⟩
structure Held where
  task : Int
  sem : Int
  left : Int
def Held.l (x : Held) : List Value := [.int .i64 x.task, .int .i64 x.sem, .int .i64 x.left]
def Held.v (x : Held) : Value := .agg #[.int .i64 x.task, .int .i64 x.sem, .int .i64 x.left]
def shHeld : Sh := ⟨true, [.ki .i64, .ki .i64, .ki .i64]⟩
structure Level where
  p : Int
  e : Int
def Level.l (x : Level) : List Value := [.int .i64 x.p, .int .i64 x.e]
def Level.v (x : Level) : Value := .agg #[.int .i64 x.p, .int .i64 x.e]
def shLevel : Sh := ⟨true, [.ki .i64, .ki .i64]⟩
structure Sleep where
  power : Int
  enter : Int
  exit : Int
  enterE : Int
  exitE : Int
  even : Int
def Sleep.l (x : Sleep) : List Value := [.int .i64 x.power, .int .i64 x.enter, .int .i64 x.exit, .int .i64 x.enterE, .int .i64 x.exitE, .int .i64 x.even]
def Sleep.v (x : Sleep) : Value := .agg #[.int .i64 x.power, .int .i64 x.enter, .int .i64 x.exit, .int .i64 x.enterE, .int .i64 x.exitE, .int .i64 x.even]
def shSleep : Sh := ⟨true, [.ki .i64, .ki .i64, .ki .i64, .ki .i64, .ki .i64, .ki .i64]⟩
structure Item where
  key : Int
  id : Int
def Item.l (x : Item) : List Value := [.int .i64 x.key, .int .i64 x.id]
def Item.v (x : Item) : Value := .agg #[.int .i64 x.key, .int .i64 x.id]
def shItem : Sh := ⟨true, [.ki .i64, .ki .i64]⟩
end Go.Proofs.YtajilfnceoeaiaaGreat.V
