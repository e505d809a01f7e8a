/-
  A small machine for the Go functions of this seat: abstract values, a store of what a call has made, the operations with their types resolved,
  and the weakest precondition of code. No memory, no tape in it.
-/
import GoSem.Core.Lib
import GoSem.Core.Region
import GoSem.Op.Equal
import Derived.Attr
namespace Go.Proofs.Ytiadalheipbpcaa
set_option linter.all false

inductive V where
  | jk
  | bo (p : Bool)
  | i (k : IntKind) (n : Int)
  | s (y : ByteArray)
  | ag (cs : List V)
  | tp (vs : List V)
  | nil
  | sl (es : List (List V))
  | rw (id sz off len : Nat)
  | ra (id i j len : Nat)
  | pt (id i j : Nat)
  | ip (cs : List V) (j : Nat)
  | np
  | fn (g : Nat) (caps : List V)
  | nf
  | mp (id : Nat)
  | nm
  | it (id : Nat)

inductive Ob where
  | row (sz : Nat) (es : List (List V))
  | map (ents : List (Nat × V × V)) (clock : Nat)
  | iter (mp : Option Nat) (since : Nat) (seen : List Nat) (stepped : Nat)

abbrev E := Nat → V
abbrev O := Nat → Option Ob

def upd {α : Type} (g : Nat → α) (j : Nat) (y : α) : Nat → α := fun k => if k = j then y else g k
def emp : O := fun _ => none

inductive Od where
  | t (n : Nat)
  | k (v : V)

def Od.ev (e : E) : Od → V
  | .t n => e n
  | .k v => v

def put (e : E) (d : Option Nat) (v : V) : E :=
  match d with
  | some d => upd e d v
  | none => e

def V.cells : V → List V
  | .ag cs => cs
  | .jk => []
  | .tp _ => []
  | v => [v]

def V.isAg : V → Bool
  | .ag _ => true
  | _ => false

/-! plain operations -/
def arith (o : BinOp) (k : IntKind) (a b : Int) : Option V :=
  match o with
  | .add => some (.i k (k.wrap (a + b)))
  | .sub => some (.i k (k.wrap (a - b)))
  | .mul => some (.i k (k.wrap (a * b)))
  | .quo => if b = 0 then none else some (.i k (k.wrap (a.tdiv b)))
  | .rem => if b = 0 then none else some (.i k (a.tmod b))
  | .and => some (.i k (k.wrap (BitVec.ofInt k.bits a &&& BitVec.ofInt k.bits b).toNat))
  | .or => some (.i k (k.wrap (BitVec.ofInt k.bits a ||| BitVec.ofInt k.bits b).toNat))
  | .xor => some (.i k (k.wrap (BitVec.ofInt k.bits a ^^^ BitVec.ofInt k.bits b).toNat))
  | .andNot => some (.i k (k.wrap (BitVec.ofInt k.bits a &&& ~~~BitVec.ofInt k.bits b).toNat))
  | .eql => some (.bo (a == b))
  | .neq => some (.bo (a != b))
  | .lss => some (.bo (decide (a < b)))
  | .leq => some (.bo (decide (a ≤ b)))
  | .gtr => some (.bo (decide (a > b)))
  | .geq => some (.bo (decide (a ≥ b)))
  | .shl => none
  | .shr => none

def shiftV (o : BinOp) (k : IntKind) (a b : Int) : Option V :=
  match o with
  | .shl => if b < 0 then none else some (.i k (k.wrap (a * 2 ^ (min b.toNat k.bits))))
  | .shr => if b < 0 then none else some (.i k (a.fdiv (2 ^ (min b.toNat k.bits))))
  | _ => none

def strV (o : BinOp) (a b : ByteArray) : Option V :=
  match o with
  | .add => if a.size + b.size ≤ 1099511627776 then some (.s (a ++ b)) else none
  | .eql => some (.bo (a.toList == b.toList))
  | .neq => some (.bo (!(a.toList == b.toList)))
  | _ => none

def isShift : BinOp → Bool
  | .shl | .shr => true
  | _ => false

def binV (o : BinOp) : V → V → Option V
  | .i k a, .i k' b => if isShift o then shiftV o k a b else if k = k' then arith o k a b else none
  | .s a, .s b => strV o a b
  | _, _ => none

def eqbV (neg : Bool) : V → V → Option V
  | .bo p, .bo q => some (.bo ((p == q) != neg))
  | _, _ => none

def unV (o : UnOp) : V → Option V
  | .i k n => match o with
    | .neg => some (.i k (k.wrap (0 - n)))
    | .xor => some (.i k (k.wrap (BitVec.ofInt k.bits (if k.signed then -1 else k.max) ^^^ BitVec.ofInt k.bits n).toNat))
    | _ => none
  | .bo p => match o with
    | .not => some (.bo (!p))
    | _ => none
  | _ => none

inductive Lf where
  | b
  | i (k : IntKind)
  | s

def lfEq : Lf → V → V → Option Bool
  | .b, .bo p, .bo q => some (p == q)
  | .i k, .i k1 a, .i k2 b => if k1 = k ∧ k2 = k then some (a == b) else none
  | .s, .s a, .s b => some (a.toList == b.toList)
  | _, _, _ => none

def eqps : List Lf → List V → List V → Option Bool
  | [], [], [] => some true
  | l :: ls, x :: xs, y :: ys =>
    match lfEq l x y, eqps ls xs ys with
    | some p, some q => some (p && q)
    | _, _ => none
  | _, _, _ => none

def eqV (ag : Bool) (ks : List Lf) (x y : V) : Option Bool :=
  if x.isAg = ag ∧ y.isAg = ag then eqps ks x.cells y.cells else none

def prt (ag : Bool) (off sz : Nat) (cs : List V) : Option V :=
  if ag then (if off + sz ≤ cs.length then some (.ag ((cs.drop off).take sz)) else none) else cs[off]?

def splice : Nat → List V → List V → List V
  | 0, [], z => z
  | 0, v :: vs, _ :: z => v :: splice 0 vs z
  | n + 1, vs, y :: z => y :: splice n vs z
  | _, _, [] => []

def fillC (e : E) : List (Nat × Nat × Od) → List V → Option (List V)
  | [], z => some z
  | (off, sz, x) :: r, z =>
    if (x.ev e).cells.length = sz ∧ off + sz ≤ z.length then fillC e r (splice off (x.ev e).cells z) else none

def fillE (e : E) (sz : Nat) : List (Nat × Od) → List (List V) → Option (List (List V))
  | [], es => some es
  | (i, x) :: r, es =>
    if (x.ev e).cells.length = sz ∧ i < es.length then fillE e sz r (es.set i (x.ev e).cells) else none

def lenV : V → Option Nat
  | .nil => some 0
  | .sl es => some es.length
  | .rw _ _ _ l => some l
  | .ra _ _ _ l => some l
  | .s y => some y.size
  | _ => none

def natV : V → Option Nat
  | .i _ n => if 0 ≤ n then some n.toNat else none
  | _ => none

/-- s[l:h:m], with l, h given and whether a third bound was. -/
def cutV (sz l h : Nat) (m : Option Nat) : V → Option V
  | .nil => if l = 0 ∧ h = 0 ∧ (m = none ∨ m = some 0) then some .nil else none
  | .sl es => match m with
    | none => if l ≤ h ∧ h ≤ es.length ∧ es.all (fun c => c.length == sz) = true then some (.sl ((es.take h).drop l)) else none
    | some m => if l = h ∧ h = m ∧ m ≤ es.length then some .nil else none
  | .rw id sz' off len => match m with
    | none => if sz' = sz ∧ l ≤ h ∧ h ≤ len then some (.rw id sz (off + l) (h - l)) else none
    | some m => if l = h ∧ h = m ∧ m ≤ len then some .nil else none
  | _ => none

def natO (e : E) (z : Nat) : Option Od → Option Nat
  | none => some z
  | some x => natV (x.ev e)

def slcV (e : E) (sz : Nat) (x : Od) (lo hi mx : Option Od) : Option V :=
  match lenV (x.ev e) with
  | none => none
  | some n =>
    match natO e 0 lo, natO e n hi, mx with
    | some l, some h, none => cutV sz l h none (x.ev e)
    | some l, some h, some m => match natV (m.ev e) with
      | some m => cutV sz l h (some m) (x.ev e)
      | none => none
    | _, _, _ => none

def adrV (off : Nat) : V → Option V
  | .pt id i j => some (.pt id i (j + off))
  | .ip cs j => some (.ip cs (j + off))
  | _ => none

def ixpV (sz : Nat) : V → V → Option V
  | .rw id sz' off len, .i _ n => if sz' = sz ∧ 0 ≤ n ∧ n < len then some (.pt id (off + n.toNat) 0) else none
  | .ra id i j len, .i _ n => if sz = 1 ∧ 0 ≤ n ∧ n < len then some (.pt id i (j + n.toNat)) else none
  | .sl es, .i _ n => if 0 ≤ n then (match es[n.toNat]? with
    | some c => if c.length = sz then some (.ip c 0) else none
    | none => none) else none
  | _, _ => none

def ixqV (n sz : Nat) (x : V) : V → Option V
  | .i _ k => if 0 ≤ k ∧ k < n then adrV (k.toNat * sz) x else none
  | _ => none

def ixaV (n sz : Nat) (ag : Bool) : V → V → Option V
  | .ag cs, .i _ k => if 0 ≤ k ∧ k < n then prt ag (k.toNat * sz) sz cs else none
  | _, _ => none

def ixsV : V → V → Option V
  | .s y, .i _ k => if 0 ≤ k then (y[k.toNat]?).map (fun c => .i .u8 c.toNat) else none
  | _, _ => none

def slaV (n : Nat) (l h : Nat) : V → Option V
  | .pt id i j => if l ≤ h ∧ h ≤ n then some (.ra id i (j + l) (h - l)) else none
  | .ip cs j => if l ≤ h ∧ h ≤ n ∧ j + n ≤ cs.length then some (.sl (((cs.drop (j + l)).take (h - l)).map fun v => [v])) else none
  | _ => none

def mxV (max : Bool) : V → V → Option V
  | .i k a, .i _ b => some (.i k (if max then (if b > a then b else a) else (if b < a then b else a)))
  | _, _ => none

def nckV : V → Option V
  | .pt id i j => some (.pt id i j)
  | .ip cs j => some (.ip cs j)
  | .fn g cs => some (.fn g cs)
  | _ => none

inductive Q where
  | mov (x : Od)
  | pick (c a b : Od)
  | bin (o : BinOp) (x y : Od)
  | eqb (neg : Bool) (x y : Od)
  | eqp (neg ag : Bool) (ks : List Lf) (x y : Od)
  | un (o : UnOp) (x : Od)
  | cv (k : IntKind) (x : Od)
  | fld (off sz : Nat) (ag : Bool) (x : Od)
  | ixa (n sz : Nat) (ag : Bool) (x i : Od)
  | ixs (x i : Od)
  | ext (x : Od) (j : Nat)
  | bld (z : List V) (ps : List (Nat × Nat × Od))
  | mkf (g : Nat) (cs : List Od)
  | len (x : Od)
  | lns (x : Od)
  | cap (x : Od)
  | slc (sz : Nat) (x : Od) (lo hi mx : Option Od)
  | sls (x : Od) (lo hi : Option Od)
  | adr (off : Nat) (x : Od)
  | ixp (sz : Nat) (x i : Od)
  | ixq (n sz : Nat) (x i : Od)
  | sla (n : Nat) (x : Od) (lo hi : Option Od)
  | mx (max : Bool) (x y : Od)
  | nck (x : Od)

def slenV : V → Option V
  | .nil => some (.i .i64 0)
  | .sl es => some (.i .i64 es.length)
  | .rw _ _ _ l => some (.i .i64 l)
  | .ra _ _ _ l => some (.i .i64 l)
  | _ => none

def fldV (off sz : Nat) (ag : Bool) : V → Option V
  | .ag cs => prt ag off sz cs
  | _ => none

def extV (j : Nat) : V → Option V
  | .tp vs => vs[j]?
  | _ => none

def qv (e : E) : Q → Option V
  | .mov x => some (x.ev e)
  | .pick c a b => match c.ev e with
    | .bo true => some (a.ev e)
    | .bo false => some (b.ev e)
    | _ => none
  | .bin o x y => binV o (x.ev e) (y.ev e)
  | .eqb neg x y => eqbV neg (x.ev e) (y.ev e)
  | .eqp neg ag ks x y => (eqV ag ks (x.ev e) (y.ev e)).map fun p => .bo (p != neg)
  | .un o x => unV o (x.ev e)
  | .cv k x => match x.ev e with
    | .i _ n => some (.i k (k.wrap n))
    | _ => none
  | .fld off sz ag x => fldV off sz ag (x.ev e)
  | .ixa n sz ag x i => ixaV n sz ag (x.ev e) (i.ev e)
  | .ixs x i => ixsV (x.ev e) (i.ev e)
  | .ext x j => extV j (x.ev e)
  | .bld z ps => (fillC e ps z).map .ag
  | .mkf g cs => some (.fn g (cs.map (Od.ev e)))
  | .len x => slenV (x.ev e)
  | .lns x => match x.ev e with
    | .s y => some (.i .i64 y.size)
    | _ => none
  | .cap x => match x.ev e with
    | .nil => some (.i .i64 0)
    | _ => none
  | .slc sz x lo hi mx => slcV e sz x lo hi mx
  | .sls x lo hi => match x.ev e with
    | .s y => match natO e 0 lo, natO e y.size hi with
      | some l, some h => if l ≤ h ∧ h ≤ y.size then some (.s (y.extract l h)) else none
      | _, _ => none
    | _ => none
  | .adr off x => adrV off (x.ev e)
  | .ixp sz x i => ixpV sz (x.ev e) (i.ev e)
  | .ixq n sz x i => ixqV n sz (x.ev e) (i.ev e)
  | .sla n x lo hi => match natO e 0 lo, natO e n hi with
    | some l, some h => slaV n l h (x.ev e)
    | _, _ => none
  | .mx b x y => mxV b (x.ev e) (y.ev e)
  | .nck x => nckV (x.ev e)

/-! the store -/
def cellsAt (o : O) : V → Option (List V × Nat)
  | .pt id i j => match o id with
    | some (.row _ es) => match es[i]? with
      | some cs => some (cs, j)
      | none => none
    | _ => none
  | .ip cs j => some (cs, j)
  | _ => none

def src (o : O) : V → Option (List (List V))
  | .nil => some []
  | .sl es => some es
  | .rw id _ off len => match o id with
    | some (.row _ es) => if off + len ≤ es.length then some ((es.drop off).take len) else none
    | _ => none
  | .ra id i j len => match o id with
    | some (.row _ es) => match es[i]? with
      | some cs => if j + len ≤ cs.length then some (((cs.drop j).take len).map fun v => [v]) else none
      | none => none
    | _ => none
  | _ => none

/-- What a value reads as, deep: no reference into the store is left. -/
def frz : Nat → O → V → Option V
  | 0, _, _ => none
  | n + 1, o, .ag cs => (cs.mapM (frz n o)).map .ag
  | n + 1, o, .tp vs => (vs.mapM (frz n o)).map .tp
  | _ + 1, _, .nil => some (.sl [])
  | n + 1, o, .rw id sz off len => match src o (.rw id sz off len) with
    | some es => (es.mapM fun c : List V => c.mapM (frz n o)).map .sl
    | none => none
  | n + 1, o, .ra id i j len => match src o (.ra id i j len) with
    | some es => (es.mapM fun c : List V => c.mapM (frz n o)).map .sl
    | none => none
  | n + 1, o, .pt id i j => match cellsAt o (.pt id i j) with
    | some (cs, j) => (cs.mapM (frz n o)).map fun cs => .ip cs j
    | none => none
  | n + 1, o, .fn g cs => (cs.mapM (frz n o)).map (.fn g)
  | _ + 1, _, .mp _ => none
  | _ + 1, _, .it _ => none
  | _ + 1, _, v => some v

def FZ : Nat := 24
def fz (o : O) (v : V) : Option V := frz FZ o v
def fzs (o : O) (vs : List V) : Option (List V) := vs.mapM (fz o)

/-- no reference into the store at its head -/
def clo : Nat → V → Bool
  | 0, _ => false
  | n + 1, .ag cs => cs.all (clo n)
  | n + 1, .tp cs => cs.all (clo n)
  | n + 1, .fn _ cs => cs.all (clo n)
  | _ + 1, .rw .. => false
  | _ + 1, .ra .. => false
  | _ + 1, .pt .. => false
  | _ + 1, .mp _ => false
  | _ + 1, .it _ => false
  | _ + 1, _ => true
def clos (vs : List V) : Bool := vs.all (clo FZ)

/-- leads nowhere -/
def flat : Nat → V → Bool
  | 0, _ => false
  | n + 1, .ag cs => cs.all (flat n)
  | n + 1, .tp cs => cs.all (flat n)
  | _ + 1, .jk => true
  | _ + 1, .bo _ => true
  | _ + 1, .i _ _ => true
  | _ + 1, .s _ => true
  | _ + 1, .np => true
  | _ + 1, .nm => true
  | _ + 1, .nf => true
  | _ + 1, _ => false

def findE (ag : Bool) (ks : List Lf) (k : V) : List (Nat × V × V) → Option (Option Nat)
  | [] => if k.isAg = ag ∧ k.cells.length = ks.length then some none else none
  | (_, k', _) :: r =>
    match eqV ag ks k k' with
    | some true => some (some 0)
    | some false => match findE ag ks k r with
      | some (some j) => some (some (j + 1))
      | some none => some none
      | none => none
    | none => none

inductive I where
  | q (q : Q)
  | isn (mp neg : Bool) (x : Od)
  | ld (sz : Nat) (ag : Bool) (x : Od)
  | mlen (x : Od)
  | lkp (ag : Bool) (ks : List Lf) (z : V) (ok : Bool) (m k : Od)
  | ent (x : Od)
  | pc (g : Nat) (as : List Od)
  | pv (g : Od) (as : List Od)
  | alc (z : List V)
  | box (x : Od)
  | bsl (sz n : Nat) (z : List V) (ps : List (Nat × Od))
  | mks (sz byt : Nat) (z : List V) (l c : Od)
  | mkm
  | sto (sz : Nat) (x v : Od)
  | app (sz byt : Nat) (x y : Od)
  | apz (sz byt : Nat) (z : List V) (x n : Od)
  | cpy (sz : Nat) (x y : Od)
  | clr (z : List V) (x : Od)
  | mup (ag : Bool) (ks : List Lf) (m k v : Od)
  | men (ag : Bool) (ks : List Lf) (z : V) (m k : Od)
  | est (m s v : Od)
  | del (ag : Bool) (ks : List Lf) (m k : Od)
  | rng (m : Od)
  | nxt (x : Od)
  | nc (g : Nat) (as : List Od)
  | nv (g : Od) (as : List Od)
  | bad

abbrev CallT := Nat → List V → O → (V → O → Prop) → Prop

def isnV (o : O) (mp neg : Bool) : V → Option V
  | .np => if mp then none else some (.bo (!neg))
  | .ip _ _ => if mp then none else some (.bo neg)
  | .pt id _ _ => if mp then none else (o id).map fun _ => .bo neg
  | .nm => if mp then some (.bo (!neg)) else none
  | .mp id => if mp then (o id).map fun _ => .bo neg else none
  | _ => none

def lkpV (o : O) (kg : Bool) (ks : List Lf) (z : V) (ok : Bool) (m k : V) : Option V :=
  let found : Option (Option V) := match m with
    | .nm => match findE kg ks k [] with
      | some _ => some none
      | none => none
    | .mp id => match o id with
      | some (.map ents _) => match findE kg ks k ents with
        | some (some j) => (ents[j]?).map fun x => some x.2.2
        | some none => some none
        | none => none
      | _ => none
    | _ => none
  match found with
  | some (some v) => some (if ok then .tp [v, .bo true] else v)
  | some none => some (if ok then .tp [z, .bo false] else z)
  | none => none

def entV (o : O) : V → Option V
  | .it id => match o id with
    | some (.iter (some m) _ seen stepped) => match o m, seen.getLast? with
      | some (.map ents clock), some st => if clock = stepped then (match ents.find? (fun x => x.1 == st) with
        | some (_, k, v) => some (.tp [k, v])
        | none => none) else none
      | _, _ => none
    | _ => none
  | _ => none

/-- what an operation that reads the store comes to -/
def rv (e : E) (o : O) : I → Option V
  | .q q => qv e q
  | .isn mp neg x => isnV o mp neg (x.ev e)
  | .ld sz ag x => match cellsAt o (x.ev e) with
    | some (cs, j) => prt ag j sz cs
    | none => none
  | .mlen x => match x.ev e with
    | .nm => some (.i .i64 0)
    | .mp id => match o id with
      | some (.map ents _) => some (.i .i64 ents.length)
      | _ => none
    | _ => none
  | .lkp kg ks z ok m k => lkpV o kg ks z ok (m.ev e) (k.ev e)
  | .ent x => entV o (x.ev e)
  | _ => none

def pcall (cl : CallT) (o : O) (g : Nat) (vs : List V) (r : V) : Prop :=
  ∃ ws, fzs o vs = some ws ∧ cl g ws emp (fun v o' => fz o' v = some r) ∧ (clos vs || flat FZ r) = true

def sizeOk (n byt : Nat) : Prop := n ≤ 2147483648 ∧ byt ≤ 65536

/-- the entries of a map with one put in -/
def putE (kg : Bool) (ks : List Lf) (k v : V) (ents : List (Nat × V × V)) (clock : Nat) : Option (List (Nat × V × V) × Nat) :=
  match findE kg ks k ents with
  | some (some j) => (ents[j]?).map fun x => (ents.set j (x.1, k, v), clock)
  | some none => some (ents ++ [(clock, k, v)], clock + 1)
  | none => none

def W (cl : CallT) (e : E) (o : O) (K : V → O → Prop) : I → Prop
  | .pc g as => ∃ r, pcall cl o g (as.map (Od.ev e)) r ∧ K r o
  | .pv g as => ∃ r, (match g.ev e with
      | .fn h cs => pcall cl o h (as.map (Od.ev e) ++ cs) r
      | _ => False) ∧ K r o
  | .alc z => ∀ id, o id = none → K (.pt id 0 0) (upd o id (some (.row z.length [z])))
  | .box x => (x.ev e).cells ≠ [] ∧ ∀ id, o id = none → K (.pt id 0 0) (upd o id (some (.row (x.ev e).cells.length [(x.ev e).cells])))
  | .bsl sz n z ps =>
    if n = 0 then K .nil o else
    match fillE e sz ps (List.replicate n z) with
    | some es => ∀ id, o id = none → K (.rw id sz 0 n) (upd o id (some (.row sz es)))
    | none => False
  | .mks sz byt z l c => match natV (l.ev e), natV (c.ev e) with
    | some l, some c => l ≤ c ∧ sizeOk c byt ∧ ∀ id, o id = none → K (.rw id sz 0 l) (upd o id (some (.row sz (List.replicate l z))))
    | _, _ => False
  | .mkm => ∀ id, o id = none → K (.mp id) (upd o id (some (.map [] 0)))
  | .sto sz x v => match x.ev e with
    | .pt id i j => match o id with
      | some (.row s es) => match es[i]? with
        | some cs => (v.ev e).cells.length = sz ∧ j + sz ≤ cs.length ∧ K .jk (upd o id (some (.row s (es.set i (splice j (v.ev e).cells cs)))))
        | none => False
      | _ => False
    | _ => False
  | .app sz byt x y => match src o (y.ev e) with
    | some ys => (∀ c ∈ ys, c.length = sz) ∧ (match x.ev e with
      | .nil => sizeOk ys.length byt ∧ (ys = [] → K .nil o) ∧
          (ys ≠ [] → ∀ id, o id = none → K (.rw id sz 0 ys.length) (upd o id (some (.row sz ys))))
      | .rw id sz' off len => sz' = sz ∧ off = 0 ∧ (match o id with
        | some (.row _ es) => len ≤ es.length ∧ sizeOk (len + ys.length) byt ∧ (ys = [] → K (.rw id sz 0 len) o) ∧
            (ys ≠ [] → ∀ id', upd o id none id' = none → K (.rw id' sz 0 (len + ys.length)) (upd (upd o id none) id' (some (.row sz (es.take len ++ ys)))))
        | _ => False)
      | _ => False)
    | none => False
  | .apz sz byt z x n => match natV (n.ev e) with
    | some n => (match x.ev e with
      | .nil => sizeOk n byt ∧ (n = 0 → K .nil o) ∧
          (n ≠ 0 → ∀ id, o id = none → K (.rw id sz 0 n) (upd o id (some (.row sz (List.replicate n z)))))
      | _ => False)
    | none => False
  | .cpy sz x y => match src o (y.ev e) with
    | some ys => (∀ c ∈ ys, c.length = sz) ∧ (match x.ev e with
      | .nil => K (.i .i64 0) o
      | .rw id sz' off len => sz' = sz ∧ (match o id with
        | some (.row s es) => off + len ≤ es.length ∧ K (.i .i64 ((min ys.length len : Nat) : Int))
            (upd o id (some (.row s (es.take off ++ ys.take len ++ es.drop (off + min ys.length len)))))
        | _ => False)
      | .ra id i j len => sz = 1 ∧ (match o id with
        | some (.row s es) => (match es[i]? with
          | some cs => j + len ≤ cs.length ∧ K (.i .i64 ((min ys.length len : Nat) : Int)) (upd o id (some (.row s (es.set i (splice j (ys.take len).flatten cs)))))
          | none => False)
        | _ => False)
      | _ => False)
    | none => False
  | .clr z x => match x.ev e with
    | .nil => K (.tp []) o
    | .rw id sz off len => z.length = sz ∧ (match o id with
      | some (.row s es) => off + len ≤ es.length ∧ K (.tp []) (upd o id (some (.row s (es.take off ++ List.replicate len z ++ es.drop (off + len)))))
      | _ => False)
    | _ => False
  | .mup kg ks m k v => match m.ev e with
    | .mp id => match o id with
      | some (.map ents clock) => match putE kg ks (k.ev e) (v.ev e) ents clock with
        | some (es, cl) => K .jk (upd o id (some (.map es cl)))
        | none => False
      | _ => False
    | _ => False
  | .men kg ks z m k => match m.ev e with
    | .mp id => match o id with
      | some (.map ents clock) => match findE kg ks (k.ev e) ents with
        | some (some j) => (match ents[j]? with
          | some (st, _, v) => K (.tp [v, .i .i64 st]) (upd o id (some (.map (ents.set j (st, k.ev e, v)) clock)))
          | none => False)
        | some none => K (.tp [z, .i .i64 clock]) (upd o id (some (.map (ents ++ [(clock, k.ev e, z)]) (clock + 1))))
        | none => False
      | _ => False
    | _ => False
  | .est m s v => match m.ev e, natV (s.ev e) with
    | .mp id, some st => match o id with
      | some (.map ents clock) => (∃ x ∈ ents, x.1 = st) ∧ K .jk (upd o id (some (.map (ents.map fun x => if x.1 = st then (x.1, x.2.1, v.ev e) else x) clock)))
      | _ => False
    | _, _ => False
  | .del kg ks m k => match m.ev e with
    | .mp id => match o id with
      | some (.map ents clock) => match findE kg ks (k.ev e) ents with
        | some (some j) => K (.tp []) (upd o id (some (.map (ents.eraseIdx j) clock)))
        | some none => K (.tp []) (upd o id (some (.map ents clock)))
        | none => False
      | _ => False
    | _ => False
  | .rng m => match m.ev e with
    | .nm => ∀ id, o id = none → K (.it id) (upd o id (some (.iter none 0 [] 0)))
    | .mp mid => match o mid with
      | some (.map _ clock) => ∀ id, o id = none → K (.it id) (upd o id (some (.iter (some mid) clock [] clock)))
      | _ => False
    | _ => False
  | .nxt x => match x.ev e with
    | .it id => match o id with
      | some (.iter none _ _ _) => K (.tp [.bo false]) o
      | some (.iter (some mid) since seen stepped) => match o mid with
        | some (.map ents clock) => (seen = [] ∨ ents = [] ∨ ∃ x ∈ ents, x.1 < stepped) ∧
            ((∀ x ∈ ents, x.1 < since → x.1 ∈ seen) → K (.tp [.bo false]) o) ∧
            (∀ x ∈ ents, x.1 ∉ seen → K (.tp [.bo true, x.2.1, x.2.2]) (upd o id (some (.iter (some mid) since (seen ++ [x.1]) clock))))
        | _ => False
      | _ => False
    | _ => False
  | .nc g as => cl g (as.map (Od.ev e)) o (fun v o' => K v o')
  | .nv g as => match g.ev e with
    | .fn h cs => cl h (as.map (Od.ev e) ++ cs) o (fun v o' => K v o')
    | _ => False
  | .bad => False
  | j => match rv e o j with
    | some v => K v o
    | none => False

structure Stp where
  d : Option Nat
  g : Option (Nat × Bool)
  i : I
  st : List I

def stb (e : E) (o : O) (e' : E) (o' : O) : List I → Prop
  | [] => True
  | j :: l => rv e' o' j = rv e o j ∧ stb e o e' o' l

/-- what a guard says: one whose own guard was not met says no -/
def gdV (p : Bool) : V → V
  | .bo q => .bo q
  | .tp _ => .bo (!p)
  | _ => .jk

def WS (cl : CallT) (s : Stp) (e : E) (o : O) (K : E → O → Prop) : Prop :=
  match s.g with
  | none => W cl e o (fun v o' => stb e o (put e s.d v) o' s.st ∧ K (put e s.d v) o') s.i
  | some (t, p) => match gdV p (e t) with
    | .bo q => if q = p then W cl e o (fun v o' => stb e o (put e s.d v) o' s.st ∧ K (put e s.d v) o') s.i else K (put e s.d (.tp [])) o
    | _ => False

def wpR (cl : CallT) : List Stp → (E → O → Prop) → E → O → Prop
  | [], K, e, o => K e o
  | s :: l, K, e, o => WS cl s e o (wpR cl l K)

inductive C where
  | sk
  | rg (l : List Stp)
  | sq (a b : C)
  | cd (c : Od) (a b : C)
  | bk (id : Nat) (a : C)
  | lp (a : C)
  | ex (id : Nat)
  | rt
  | bad

inductive X where
  | nx
  | ex (id : Nat)
  | rt

def seqX (nx : E → O → Prop) (K : X → E → O → Prop) : X → E → O → Prop
  | .nx, e, o => nx e o
  | .ex id, e, o => K (.ex id) e o
  | .rt, e, o => K .rt e o

def blkX (id : Nat) (K : X → E → O → Prop) : X → E → O → Prop
  | .nx, e, o => K .nx e o
  | .ex j, e, o => if j = id then K .nx e o else K (.ex j) e o
  | .rt, e, o => K .rt e o

def wpC (cl : CallT) : C → (X → E → O → Prop) → E → O → Prop
  | .sk, K, e, o => K .nx e o
  | .rg l, K, e, o => wpR cl l (K .nx) e o
  | .sq a b, K, e, o => wpC cl a (seqX (wpC cl b K) K) e o
  | .cd c a b, K, e, o => match c.ev e with
    | .bo true => wpC cl a K e o
    | .bo false => wpC cl b K e o
    | _ => False
  | .bk id a, K, e, o => wpC cl a (blkX id K) e o
  | .lp a, K, e, o => ∀ J : E → O → Prop, (∀ e' o', wpC cl a (seqX J K) e' o' → J e' o') → J e o
  | .ex id, K, e, o => K (.ex id) e o
  | .rt, K, e, o => K .rt e o
  | .bad, _, _, _ => False

inductive Rs where
  | t (n : Nat)
  | c (a sz : Nat) (ag : Bool)

def resV (e : E) (o : O) : Rs → Option V
  | .t n => some (e n)
  | .c a sz ag => match cellsAt o (e a) with
    | some (cs, j) => prt ag j sz cs
    | none => none

structure Fn where
  n : Nat
  np : Nat
  res : List Rs
  body : C

def one : List V → V
  | [v] => v
  | vs => .tp vs

def ini (as : List V) : E := fun n => as.getD n .jk

def endX (res : List Rs) (K : V → O → Prop) : X → E → O → Prop
  | .nx, e, o | .rt, e, o => ∃ vs, res.mapM (resV e o) = some vs ∧ K (one vs) o
  | .ex _, _, _ => False

def wpF (F : Nat → Option Fn) (cl : CallT) (g : Nat) (as : List V) (o : O) (K : V → O → Prop) : Prop :=
  match F g with
  | some fn => as.length = fn.np ∧ wpC cl fn.body (endX fn.res K) (ini as) o
  | none => False

/-- the least: what is shown of a call in finitely many steps -/
def Call (F : Nat → Option Fn) : CallT := fun g as o K =>
  ∀ cl : CallT, (∀ g as o K, wpF F cl g as o K → cl g as o K) → cl g as o K

end Go.Proofs.Ytiadalheipbpcaa
