/-
  The operations of a loaded function with their types resolved: what the small machine runs.
-/
import Derived.Test.YtiadalheipbpcaaVm
import GoSem.Core.Layout
namespace Go.Proofs.Ytiadalheipbpcaa
set_option linter.all false

def zV : Value → V
  | .bool p => .bo p
  | .int k n => .i k n
  | .string y => .s y
  | .pointer none => .np
  | .slice none 0 0 => .nil
  | .map none => .nm
  | .nilFunc => .nf
  | _ => .jk

def oneC : Value → Bool
  | .agg _ => false
  | .tuple _ => false
  | _ => true

def zVs : Value → V
  | .agg cs => if cs.toList.all oneC then .ag (cs.toList.map zV) else .jk
  | v => zV v

def cO : Operand → Od
  | .tmp t => .t t
  | .const v => .k (zVs v)
  | .global _ => .k .jk
  | .func g => .k (.fn g [])

def isA (P : Program) (t : TypeId) : Bool :=
  match P.underlying t with
  | some (.struct _) => true
  | some (.array _ _) => true
  | _ => false

def okT (P : Program) (t : TypeId) : Bool := decide (0 < P.cellsOf t) && (P.underlying t).isSome

def zeroC (P : Program) (t : TypeId) : Option (List V) :=
  match P.info? t with
  | some j => match j.zero with
    | some z => if z.cells.toList.all oneC then some (z.cells.toList.map zV) else none
    | none => none
  | none => none

def zero1 (P : Program) (t : TypeId) : Option V :=
  match P.info? t with
  | some j => match j.zero with
    | some z => some (zVs z)
    | none => none
  | none => none

def lfsF (P : Program) (lf : TypeId → Option (List Lf)) : List Field → Nat → Option (List Lf)
  | [], _ => some []
  | f :: fs, n =>
    if f.name ≠ "_" ∧ f.offset = n then
      match lf f.type, lfsF P lf fs (n + P.cellsOf f.type) with
      | some m, some r => if m.length = P.cellsOf f.type ∧ 0 < P.cellsOf f.type then some (m ++ r) else none
      | _, _ => none
    else none

/-- the kinds of the cells of a type that is compared cell by cell -/
def lfs (P : Program) : Nat → TypeId → Option (List Lf)
  | 0, _ => none
  | n + 1, t =>
    match P.underlying t with
    | some .bool => some [.b]
    | some (.int k) => some [.i k]
    | some .string => some [.s]
    | some (.struct fs) => if P.stoodInHeld t then none else lfsF P (lfs P n) fs.toList 0
    | some (.array len e) => match lfs P n e with
      | some m => if m.length = P.cellsOf e ∧ 0 < P.cellsOf e then some (List.replicate len m).flatten else none
      | none => none
    | _ => none

def LD : Nat := 12

def fieldSizes (P : Program) (fs : Array Field) : List (Nat × Nat) := fs.toList.map fun f => (f.offset, P.cellsOf f.type)

def bldPs (l : List (Nat × Nat)) : List (Nat × Operand) → Option (List (Nat × Nat × Od))
  | [] => some []
  | (j, x) :: r => match l[j]?, bldPs l r with
    | some (off, sz), some r => if 0 < sz then some ((off, sz, cO x) :: r) else none
    | _, _ => none

def zlen (P : Program) (e : TypeId) : Bool :=
  match zeroC P e with
  | some z => z.length == P.cellsOf e
  | none => false

def cod (c : Bool) (j : I) : I := if c then j else .bad

def hasBody (P : Program) (g : Nat) : Bool :=
  match P.funcs[g]? with
  | some fn => fn.body.isSome && fn.name != "runtime.NumGoroutine"
  | none => false

def copCall (P : Program) (im : Bool) (c : Go.Call) : I :=
  match c.callee with
  | .value (.func g) => cod (hasBody P g) (if im then .nc g (c.args.toList.map cO) else .pc g (c.args.toList.map cO))
  | .value x => if im then .nv (cO x) (c.args.toList.map cO) else .pv (cO x) (c.args.toList.map cO)
  | .invoke _ _ => .bad
  | .builtin b => match b, c.args.toList, c.argTypes.toList with
    | .len, [x], t :: _ => match P.underlying t with
      | some .string => .q (.lns (cO x))
      | some (.slice _) => .q (.len (cO x))
      | some (.map _ _) => .mlen (cO x)
      | some (.array n _) => .q (.mov (.k (.i .i64 n)))
      | some (.pointer t) => match P.underlying t with
        | some (.array n _) => .q (.mov (.k (.i .i64 n)))
        | _ => .bad
      | _ => .bad
    | .cap, [x], t :: _ => match P.underlying t with
      | some (.slice _) => .q (.cap (cO x))
      | _ => .bad
    | .append, [x, y], t :: u :: _ => match P.underlying t with
      | some (.slice e) => match P.underlying u with
        | some (.int _) => match zeroC P e with
          | some z => cod (okT P e && z.length == P.cellsOf e && decide (P.bytesOf e ≤ 65536) && decide (0 < P.bytesOf e)) (.apz (P.cellsOf e) (P.bytesOf e) z (cO x) (cO y))
          | none => .bad
        | some (.slice _) => cod (okT P e && zlen P e && decide (P.bytesOf e ≤ 65536) && decide (0 < P.bytesOf e)) (.app (P.cellsOf e) (P.bytesOf e) (cO x) (cO y))
        | _ => .bad
      | _ => .bad
    | .copy, [x, y], t :: _ => match P.underlying t with
      | some (.slice e) => cod (okT P e) (.cpy (P.cellsOf e) (cO x) (cO y))
      | _ => .bad
    | .clear, [x], t :: _ => match P.underlying t with
      | some (.slice e) => match zeroC P e with
        | some z => cod (okT P e && z.length == P.cellsOf e) (.clr z (cO x))
        | none => .bad
      | _ => .bad
    | .delete, [m, k], t :: _ => match P.underlying t with
      | some (.map kt _) => match lfs P LD kt with
        | some ks => .del (isA P kt) ks (cO m) (cO k)
        | none => .bad
      | _ => .bad
    | .max, [x, y], _ => .q (.mx true (cO x) (cO y))
    | .min, [x, y], _ => .q (.mx false (cO x) (cO y))
    | _, _, _ => .bad

def isNilP : Operand → Bool
  | .const (.pointer none) => true
  | _ => false
def isNilM : Operand → Bool
  | .const (.map none) => true
  | _ => false

def copBin (P : Program) (op : BinOp) (t : TypeId) (x y : Operand) : I :=
  match op, P.underlying t with
  | .eql, some .bool => .q (.eqb false (cO x) (cO y))
  | .neq, some .bool => .q (.eqb true (cO x) (cO y))
  | .eql, some (.struct _) => match lfs P LD t with
    | some ks => cod (!P.eqGuardType P.depth t) (.q (.eqp false true ks (cO x) (cO y)))
    | none => .bad
  | .neq, some (.struct _) => match lfs P LD t with
    | some ks => cod (!P.eqGuardType P.depth t) (.q (.eqp true true ks (cO x) (cO y)))
    | none => .bad
  | .eql, some (.array _ _) => match lfs P LD t with
    | some ks => cod (!P.eqGuardType P.depth t) (.q (.eqp false true ks (cO x) (cO y)))
    | none => .bad
  | .neq, some (.array _ _) => match lfs P LD t with
    | some ks => cod (!P.eqGuardType P.depth t) (.q (.eqp true true ks (cO x) (cO y)))
    | none => .bad
  | .eql, some (.pointer _) => cod (isNilP y) (.isn false false (cO x))
  | .neq, some (.pointer _) => cod (isNilP y) (.isn false true (cO x))
  | .eql, some (.map _ _) => cod (isNilM y) (.isn true false (cO x))
  | .neq, some (.map _ _) => cod (isNilM y) (.isn true true (cO x))
  | o, some (.int _) => .q (.bin o (cO x) (cO y))
  | o, some .string => .q (.bin o (cO x) (cO y))
  | _, _ => .bad

def cop (P : Program) (im : Bool) (o : Oper) : I :=
  match o.op with
  | .move x => .q (.mov (cO x))
  | .assign x => .q (.mov (cO x))
  | .pick c a b => .q (.pick (cO c) (cO a) (cO b))
  | .alloc t => match zeroC P t with
    | some z => cod (!z.isEmpty) (.alc z)
    | none => .bad
  | .box _ x => .box (cO x)
  | .build t ps => match P.underlying t, zeroC P t with
    | some (.struct fs), some z => match bldPs (fieldSizes P fs) ps.toList with
      | some l => cod (fs.all fun f => (P.info? f.type).isSome) (.q (.bld z l))
      | none => .bad
    | some (.array n e), some z => match bldPs ((List.range n).map fun j => (j * P.cellsOf e, P.cellsOf e)) ps.toList with
      | some l => cod (okT P e) (.q (.bld z l))
      | none => .bad
    | _, _ => .bad
  | .buildSlice t n ps => match P.underlying t with
    | some (.slice e) => match zeroC P e with
      | some z => cod (okT P e && z.length == P.cellsOf e && (decide (0 < n) || ps.toList.isEmpty) && decide (n * P.cellsOf e ≤ 16777216)) (.bsl (P.cellsOf e) n z (ps.toList.map fun p => (p.1, cO p.2)))
      | none => .bad
    | _ => .bad
  | .load t x => cod (okT P t && (isA P t || P.cellsOf t == 1)) (.ld (P.cellsOf t) (isA P t) (cO x))
  | .store t x v => cod (okT P t) (.sto (P.cellsOf t) (cO x) (cO v))
  | .nilCheck x => .q (.nck (cO x))
  | .binOp op t x y _ => copBin P op t x y
  | .unOp op _ x => .q (.un op (cO x))
  | .convert s d x => match P.underlying s, P.underlying d with
    | some (.int _), some (.int k) => .q (.cv k (cO x))
    | _, _ => .bad
  | .makeFunc (.func g) first cs => cod (first.isEmpty) (.q (.mkf g (cs.toList.map cO)))
  | .makeMap _ none => .mkm
  | .makeSlice t l c => match P.underlying t with
    | some (.slice e) => match zeroC P e with
      | some z => cod (okT P e && z.length == P.cellsOf e && decide (P.bytesOf e ≤ 65536)) (.mks (P.cellsOf e) (P.bytesOf e) z (cO l) (cO c))
      | none => .bad
    | _ => .bad
  | .slice t x lo hi mx => match P.underlying t with
    | some .string => cod mx.isNone (.q (.sls (cO x) (lo.map cO) (hi.map cO)))
    | some (.slice e) => cod (okT P e && (mx.isNone || hi.isSome)) (.q (.slc (P.cellsOf e) (cO x) (lo.map cO) (hi.map cO) (mx.map cO)))
    | some (.array n e) => cod (P.cellsOf e == 1 && mx.isNone) (.q (.sla n (cO x) (lo.map cO) (hi.map cO)))
    | _ => .bad
  | .fieldAddr t x j => match P.underlying t with
    | some (.struct fs) => match fs[j]? with
      | some f => cod (okT P f.type) (.q (.adr f.offset (cO x)))
      | none => .bad
    | _ => .bad
  | .field t x j => match P.underlying t with
    | some (.struct fs) => match fs[j]? with
      | some f => cod (okT P f.type) (.q (.fld f.offset (P.cellsOf f.type) (isA P f.type) (cO x)))
      | none => .bad
    | _ => .bad
  | .indexAddr t x j => match P.underlying t with
    | some (.array n e) => cod (okT P e) (.q (.ixq n (P.cellsOf e) (cO x) (cO j)))
    | some (.slice e) => cod (okT P e) (.q (.ixp (P.cellsOf e) (cO x) (cO j)))
    | _ => .bad
  | .index t x j => match P.underlying t with
    | some (.array n e) => cod (okT P e) (.q (.ixa n (P.cellsOf e) (isA P e) (cO x) (cO j)))
    | some .string => .q (.ixs (cO x) (cO j))
    | _ => .bad
  | .lookup t m k ok => match P.underlying t with
    | some (.map kt et) => match lfs P LD kt, zero1 P et with
      | some ks, some z => .lkp (isA P kt) ks z ok (cO m) (cO k)
      | _, _ => .bad
    | _ => .bad
  | .mapUpdate t m k v => match P.underlying t with
    | some (.map kt _) => match lfs P LD kt with
      | some ks => .mup (isA P kt) ks (cO m) (cO k) (cO v)
      | none => .bad
    | _ => .bad
  | .mapEntry t m k => match P.underlying t with
    | some (.map kt et) => match lfs P LD kt, zero1 P et with
      | some ks, some z => .men (isA P kt) ks z (cO m) (cO k)
      | _, _ => .bad
    | _ => .bad
  | .entryStore _ m s v => .est (cO m) (cO s) (cO v)
  | .range t x => match P.underlying t with
    | some (.map _ _) => .rng (cO x)
    | _ => .bad
  | .next x false => .nxt (cO x)
  | .entry x => .ent (cO x)
  | .extract x j => .q (.ext (cO x) j)
  | .call c => copCall P im c
  | _ => .bad

/-! regions -/
def odT : Od → List Nat
  | .t n => [n]
  | .k _ => []
def odTs (l : List Od) : List Nat := l.flatMap odT
def odO : Option Od → List Nat
  | some x => odT x
  | none => []

def usesQ : Q → List Nat
  | .mov x => odT x
  | .pick c a b => odT c ++ odT a ++ odT b
  | .bin _ x y => odT x ++ odT y
  | .eqb _ x y => odT x ++ odT y
  | .eqp _ _ _ x y => odT x ++ odT y
  | .un _ x => odT x
  | .cv _ x => odT x
  | .fld _ _ _ x => odT x
  | .ixa _ _ _ x y => odT x ++ odT y
  | .ixs x y => odT x ++ odT y
  | .ext x _ => odT x
  | .bld _ ps => ps.flatMap fun p => odT p.2.2
  | .mkf _ cs => odTs cs
  | .len x => odT x
  | .lns x => odT x
  | .cap x => odT x
  | .slc _ x a b c => odT x ++ odO a ++ odO b ++ odO c
  | .sls x a b => odT x ++ odO a ++ odO b
  | .adr _ x => odT x
  | .ixp _ x y => odT x ++ odT y
  | .ixq _ _ x y => odT x ++ odT y
  | .sla _ x a b => odT x ++ odO a ++ odO b
  | .mx _ x y => odT x ++ odT y
  | .nck x => odT x

def usesI : I → List Nat
  | .q q => usesQ q
  | .isn _ _ x => odT x
  | .ld _ _ x => odT x
  | .mlen x => odT x
  | .lkp _ _ _ _ m k => odT m ++ odT k
  | .ent x => odT x
  | .pc _ as => odTs as
  | .pv g as => odT g ++ odTs as
  | .alc _ => []
  | .box x => odT x
  | .bsl _ _ _ ps => ps.flatMap fun p => odT p.2
  | .mks _ _ _ l c => odT l ++ odT c
  | .mkm => []
  | .sto _ x v => odT x ++ odT v
  | .app _ _ x y => odT x ++ odT y
  | .apz _ _ _ x n => odT x ++ odT n
  | .cpy _ x y => odT x ++ odT y
  | .clr _ x => odT x
  | .mup _ _ m k v => odT m ++ odT k ++ odT v
  | .men _ _ _ m k => odT m ++ odT k
  | .est m s v => odT m ++ odT s ++ odT v
  | .del _ _ m k => odT m ++ odT k
  | .rng m => odT m
  | .nxt x => odT x
  | .nc _ as => odTs as
  | .nv g as => odT g ++ odTs as
  | .bad => []

/-- 0: reads no store; 1: reads it; 2: a call that leaves it; 3: makes an object; 4: any other. -/
def cls : I → Nat
  | .q _ => 0
  | .isn _ _ _ => 1
  | .ld _ _ _ => 1
  | .mlen _ => 1
  | .lkp _ _ _ _ _ _ => 1
  | .ent _ => 1
  | .pc _ _ => 2
  | .pv _ _ => 2
  | .alc _ => 3
  | .box _ => 3
  | .bsl _ _ _ _ => 3
  | .mks _ _ _ _ _ => 3
  | .mkm => 3
  | _ => 4

def Stp.uses (s : Stp) : List Nat :=
  match s.g with
  | some (t, _) => t :: usesI s.i
  | none => usesI s.i

def Stp.wr (s : Stp) (l : List Nat) : Bool :=
  match s.d with
  | some d => l.contains d
  | none => false

/-- x (first in the list's order) and y write nothing that the other one looks at or writes -/
def apart (x y : Stp) : Bool :=
  !x.wr y.uses && !y.wr x.uses && !(match x.d with | some d => y.d == some d | none => false)

/-- x stands ahead of y in the list and may come behind it -/
def swappable (x y : Stp) : Bool :=
  apart x y && (decide (cls x.i ≤ 2 ∧ cls y.i ≤ 3) || decide (cls x.i = 3 ∧ cls y.i = 3))

/-- what is shown to run as it is told -/
def sup : I → Bool
  | .mlen _ | .ent _ | .apz .. | .cpy .. | .clr .. | .mup .. | .men .. | .est .. | .del .. | .rng _ | .nxt _ => false
  | _ => true

def stpAt (P : Program) (im : Nat → Bool) (N : Nat) (ops : Array Oper) (j : Nat) : Stp :=
  match ops[j]? with
  | some o => match o.guard with
    | none => { d := o.dst, g := none, i := cod (o.dst.all (fun d => decide (d < N)) && sup (cop P (im j) o)) (cop P (im j) o), st := [] }
    | some (k, p) => match (ops[k]?).bind (·.dst) with
      | some t => { d := o.dst, g := some (t, p), i := cod (o.dst.all (fun d => decide (d < N)) && sup (cop P (im j) o)) (cop P (im j) o), st := [] }
      | none => { d := o.dst, g := none, i := .bad, st := [] }
  | none => { d := none, g := none, i := .bad, st := [] }

def bf (b : Array Nat) (y x : Nat) : Bool := (b.getD y 0).testBit x

def pick1 (k : Nat → Nat) : List Nat → Option Nat
  | [] => none
  | x :: l => match pick1 k l with
    | some y => if k x ≤ k y then some x else some y
    | none => some x

/-- an order in which each operation stands behind those that it hangs on; what makes an object, or writes, as late as may be -/
def order (b : Array Nat) (k : Nat → Nat) (n : Nat) : Nat → List Nat → List Nat
  | 0, acc => acc.reverse
  | m + 1, acc => match pick1 k ((List.range n).filter fun y => !acc.contains y && (List.range n).all fun x => !bf b y x || acc.contains x) with
    | some y => order b k n m (y :: acc)
    | none => acc.reverse

def stabs (f : Nat → Stp) (b : Array Nat) (y : Nat) (l : List Nat) : List I :=
  if cls (f y).i = 4 then (l.filter fun x => decide (cls (f x).i = 1) && !bf b y x).map fun x => (f x).i else []

/-- l: the reverse of what stands ahead -/
def pairOk (f : Nat → Stp) (y : Nat) (between : List Nat) (x : Nat) : Bool :=
  if cls (f y).i = 4 then decide (cls (f x).i ≤ 1) && apart (f x) (f y) && between.all (fun z => !(f z).wr (f x).uses) && !(f x).wr (f x).uses
  else swappable (f x) (f y)

def pairsOk (f : Nat → Stp) (b : Array Nat) (y : Nat) : List Nat → List Nat → Bool
  | [], _ => true
  | x :: l, between => !bf b x y && (bf b y x || pairOk f y between x) && pairsOk f b y l (x :: between)

/-- rev: what stands ahead, the nearest first -/
def listOk (f : Nat → Stp) (b : Array Nat) : List Nat → List Nat → Bool
  | [], _ => true
  | y :: l, rev => pairsOk f b y rev [] && listOk f b l (y :: rev)

def edgesBack (ops : Array Oper) : Bool :=
  (List.range ops.size).all fun y => (ops.getD y default).after.all fun e => !Region.binds .any e || decide (e.on < y)

def withSt (f : Nat → Stp) (b : Array Nat) : List Nat → List Nat → List Stp
  | [], _ => []
  | y :: l, ahead => { f y with st := stabs f b y ahead } :: withSt f b l (ahead ++ [y])

def nodupB : List Nat → Bool
  | [] => true
  | x :: l => !l.contains x && nodupB l

def compReg (P : Program) (im : Nat → Bool) (N : Nat) (ops : Array Oper) (draw : Bool) : C :=
  if draw then
    let b := Region.before ops
    let f := stpAt P im N ops
    let l := order b (fun y => cls (f y).i) ops.size ops.size []
    if edgesBack ops && decide (l.length = ops.size) && (List.range ops.size).all (fun y => l.contains y) && l.all (fun y => decide (y < ops.size)) && nodupB l && listOk f b l [] then .rg (withSt f b l []) else .bad
  else .rg ((List.range ops.size).map (stpAt P im N ops))

def compC (P : Program) (im : Nat → Nat → Bool) (N : Nat) : Code → C
  | .skip => .sk
  | .region id ops draw => compReg P (im id) N ops draw
  | .seq a b => .sq (compC P im N a) (compC P im N b)
  | .cond c a b => .cd (cO c) (compC P im N a) (compC P im N b)
  | .block id a => .bk id (compC P im N a)
  | .loop a => .lp (compC P im N a)
  | .exit id => .ex id
  | .ret => .rt
  | _ => .bad

def compRs (P : Program) : ResultVar → Option Rs
  | .tmp t => some (.t t)
  | .cell a t => if okT P t = true ∧ (isA P t || P.cellsOf t == 1) = true then some (.c a (P.cellsOf t) (isA P t)) else none

/-- im: the calls, by function, region and operation, that are made in the caller's own store -/
def comp (P : Program) (im : Nat → Nat → Nat → Bool) (g : Nat) : Option Fn :=
  match P.funcs[g]? with
  | some fn => match fn.body, fn.results.toList.mapM (compRs P) with
    | some c, some res => if fn.name == "runtime.NumGoroutine" ∨ fn.ntmps < fn.params.size + fn.nfree then none else
      some { n := fn.ntmps, np := fn.params.size + fn.nfree, res := res, body := compC P (im g) fn.ntmps c }
    | _, _ => none
  | none => none

end Go.Proofs.Ytiadalheipbpcaa
