import GoSem.Core.Lib
import GoSem.Core.Region
import GoSem.Op.Equal
import Derived.Attr
import GoSem.Core.Layout
import Derived.Calls
import Derived.Laws.Sem
import Derived.Laws.StructEq
import Derived.ChangeKeysEq
import GoSem.Dispatch

namespace Go.Proofs.YtklbhcjmaeedhaaGreatDoor
set_option linter.all false
variable {p:Prop} {g l z sz b n m h len cap:Nat} {r:Bool} {x y i:Value} {d:TypeDesc} {t el:TypeId} {α β:Type} {ob:Obj} {xs ys:Array Value} {P:Program} {f:Field} {fs:Array Field} {a:Act}
def OM (h:p:=by omega):p:=h
def SM (h:p:=by simp):p:=h
def LM (h:p:=by decide):p:=h
def RM (h:p:=by rfl):p:=h
inductive V where
 | jk
 | bo (p:Bool)
 | i (k:IntKind) (n:Int)
 | s (y:ByteArray)
 | ag (cs:List V)
 | tp (vs:List V)
 | nil
 | sl (es:List (List V))
 | rw (id sz off len:Nat)
 | ra (id i j len:Nat)
 | pt (id i j:Nat)
 | ip (cs:List V) (j:Nat)
 | np
 | fn (g:Nat) (caps:List V)
 | nf
 | mp (id:Nat)
 | nm
 | it (id:Nat)
inductive Ob where
 | row (sz:Nat) (es:List (List V))
 | map (ents:List (Nat × V × V)) (clock:Nat)
 | iter (mp:Option Nat) (since:Nat) (seen:List Nat) (stepped:Nat)
abbrev E:=Nat→V
variable {e e':E}
abbrev O:=Nat→Option Ob
variable {o o':O}
def upd {α:Type} (g:Nat→α) (j:Nat) (y:α):Nat→α:=fun k=>if k=j then y else g k
def emp:O:=fun _=>none
inductive Od where
 | t (n:Nat)
 | k (v:V)
def Od.ev (e:E):Od→V
 | .t n=>e n
 | .k v=>v
def put (e:E) (d:Option Nat) (v:V):E :=
 match d with
 | some d=>upd e d v
 | none=>e
def V.cells:V→List V
 | .ag cs=>cs
 | .jk=>[]
 | .tp _=>[]
 | v=>[v]
def V.isAg:V→Bool
 | .ag _=>true
 | _=>false
variable {vs as cs:List V} {K K':V→O→Prop} {vx vy vi:V}
def Y7 (o:BinOp) (k:IntKind) (a b:Int):Option V :=
 match o with
 | .add=>some (.i k (k.wrap (a+b)))
 | .sub=>some (.i k (k.wrap (a - b)))
 | .mul=>some (.i k (k.wrap (a*b)))
 | .quo=>if b=0 then none else some (.i k (k.wrap (a.tdiv b)))
 | .rem=>if b=0 then none else some (.i k (a.tmod b))
 | .and=>some (.i k (k.wrap (BitVec.ofInt k.bits a &&& BitVec.ofInt k.bits b).toNat))
 | .or=>some (.i k (k.wrap (BitVec.ofInt k.bits a ||| BitVec.ofInt k.bits b).toNat))
 | .xor=>some (.i k (k.wrap (BitVec.ofInt k.bits a ^^^ BitVec.ofInt k.bits b).toNat))
 | .andNot=>some (.i k (k.wrap (BitVec.ofInt k.bits a &&& ~~~BitVec.ofInt k.bits b).toNat))
 | .eql=>some (.bo (a==b))
 | .neq=>some (.bo (a != b))
 | .lss=>some (.bo (decide (a < b)))
 | .leq=>some (.bo (decide (a≤b)))
 | .gtr=>some (.bo (decide (a > b)))
 | .geq=>some (.bo (decide (a≥b)))
 | .shl=>none
 | .shr=>none
def Dt (o:BinOp) (k:IntKind) (a b:Int):Option V :=
 match o with
 | .shl=>if b < 0 then none else some (.i k (k.wrap (a*2 ^ (min b.toNat k.bits))))
 | .shr=>if b < 0 then none else some (.i k (a.fdiv (2 ^ (min b.toNat k.bits))))
 | _=>none
def strV (o:BinOp) (a b:ByteArray):Option V :=
 match o with
 | .add=>if a.size+b.size≤1099511627776 then some (.s (a++b)) else none
 | .eql=>some (.bo (a.toList==b.toList))
 | .neq=>some (.bo (!(a.toList==b.toList)))
 | _=>none
def Xg:BinOp→Bool
 | .shl|.shr=>true
 | _=>false
def binV (o:BinOp):V→V→Option V
 | .i k a,.i k' b=>if Xg o then Dt o k a b else if k=k' then Y7 o k a b else none
 | .s a,.s b=>strV o a b
 | _,_=>none
def eqbV (neg:Bool):V→V→Option V
 | .bo p,.bo q=>some (.bo ((p==q) != neg))
 | _,_=>none
def unV (o:UnOp):V→Option V
 | .i k n=>match o with
  | .neg=>some (.i k (k.wrap (0 - n)))
  | .xor=>some (.i k (k.wrap (BitVec.ofInt k.bits (if k.signed then -1 else k.max) ^^^ BitVec.ofInt k.bits n).toNat))
  | _=>none
 | .bo p=>match o with
  | .not=>some (.bo (!p))
  | _=>none
 | _=>none
inductive Lf where
 | b
 | i (k:IntKind)
 | s
variable {ks:List Lf}
def lfEq:Lf→V→V→Option Bool
 | .b,.bo p,.bo q=>some (p==q)
 | .i k,.i k1 a,.i k2 b=>if k1=k∧k2=k then some (a==b) else none
 | .s,.s a,.s b=>some (a.toList==b.toList)
 | _,_,_=>none
def eqps:List Lf→List V→List V→Option Bool
 | [],[],[]=>some true
 | l::ls,x::xs,y::ys =>
  match lfEq l x y,eqps ls xs ys with
  | some p,some q=>some (p&&q)
  | _,_=>none
 | _,_,_=>none
def eqV (ag:Bool) (ks:List Lf) (x y:V):Option Bool :=
 if x.isAg=ag∧y.isAg=ag then eqps ks x.cells y.cells else none
def prt (ag:Bool) (off sz:Nat) (cs:List V):Option V :=
 if ag then (if off+sz≤cs.length then some (.ag ((cs.drop off).take sz)) else none) else cs[off]?
def splice:Nat→List V→List V→List V
 | 0,[],z=>z
 | 0,v::vs,_::z=>v::splice 0 vs z
 | n+1,vs,y::z=>y::splice n vs z
 | _,_,[]=>[]
def J3 (e:E):List (Nat × Nat × Od)→List V→Option (List V)
 | [],z=>some z
 | (off,sz,x)::r,z =>
  if (x.ev e).cells.length=sz∧off+sz≤z.length then J3 e r (splice off (x.ev e).cells z) else none
def Yd (e:E) (sz:Nat):List (Nat × Od)→List (List V)→Option (List (List V))
 | [],es=>some es
 | (i,x)::r,es =>
  if (x.ev e).cells.length=sz∧i < es.length then Yd e sz r (es.set i (x.ev e).cells) else none
def lenV:V→Option Nat
 | .nil=>some 0
 | .sl es=>some es.length
 | .rw _ _ _ l=>some l
 | .ra _ _ _ l=>some l
 | .s y=>some y.size
 | _=>none
def natV:V→Option Nat
 | .i _ n=>if 0≤n then some n.toNat else none
 | _=>none
def cutV (sz l h:Nat) (m:Option Nat):V→Option V
 | .nil=>if l=0∧h=0∧(m=none∨m=some 0) then some .nil else none
 | .sl es=>match m with
  | none=>if l≤h∧h≤es.length∧es.all (fun c=>c.length==sz)=true then some (.sl ((es.take h).drop l)) else none
  | some m=>if l=h∧h=m∧m≤es.length then some .nil else none
 | .rw id sz' off len=>match m with
  | none=>if sz'=sz∧l≤h∧h≤len then some (.rw id sz (off+l) (h - l)) else none
  | some m=>if l=h∧h=m∧m≤len then some .nil else none
 | _=>none
def natO (e:E) (z:Nat):Option Od→Option Nat
 | none=>some z
 | some x=>natV (x.ev e)
def slcV (e:E) (sz:Nat) (x:Od) (lo hi mx:Option Od):Option V :=
 match lenV (x.ev e) with
 | none=>none
 | some n =>
  match natO e 0 lo,natO e n hi,mx with
  | some l,some h,none=>cutV sz l h none (x.ev e)
  | some l,some h,some m=>match natV (m.ev e) with
   | some m=>cutV sz l h (some m) (x.ev e)
   | none=>none
  | _,_,_=>none
def adrV (off:Nat):V→Option V
 | .pt id i j=>some (.pt id i (j+off))
 | .ip cs j=>some (.ip cs (j+off))
 | _=>none
def ixpV (sz:Nat):V→V→Option V
 | .rw id sz' off len,.i _ n=>if sz'=sz∧0≤n∧n < len then some (.pt id (off+n.toNat) 0) else none
 | .ra id i j len,.i _ n=>if sz=1∧0≤n∧n < len then some (.pt id i (j+n.toNat)) else none
 | .sl es,.i _ n=>if 0≤n then (match es[n.toNat]? with
  | some c=>if c.length=sz then some (.ip c 0) else none
  | none=>none) else none
 | _,_=>none
def ixqV (n sz:Nat) (x:V):V→Option V
 | .i _ k=>if 0≤k∧k < n then adrV (k.toNat*sz) x else none
 | _=>none
def ixaV (n sz:Nat) (ag:Bool):V→V→Option V
 | .ag cs,.i _ k=>if 0≤k∧k < n then prt ag (k.toNat*sz) sz cs else none
 | _,_=>none
def ixsV:V→V→Option V
 | .s y,.i _ k=>if 0≤k then (y[k.toNat]?).map (fun c=>.i .u8 c.toNat) else none
 | _,_=>none
def slaV (n:Nat) (l h:Nat):V→Option V
 | .pt id i j=>if l≤h∧h≤n then some (.ra id i (j+l) (h - l)) else none
 | .ip cs j=>if l≤h∧h≤n∧j+n≤cs.length then some (.sl (((cs.drop (j+l)).take (h - l)).map fun v=>[v])) else none
 | _=>none
def mxV (max:Bool):V→V→Option V
 | .i k a,.i _ b=>some (.i k (if max then (if b > a then b else a) else (if b < a then b else a)))
 | _,_=>none
def nckV:V→Option V
 | .pt id i j=>some (.pt id i j)
 | .ip cs j=>some (.ip cs j)
 | .fn g cs=>some (.fn g cs)
 | _=>none
inductive Q where
 | mov (x:Od)
 | pick (c a b:Od)
 | bin (o:BinOp) (x y:Od)
 | eqb (neg:Bool) (x y:Od)
 | eqp (neg ag:Bool) (ks:List Lf) (x y:Od)
 | un (o:UnOp) (x:Od)
 | cv (k:IntKind) (x:Od)
 | fld (off sz:Nat) (ag:Bool) (x:Od)
 | ixa (n sz:Nat) (ag:Bool) (x i:Od)
 | ixs (x i:Od)
 | ext (x:Od) (j:Nat)
 | bld (z:List V) (ps:List (Nat × Nat × Od))
 | mkf (g:Nat) (cs:List Od)
 | lit (sz n:Nat) (z:List V) (ps:List (Nat × Od))
 | len (x:Od)
 | lns (x:Od)
 | cap (x:Od)
 | slc (sz:Nat) (x:Od) (lo hi mx:Option Od)
 | sls (x:Od) (lo hi:Option Od)
 | adr (off:Nat) (x:Od)
 | ixp (sz:Nat) (x i:Od)
 | ixq (n sz:Nat) (x i:Od)
 | sla (n:Nat) (x:Od) (lo hi:Option Od)
 | mx (max:Bool) (x y:Od)
 | nck (x:Od)
variable {q:Q}
def JZ:V→Option V
 | .nil=>some (.i .i64 0)
 | .sl es=>some (.i .i64 es.length)
 | .rw _ _ _ l=>some (.i .i64 l)
 | .ra _ _ _ l=>some (.i .i64 l)
 | _=>none
def fldV (off sz:Nat) (ag:Bool):V→Option V
 | .ag cs=>prt ag off sz cs
 | _=>none
def extV (j:Nat):V→Option V
 | .tp vs=>vs[j]?
 | _=>none
def scal:V→Bool
 | .bo _=>true
 | .i _ _=>true
 | .s _=>true
 | _=>false
def Qd8:V→Bool
 | .nil=>true
 | .sl _=>true
 | v=>scal v
def nlD:V→V
 | .nil=>.sl []
 | v=>v
def litV (e:E) (sz n:Nat) (z:List V) (ps:List (Nat × Od)):Option V :=
 match Yd e sz ps (List.replicate n z) with
 | some es=>if n≠0∧(es.all fun c=>c.all Qd8)=true then some (.sl (es.map fun c=>c.map nlD)) else none
 | none=>none
def QhY:Q→Bool
 | .lit ..=>true
 | _=>false
def qv (e:E):Q→Option V
 | .mov x=>some (x.ev e)
 | .pick c a b=>match c.ev e with
  | .bo true=>some (a.ev e)
  | .bo false=>some (b.ev e)
  | _=>none
 | .bin o x y=>binV o (x.ev e) (y.ev e)
 | .eqb neg x y=>eqbV neg (x.ev e) (y.ev e)
 | .eqp neg ag ks x y=>(eqV ag ks (x.ev e) (y.ev e)).map fun p=>.bo (p != neg)
 | .un o x=>unV o (x.ev e)
 | .cv k x=>match x.ev e with
  | .i _ n=>some (.i k (k.wrap n))
  | _=>none
 | .fld off sz ag x=>fldV off sz ag (x.ev e)
 | .ixa n sz ag x i=>ixaV n sz ag (x.ev e) (i.ev e)
 | .ixs x i=>ixsV (x.ev e) (i.ev e)
 | .ext x j=>extV j (x.ev e)
 | .bld z ps=>(J3 e ps z).map .ag
 | .mkf g cs=>some (.fn g (cs.map (Od.ev e)))
 | .lit sz n z ps=>litV e sz n z ps
 | .len x=>JZ (x.ev e)
 | .lns x=>match x.ev e with
  | .s y=>some (.i .i64 y.size)
  | _=>none
 | .cap x=>match x.ev e with
  | .nil=>some (.i .i64 0)
  | _=>none
 | .slc sz x lo hi mx=>slcV e sz x lo hi mx
 | .sls x lo hi=>match x.ev e with
  | .s y=>match natO e 0 lo,natO e y.size hi with
   | some l,some h=>if l≤h∧h≤y.size then some (.s (y.extract l h)) else none
   | _,_=>none
  | _=>none
 | .adr off x=>adrV off (x.ev e)
 | .ixp sz x i=>ixpV sz (x.ev e) (i.ev e)
 | .ixq n sz x i=>ixqV n sz (x.ev e) (i.ev e)
 | .sla n x lo hi=>match natO e 0 lo,natO e n hi with
  | some l,some h=>slaV n l h (x.ev e)
  | _,_=>none
 | .mx b x y=>mxV b (x.ev e) (y.ev e)
 | .nck x=>nckV (x.ev e)
def Qz (o:O):V→Option (List V × Nat)
 | .pt id i j=>match o id with
  | some (.row _ es)=>match es[i]? with
   | some cs=>some (cs,j)
   | none=>none
  | _=>none
 | .ip cs j=>some (cs,j)
 | _=>none
def src (o:O):V→Option (List (List V))
 | .nil=>some []
 | .sl es=>some es
 | .rw id _ off len=>match o id with
  | some (.row _ es)=>if off+len≤es.length then some ((es.drop off).take len) else none
  | _=>none
 | .ra id i j len=>match o id with
  | some (.row _ es)=>match es[i]? with
   | some cs=>if j+len≤cs.length then some (((cs.drop j).take len).map fun v=>[v]) else none
   | none=>none
  | _=>none
 | _=>none
def frz:Nat→O→V→Option V
 | 0,_,_=>none
 | n+1,o,.ag cs=>(cs.mapM (frz n o)).map .ag
 | n+1,o,.tp vs=>(vs.mapM (frz n o)).map .tp
 | _+1,_,.nil=>some (.sl [])
 | n+1,o,.rw id sz off len=>match src o (.rw id sz off len) with
  | some es=>(es.mapM fun c:List V=>c.mapM (frz n o)).map .sl
  | none=>none
 | n+1,o,.ra id i j len=>match src o (.ra id i j len) with
  | some es=>(es.mapM fun c:List V=>c.mapM (frz n o)).map .sl
  | none=>none
 | n+1,o,.pt id i j=>match Qz o (.pt id i j) with
  | some (cs,j)=>(cs.mapM (frz n o)).map fun cs=>.ip cs j
  | none=>none
 | n+1,o,.fn g cs=>(cs.mapM (frz n o)).map (.fn g)
 | _+1,_,.mp _=>none
 | _+1,_,.it _=>none
 | _+1,_,v=>some v
def FZ:Nat:=24
def fz (o:O) (v:V):Option V:=frz FZ o v
def fzs (o:O) (vs:List V):Option (List V):=vs.mapM (fz o)
def clo:Nat→V→Bool
 | 0,_=>false
 | n+1,.ag cs=>cs.all (clo n)
 | n+1,.tp cs=>cs.all (clo n)
 | n+1,.fn _ cs=>cs.all (clo n)
 | _+1,.rw ..=>false
 | _+1,.ra ..=>false
 | _+1,.pt ..=>false
 | _+1,.mp _=>false
 | _+1,.it _=>false
 | _+1,_=>true
def clos (vs:List V):Bool:=vs.all (clo FZ)
def flat:Nat→V→Bool
 | 0,_=>false
 | n+1,.ag cs=>cs.all (flat n)
 | n+1,.tp cs=>cs.all (flat n)
 | _+1,.jk=>true
 | _+1,.bo _=>true
 | _+1,.i _ _=>true
 | _+1,.s _=>true
 | _+1,.np=>true
 | _+1,.nm=>true
 | _+1,.nf=>true
 | _+1,_=>false
def QN (ag:Bool) (ks:List Lf) (k:V):List (Nat × V × V)→Option (Option Nat)
 | []=>if k.isAg=ag∧k.cells.length=ks.length then some none else none
 | (_,k',_)::r =>
  match eqV ag ks k k' with
  | some true=>some (some 0)
  | some false=>match QN ag ks k r with
   | some (some j)=>some (some (j+1))
   | some none=>some none
   | none=>none
  | none=>none
inductive I where
 | q (q:Q)
 | isn (mp neg:Bool) (x:Od)
 | ld (sz:Nat) (ag:Bool) (x:Od)
 | mlen (x:Od)
 | lkp (ag:Bool) (ks:List Lf) (z:V) (ok:Bool) (m k:Od)
 | ent (x:Od)
 | pc (g:Nat) (as:List Od)
 | pv (g:Od) (as:List Od)
 | alc (z:List V)
 | box (x:Od)
 | bsl (sz n:Nat) (z:List V) (ps:List (Nat × Od))
 | mks (sz byt:Nat) (z:List V) (l c:Od)
 | mkm
 | sto (sz:Nat) (x v:Od)
 | app (sz byt:Nat) (x y:Od)
 | apz (sz byt:Nat) (z:List V) (x n:Od)
 | cpy (sz:Nat) (x y:Od)
 | clr (z:List V) (x:Od)
 | mup (ag:Bool) (ks:List Lf) (m k v:Od)
 | men (ag:Bool) (ks:List Lf) (z:V) (m k:Od)
 | est (m s v:Od)
 | del (ag:Bool) (ks:List Lf) (m k:Od)
 | rng (m:Od)
 | nxt (x:Od)
 | nc (g:Nat) (as:List Od)
 | nv (g:Od) (as:List Od)
 | isz (neg:Bool) (x:Od)
 | bad
variable {j:I}
abbrev Qg:=Nat→List V→O→(V→O→Prop)→Prop
variable {c1 c2 cl:Qg}
def szV:V→Option Bool
 | .nil=>some false
 | .sl es=>some (!es.isEmpty)
 | .rw _ _ _ l=>some (l != 0)
 | .ra _ _ _ l=>some (l != 0)
 | _=>none
def isnV (o:O) (mp neg:Bool):V→Option V
 | .np=>if mp then none else some (.bo (!neg))
 | .ip _ _=>if mp then none else some (.bo neg)
 | .pt id _ _=>if mp then none else (o id).map fun _=>.bo neg
 | .nm=>if mp then some (.bo (!neg)) else none
 | .mp id=>if mp then (o id).map fun _=>.bo neg else none
 | _=>none
def lkpV (o:O) (kg:Bool) (ks:List Lf) (z:V) (ok:Bool) (m k:V):Option V :=
 let found:Option (Option V):=match m with
  | .nm=>match QN kg ks k [] with
   | some _=>some none
   | none=>none
  | .mp id=>match o id with
   | some (.map ents _)=>match QN kg ks k ents with
    | some (some j)=>(ents[j]?).map fun x=>some x.2.2
    | some none=>some none
    | none=>none
   | _=>none
  | _=>none
 match found with
 | some (some v)=>some (if ok then .tp [v,.bo true] else v)
 | some none=>some (if ok then .tp [z,.bo false] else z)
 | none=>none
def entV (o:O):V→Option V
 | .it id=>match o id with
  | some (.iter (some m) _ seen stepped)=>match o m,seen.getLast? with
   | some (.map ents clock),some st=>if clock=stepped then (match ents.find? (fun x=>x.1==st) with
    | some (_,k,v)=>some (.tp [k,v])
    | none=>none) else none
   | _,_=>none
  | _=>none
 | _=>none
def rv (e:E) (o:O):I→Option V
 | .q q=>qv e q
 | .isn mp neg x=>isnV o mp neg (x.ev e)
 | .ld sz ag x=>match Qz o (x.ev e) with
  | some (cs,j)=>prt ag j sz cs
  | none=>none
 | .mlen x=>match x.ev e with
  | .nm=>some (.i .i64 0)
  | .mp id=>match o id with
   | some (.map ents _)=>some (.i .i64 ents.length)
   | _=>none
  | _=>none
 | .lkp kg ks z ok m k=>lkpV o kg ks z ok (m.ev e) (k.ev e)
 | .ent x=>entV o (x.ev e)
 | _=>none
def XK (cl:Qg) (o:O) (g:Nat) (vs:List V) (r:V):Prop :=
 ∃ ws,fzs o vs=some ws∧cl g ws emp (fun v o'=>fz o' v=some r)∧(clos vs||flat FZ r)=true
def Zl (n byt:Nat):Prop:=n≤2147483648∧byt≤65536
def putE (kg:Bool) (ks:List Lf) (k v:V) (ents:List (Nat × V × V)) (clock:Nat):Option (List (Nat × V × V) × Nat) :=
 match QN kg ks k ents with
 | some (some j)=>(ents[j]?).map fun x=>(ents.set j (x.1,k,v),clock)
 | some none=>some (ents++[(clock,k,v)],clock+1)
 | none=>none
def W (cl:Qg) (e:E) (o:O) (K:V→O→Prop):I→Prop
 | .pc g as=>∃ r,XK cl o g (as.map (Od.ev e)) r∧K r o
 | .pv g as=>∃ r,(match g.ev e with
   | .fn h cs=>XK cl o h (as.map (Od.ev e)++cs) r
   | _=>False)∧K r o
 | .alc z=>∀ id,o id=none→K (.pt id 0 0) (upd o id (some (.row z.length [z])))
 | .box x=>(x.ev e).cells≠[]∧∀ id,o id=none→K (.pt id 0 0) (upd o id (some (.row (x.ev e).cells.length [(x.ev e).cells])))
 | .bsl sz n z ps =>
  if n=0 then K .nil o else
  match Yd e sz ps (List.replicate n z) with
  | some es=>∀ id,o id=none→K (.rw id sz 0 n) (upd o id (some (.row sz es)))
  | none=>False
 | .mks sz byt z l c=>match natV (l.ev e),natV (c.ev e) with
  | some l,some c=>l≤c∧Zl c byt∧∀ id,o id=none→K (.rw id sz 0 l) (upd o id (some (.row sz (List.replicate l z))))
  | _,_=>False
 | .mkm=>∀ id,o id=none→K (.mp id) (upd o id (some (.map [] 0)))
 | .sto sz x v=>match x.ev e with
  | .pt id i j=>match o id with
   | some (.row s es)=>match es[i]? with
    | some cs=>(v.ev e).cells.length=sz∧j+sz≤cs.length∧K .jk (upd o id (some (.row s (es.set i (splice j (v.ev e).cells cs)))))
    | none=>False
   | _=>False
  | _=>False
 | .app sz byt x y=>match src o (y.ev e) with
  | some ys=>(∀ c∈ys,c.length=sz)∧(match x.ev e with
   | .nil=>Zl ys.length byt∧(ys=[]→K .nil o) ∧
     (ys≠[]→∀ id,o id=none→K (.rw id sz 0 ys.length) (upd o id (some (.row sz ys))))
   | .rw id sz' off len=>sz'=sz∧off=0∧(match o id with
    | some (.row _ es)=>len≤es.length∧Zl (len+ys.length) byt∧(ys=[]→K (.rw id sz 0 len) o) ∧
      (ys≠[]→∀ id',upd o id none id'=none→K (.rw id' sz 0 (len+ys.length)) (upd (upd o id none) id' (some (.row sz (es.take len++ys)))))
    | _=>False)
   | _=>False)
  | none=>False
 | .apz sz byt z x n=>match natV (n.ev e) with
  | some n=>(match x.ev e with
   | .nil=>Zl n byt∧(n=0→K .nil o) ∧
     (n≠0→∀ id,o id=none→K (.rw id sz 0 n) (upd o id (some (.row sz (List.replicate n z)))))
   | _=>False)
  | none=>False
 | .cpy sz x y=>match src o (y.ev e) with
  | some ys=>(∀ c∈ys,c.length=sz)∧(match x.ev e with
   | .nil=>K (.i .i64 0) o
   | .rw id sz' off len=>sz'=sz∧(match o id with
    | some (.row s es)=>off+len≤es.length∧K (.i .i64 ((min ys.length len:Nat):Int))
      (upd o id (some (.row s (es.take off++ys.take len++es.drop (off+min ys.length len)))))
    | _=>False)
   | .ra id i j len=>sz=1∧(match o id with
    | some (.row s es)=>(match es[i]? with
     | some cs=>j+len≤cs.length∧K (.i .i64 ((min ys.length len:Nat):Int)) (upd o id (some (.row s (es.set i (splice j (ys.take len).flatten cs)))))
     | none=>False)
    | _=>False)
   | _=>False)
  | none=>False
 | .clr z x=>match x.ev e with
  | .nil=>K (.tp []) o
  | .rw id sz off len=>z.length=sz∧(match o id with
   | some (.row s es)=>off+len≤es.length∧K (.tp []) (upd o id (some (.row s (es.take off++List.replicate len z++es.drop (off+len)))))
   | _=>False)
  | _=>False
 | .mup kg ks m k v=>match m.ev e with
  | .mp id=>match o id with
   | some (.map ents clock)=>match putE kg ks (k.ev e) (v.ev e) ents clock with
    | some (es,cl)=>K .jk (upd o id (some (.map es cl)))
    | none=>False
   | _=>False
  | _=>False
 | .men kg ks z m k=>match m.ev e with
  | .mp id=>match o id with
   | some (.map ents clock)=>match QN kg ks (k.ev e) ents with
    | some (some j)=>(match ents[j]? with
     | some (st,_,v)=>K (.tp [v,.i .i64 st]) (upd o id (some (.map (ents.set j (st,k.ev e,v)) clock)))
     | none=>False)
    | some none=>K (.tp [z,.i .i64 clock]) (upd o id (some (.map (ents++[(clock,k.ev e,z)]) (clock+1))))
    | none=>False
   | _=>False
  | _=>False
 | .est m s v=>match m.ev e,natV (s.ev e) with
  | .mp id,some st=>match o id with
   | some (.map ents clock)=>(∃ x∈ents,x.1=st)∧K .jk (upd o id (some (.map (ents.map fun x=>if x.1=st then (x.1,x.2.1,v.ev e) else x) clock)))
   | _=>False
  | _,_=>False
 | .del kg ks m k=>match m.ev e with
  | .mp id=>match o id with
   | some (.map ents clock)=>match QN kg ks (k.ev e) ents with
    | some (some j)=>K (.tp []) (upd o id (some (.map (ents.eraseIdx j) clock)))
    | some none=>K (.tp []) (upd o id (some (.map ents clock)))
    | none=>False
   | _=>False
  | _=>False
 | .rng m=>match m.ev e with
  | .nm=>∀ id,o id=none→K (.it id) (upd o id (some (.iter none 0 [] 0)))
  | .mp mid=>match o mid with
   | some (.map _ clock)=>∀ id,o id=none→K (.it id) (upd o id (some (.iter (some mid) clock [] clock)))
   | _=>False
  | _=>False
 | .nxt x=>match x.ev e with
  | .it id=>match o id with
   | some (.iter none _ _ _)=>K (.tp [.bo false]) o
   | some (.iter (some mid) since seen stepped)=>match o mid with
    | some (.map ents clock)=>(seen=[]∨ents=[]∨∃ x∈ents,x.1 < stepped) ∧
      ((∀ x∈ents,x.1 < since→x.1∈seen)→K (.tp [.bo false]) o) ∧
      (∀ x∈ents,x.1 ∉ seen→K (.tp [.bo true,x.2.1,x.2.2]) (upd o id (some (.iter (some mid) since (seen++[x.1]) clock))))
    | _=>False
   | _=>False
  | _=>False
 | .nc g as=>cl g (as.map (Od.ev e)) o (fun v o'=>K v o')
 | .nv g as=>match g.ev e with
  | .fn h cs=>cl h (as.map (Od.ev e)++cs) o (fun v o'=>K v o')
  | _=>False
 | .isz neg x=>match szV (x.ev e) with
  | some true=>K (.bo neg) o
  | some false=>∀ p,K (.bo p) o
  | none=>False
 | .bad=>False
 | j=>match rv e o j with
  | some v=>K v o
  | none=>False
structure Stp where
 d:Option Nat
 g:Option (Nat × Bool)
 i:I
 st:List I
def stb (e:E) (o:O) (e':E) (o':O):List I→Prop
 | []=>True
 | j::l=>rv e' o' j=rv e o j∧stb e o e' o' l
def gdV (p:Bool):V→V
 | .bo q=>.bo q
 | .tp _=>.bo (!p)
 | _=>.jk
def WS (cl:Qg) (s:Stp) (e:E) (o:O) (K:E→O→Prop):Prop :=
 match s.g with
 | none=>W cl e o (fun v o'=>stb e o (put e s.d v) o' s.st∧K (put e s.d v) o') s.i
 | some (t,p)=>match gdV p (e t) with
  | .bo q=>if q=p then W cl e o (fun v o'=>stb e o (put e s.d v) o' s.st∧K (put e s.d v) o') s.i else K (put e s.d (.tp [])) o
  | _=>False
def wpR (cl:Qg):List Stp→(E→O→Prop)→E→O→Prop
 | [],K,e,o=>K e o
 | s::l,K,e,o=>WS cl s e o (wpR cl l K)
mutual
def cls1:V→Bool
 | .ag cs=>Zc cs
 | .tp cs=>Zc cs
 | .fn _ cs=>Zc cs
 | .sl _=>true
 | .ip _ _=>true
 | .rw _ _ _ _=>false
 | .ra _ _ _ _=>false
 | .pt _ _ _=>false
 | .mp _=>false
 | .it _=>false
 | .jk=>true
 | .bo _=>true
 | .i _ _=>true
 | .s _=>true
 | .nil=>true
 | .np=>true
 | .nf=>true
 | .nm=>true
def Zc:List V→Bool
 | []=>true
 | v::vs=>cls1 v&&Zc vs
end
mutual
def still (id:Nat) (es:List (List V)):V→V
 | .ag cs=>.ag (ZB id es cs)
 | .tp cs=>.tp (ZB id es cs)
 | .fn g cs=>.fn g (ZB id es cs)
 | .sl rs=>.sl rs
 | .ip cs j=>.ip cs j
 | .rw i sz off len=>if i==id then (if off+len≤es.length then .sl ((es.drop off).take len) else .jk) else .rw i sz off len
 | .ra i k j len=>if i==id then .jk else .ra i k j len
 | .pt i k j=>if i==id then (match es[k]? with|some cs=>.ip cs j|none=>.jk) else .pt i k j
 | .mp i=>if i==id then .jk else .mp i
 | .it i=>if i==id then .jk else .it i
 | .jk=>.jk
 | .bo p=>.bo p
 | .i k n=>.i k n
 | .s y=>.s y
 | .nil=>.nil
 | .np=>.np
 | .nf=>.nf
 | .nm=>.nm
def ZB (id:Nat) (es:List (List V)):List V→List V
 | []=>[]
 | v::vs=>still id es v::ZB id es vs
end
def Qc6 (id:Nat) (es:List (List V)):Ob→Ob
 | .row sz rs=>.row sz (rs.map (ZB id es))
 | .map ents clock=>.map (ents.map fun x=>(x.1,still id es x.2.1,still id es x.2.2)) clock
 | .iter mp since seen stepped=>.iter mp since seen stepped
def Wo (id:Nat) (es:List (List V)) (o:O):O:=fun i=>if i==id then none else (o i).map (Qc6 id es)
def Wq (id:Nat) (es:List (List V)) (e:E):E:=fun t=>still id es (e t)
inductive Gst (K:E→O→Prop):E→O→Prop where
 | here {e:E} {o:O} (h:K e o):Gst K e o
 | still {e:E} {o:O} (id sz:Nat) (es:List (List V)) (ho:o id=some (.row sz es)) (hc:es.all Zc=true) (h:Gst K (Wq id es e) (Wo id es o)):Gst K e o
inductive C where
 | sk
 | rg (l:List Stp)
 | sq (a b:C)
 | cd (c:Od) (a b:C)
 | bk (id:Nat) (a:C)
 | lp (a:C)
 | ex (id:Nat)
 | rt
 | bad
inductive X where
 | nx
 | ex (id:Nat)
 | rt
def seqX (nx:E→O→Prop) (K:X→E→O→Prop):X→E→O→Prop
 | .nx,e,o=>nx e o
 | .ex id,e,o=>K (.ex id) e o
 | .rt,e,o=>K .rt e o
def blkX (id:Nat) (K:X→E→O→Prop):X→E→O→Prop
 | .nx,e,o=>K .nx e o
 | .ex j,e,o=>if j=id then K .nx e o else K (.ex j) e o
 | .rt,e,o=>K .rt e o
def wpC (cl:Qg):C→(X→E→O→Prop)→E→O→Prop
 | .sk,K,e,o=>K .nx e o
 | .rg l,K,e,o=>Gst (wpR cl l (K .nx)) e o
 | .sq a b,K,e,o=>wpC cl a (seqX (wpC cl b K) K) e o
 | .cd c a b,K,e,o=>match c.ev e with
  | .bo true=>wpC cl a K e o
  | .bo false=>wpC cl b K e o
  | _=>False
 | .bk id a,K,e,o=>wpC cl a (blkX id K) e o
 | .lp a,K,e,o=>∀ J:E→O→Prop,(∀ e' o',wpC cl a (seqX J K) e' o'→J e' o')→J e o
 | .ex id,K,e,o=>K (.ex id) e o
 | .rt,K,e,o=>K .rt e o
 | .bad,_,_,_=>False
inductive Rs where
 | t (n:Nat)
 | c (a sz:Nat) (ag:Bool)
def resV (e:E) (o:O):Rs→Option V
 | .t n=>some (e n)
 | .c a sz ag=>match Qz o (e a) with
  | some (cs,j)=>prt ag j sz cs
  | none=>none
structure Fn where
 n:Nat
 np:Nat
 res:List Rs
 body:C
def one:List V→V
 | [v]=>v
 | vs=>.tp vs
def ini (as:List V):E:=fun n=>as.getD n .jk
def endX (res:List Rs) (K:V→O→Prop):X→E→O→Prop
 | .nx,e,o|.rt,e,o=>∃ vs,res.mapM (resV e o)=some vs∧K (one vs) o
 | .ex _,_,_=>False
structure En where
 fn:Nat→Option Fn
 base:Qg
instance:CoeFun En (fun _=>Nat→Option Fn):=⟨En.fn⟩
def wpF (F:En) (cl:Qg) (g:Nat) (as:List V) (o:O) (K:V→O→Prop):Prop :=
 match F g with
 | some fn=>as.length=fn.np∧wpC cl fn.body (endX fn.res K) (ini as) o
 | none=>∃ K',F.base g as o K'∧∀ v o,K' v o→K v o
def Call (F:En):Qg:=fun g as o K =>
 ∀ cl:Qg,(∀ g as o K,wpF F cl g as o K→cl g as o K)→cl g as o K
def GL:List (Nat × List V):=[(0,[.i .u8 0,.i .u8 1,.i .u8 56,.i .u8 2,.i .u8 57,.i .u8 49,.i .u8 28,.i .u8 3,.i .u8 61,.i .u8 58,.i .u8 42,.i .u8 50,.i .u8 38,.i .u8 29,.i .u8 17,.i .u8 4,.i .u8 62,.i .u8 47,.i .u8 59,.i .u8 36,.i .u8 45,.i .u8 43,.i .u8 51,.i .u8 22,.i .u8 53,.i .u8 39,.i .u8 33,.i .u8 30,.i .u8 24,.i .u8 18,.i .u8 12,.i .u8 5,.i .u8 63,.i .u8 55,.i .u8 48,.i .u8 27,.i .u8 60,.i .u8 41,.i .u8 37,.i .u8 16,.i .u8 46,.i .u8 35,.i .u8 44,.i .u8 21,.i .u8 52,.i .u8 32,.i .u8 23,.i .u8 11,.i .u8 54,.i .u8 26,.i .u8 40,.i .u8 15,.i .u8 34,.i .u8 20,.i .u8 31,.i .u8 10,.i .u8 25,.i .u8 14,.i .u8 19,.i .u8 9,.i .u8 13,.i .u8 8,.i .u8 7,.i .u8 6])]
def glV (g:Nat):V:=match GL.find? (fun q=>q.1==g) with
 | some q=>.ip q.2 0
 | none=>.jk
def rp (n:Nat) (v:V):List V:=List.replicate n v
def zV:Value→V
 | .bool p=>.bo p
 | .int k n=>.i k n
 | .string y=>.s y
 | .pointer none=>.np
 | .slice none 0 0=>.nil
 | .map none=>.nm
 | .nilFunc=>.nf
 | _=>.jk
def oneC:Value→Bool
 | .agg _=>false
 | .tuple _=>false
 | _=>true
def zVs:Value→V
 | .agg cs=>if cs.toList.all oneC then .ag (cs.toList.map zV) else .jk
 | v=>zV v
def cO:Operand→Od
 | .tmp t=>.t t
 | .const v=>.k (zVs v)
 | .global g=>.k (glV g)
 | .func g=>.k (.fn g [])
def isA (P:Program) (t:TypeId):Bool :=
 match P.underlying t with
 | some (.struct _)=>true
 | some (.array _ _)=>true
 | _=>false
def okT (P:Program) (t:TypeId):Bool:=decide (0 < P.cellsOf t)&&(P.underlying t).isSome
def Yx (P:Program) (t:TypeId):Option (List V) :=
 match P.info? t with
 | some j=>match j.zero with
  | some z=>if z.cells.toList.all oneC then some (z.cells.toList.map zV) else none
  | none=>none
 | none=>none
def Qa8 (P:Program) (t:TypeId):Option V :=
 match P.info? t with
 | some j=>match j.zero with
  | some z=>some (zVs z)
  | none=>none
 | none=>none
def lfsF (P:Program) (lf:TypeId→Option (List Lf)):List Field→Nat→Option (List Lf)
 | [],_=>some []
 | f::fs,n =>
  if f.name ≠ "_" ∧ f.offset = n then
   match lf f.type,lfsF P lf fs (n+P.cellsOf f.type) with
   | some m,some r=>if m.length=P.cellsOf f.type∧0 < P.cellsOf f.type then some (m++r) else none
   | _,_=>none
  else none
def lfs (P:Program):Nat→TypeId→Option (List Lf)
 | 0,_=>none
 | n+1,t =>
  match P.underlying t with
  | some .bool=>some [.b]
  | some (.int k)=>some [.i k]
  | some .string=>some [.s]
  | some (.struct fs)=>if P.stoodInHeld t then none else lfsF P (lfs P n) fs.toList 0
  | some (.array len e)=>match lfs P n e with
   | some m=>if m.length=P.cellsOf e∧0 < P.cellsOf e then some (List.replicate len m).flatten else none
   | none=>none
  | _=>none
def LD:Nat:=12
def J1 (P:Program) (fs:Array Field):List (Nat × Nat):=fs.toList.map fun f=>(f.offset,P.cellsOf f.type)
def Vv (l:List (Nat × Nat)):List (Nat × Operand)→Option (List (Nat × Nat × Od))
 | []=>some []
 | (j,x)::r=>match l[j]?,Vv l r with
  | some (off,sz),some r=>if 0 < sz then some ((off,sz,cO x)::r) else none
  | _,_=>none
def zlen (P:Program) (e:TypeId):Bool :=
 match Yx P e with
 | some z=>z.length==P.cellsOf e
 | none=>false
def cod (c:Bool) (j:I):I:=if c then j else .bad
def ZZ (P:Program) (g:Nat):Bool :=
 match P.funcs[g]? with
 | some fn => fn.body.isSome && fn.name != "runtime.NumGoroutine"
 | none=>false
def VX (P:Program) (im:Bool) (c:Go.Call):I :=
 match c.callee with
 | .value (.func g)=>cod (ZZ P g) (if im then .nc g (c.args.toList.map cO) else .pc g (c.args.toList.map cO))
 | .value x=>if im then .nv (cO x) (c.args.toList.map cO) else .pv (cO x) (c.args.toList.map cO)
 | .invoke _ _=>.bad
 | .builtin b=>match b,c.args.toList,c.argTypes.toList with
  | .len,[x],t::_=>match P.underlying t with
   | some .string=>.q (.lns (cO x))
   | some (.slice _)=>.q (.len (cO x))
   | some (.map _ _)=>.mlen (cO x)
   | some (.array n _)=>.q (.mov (.k (.i .i64 n)))
   | some (.pointer t)=>match P.underlying t with
    | some (.array n _)=>.q (.mov (.k (.i .i64 n)))
    | _=>.bad
   | _=>.bad
  | .cap,[x],t::_=>match P.underlying t with
   | some (.slice _)=>.q (.cap (cO x))
   | _=>.bad
  | .append,[x,y],t::u::_=>match P.underlying t with
   | some (.slice e)=>match P.underlying u with
    | some (.int _)=>match Yx P e with
     | some z=>cod (okT P e&&z.length==P.cellsOf e&&decide (P.bytesOf e≤65536)&&decide (0 < P.bytesOf e)) (.apz (P.cellsOf e) (P.bytesOf e) z (cO x) (cO y))
     | none=>.bad
    | some (.slice _)=>cod (okT P e&&zlen P e&&decide (P.bytesOf e≤65536)&&decide (0 < P.bytesOf e)) (.app (P.cellsOf e) (P.bytesOf e) (cO x) (cO y))
    | _=>.bad
   | _=>.bad
  | .copy,[x,y],t::_=>match P.underlying t with
   | some (.slice e)=>cod (okT P e) (.cpy (P.cellsOf e) (cO x) (cO y))
   | _=>.bad
  | .clear,[x],t::_=>match P.underlying t with
   | some (.slice e)=>match Yx P e with
    | some z=>cod (okT P e&&z.length==P.cellsOf e) (.clr z (cO x))
    | none=>.bad
   | _=>.bad
  | .delete,[m,k],t::_=>match P.underlying t with
   | some (.map kt _)=>match lfs P LD kt with
    | some ks=>.del (isA P kt) ks (cO m) (cO k)
    | none=>.bad
   | _=>.bad
  | .max,[x,y],_=>.q (.mx true (cO x) (cO y))
  | .min,[x,y],_=>.q (.mx false (cO x) (cO y))
  | _,_,_=>.bad
def DE:Operand→Bool
 | .const (.pointer none)=>true
 | _=>false
def D4:Operand→Bool
 | .const (.map none)=>true
 | _=>false
def Dh:Operand→Bool
 | .const (.slice none _ _)=>true
 | _=>false
def QdE (P:Program) (op:BinOp) (t:TypeId) (x y:Operand):I :=
 match op,P.underlying t with
 | .eql,some .bool=>.q (.eqb false (cO x) (cO y))
 | .neq,some .bool=>.q (.eqb true (cO x) (cO y))
 | .eql,some (.struct _)=>match lfs P LD t with
  | some ks=>cod (!P.eqGuardType P.depth t) (.q (.eqp false true ks (cO x) (cO y)))
  | none=>.bad
 | .neq,some (.struct _)=>match lfs P LD t with
  | some ks=>cod (!P.eqGuardType P.depth t) (.q (.eqp true true ks (cO x) (cO y)))
  | none=>.bad
 | .eql,some (.array _ _)=>match lfs P LD t with
  | some ks=>cod (!P.eqGuardType P.depth t) (.q (.eqp false true ks (cO x) (cO y)))
  | none=>.bad
 | .neq,some (.array _ _)=>match lfs P LD t with
  | some ks=>cod (!P.eqGuardType P.depth t) (.q (.eqp true true ks (cO x) (cO y)))
  | none=>.bad
 | .eql,some (.pointer _)=>cod (DE y) (.isn false false (cO x))
 | .neq,some (.pointer _)=>cod (DE y) (.isn false true (cO x))
 | .eql,some (.map _ _)=>cod (D4 y) (.isn true false (cO x))
 | .neq,some (.map _ _)=>cod (D4 y) (.isn true true (cO x))
 | .eql,some (.slice _)=>cod (Dh y) (.isz false (cO x))
 | .neq,some (.slice _)=>cod (Dh y) (.isz true (cO x))
 | o,some (.int _)=>.q (.bin o (cO x) (cO y))
 | o,some .string=>.q (.bin o (cO x) (cO y))
 | _,_=>.bad
def cop (P:Program) (im:Bool) (o:Oper):I :=
 match o.op with
 | .move x=>.q (.mov (cO x))
 | .assign x=>.q (.mov (cO x))
 | .pick c a b=>.q (.pick (cO c) (cO a) (cO b))
 | .alloc t=>match Yx P t with
  | some z=>cod (!z.isEmpty) (.alc z)
  | none=>.bad
 | .box _ x=>.box (cO x)
 | .build t ps=>match P.underlying t,Yx P t with
  | some (.struct fs),some z=>match Vv (J1 P fs) ps.toList with
   | some l=>cod (fs.all fun f=>(P.info? f.type).isSome) (.q (.bld z l))
   | none=>.bad
  | some (.array n e),some z=>match Vv ((List.range n).map fun j=>(j*P.cellsOf e,P.cellsOf e)) ps.toList with
   | some l=>cod (okT P e) (.q (.bld z l))
   | none=>.bad
  | _,_=>.bad
 | .buildSlice t n ps=>match P.underlying t with
  | some (.slice e)=>match Yx P e with
   | some z=>cod (okT P e&&z.length==P.cellsOf e&&(decide (0 < n)||ps.toList.isEmpty)&&decide (n*P.cellsOf e≤16777216)) (if im then .q (.lit (P.cellsOf e) n z (ps.toList.map fun p=>(p.1,cO p.2))) else .bsl (P.cellsOf e) n z (ps.toList.map fun p=>(p.1,cO p.2)))
   | none=>.bad
  | _=>.bad
 | .load t x=>cod (okT P t&&(isA P t||P.cellsOf t==1)) (.ld (P.cellsOf t) (isA P t) (cO x))
 | .store t x v=>cod (okT P t) (.sto (P.cellsOf t) (cO x) (cO v))
 | .nilCheck x=>.q (.nck (cO x))
 | .binOp op t x y _=>QdE P op t x y
 | .unOp op _ x=>.q (.un op (cO x))
 | .convert s d x=>match P.underlying s,P.underlying d with
  | some (.int _),some (.int k)=>.q (.cv k (cO x))
  | _,_=>.bad
 | .makeFunc (.func g) first cs=>cod (first.isEmpty) (.q (.mkf g (cs.toList.map cO)))
 | .makeMap _ none=>.mkm
 | .makeSlice t l c=>match P.underlying t with
  | some (.slice e)=>match Yx P e with
   | some z=>cod (okT P e&&z.length==P.cellsOf e&&decide (P.bytesOf e≤65536)) (.mks (P.cellsOf e) (P.bytesOf e) z (cO l) (cO c))
   | none=>.bad
  | _=>.bad
 | .slice t x lo hi mx=>match P.underlying t with
  | some .string=>cod mx.isNone (.q (.sls (cO x) (lo.map cO) (hi.map cO)))
  | some (.slice e)=>cod (okT P e&&(mx.isNone||hi.isSome)) (.q (.slc (P.cellsOf e) (cO x) (lo.map cO) (hi.map cO) (mx.map cO)))
  | some (.array n e)=>cod (P.cellsOf e==1&&mx.isNone) (.q (.sla n (cO x) (lo.map cO) (hi.map cO)))
  | _=>.bad
 | .fieldAddr t x j=>match P.underlying t with
  | some (.struct fs)=>match fs[j]? with
   | some f=>cod (okT P f.type) (.q (.adr f.offset (cO x)))
   | none=>.bad
  | _=>.bad
 | .field t x j=>match P.underlying t with
  | some (.struct fs)=>match fs[j]? with
   | some f=>cod (okT P f.type) (.q (.fld f.offset (P.cellsOf f.type) (isA P f.type) (cO x)))
   | none=>.bad
  | _=>.bad
 | .indexAddr t x j=>match P.underlying t with
  | some (.array n e)=>cod (okT P e) (.q (.ixq n (P.cellsOf e) (cO x) (cO j)))
  | some (.slice e)=>cod (okT P e) (.q (.ixp (P.cellsOf e) (cO x) (cO j)))
  | _=>.bad
 | .index t x j=>match P.underlying t with
  | some (.array n e)=>cod (okT P e) (.q (.ixa n (P.cellsOf e) (isA P e) (cO x) (cO j)))
  | some .string=>.q (.ixs (cO x) (cO j))
  | _=>.bad
 | .lookup t m k ok=>match P.underlying t with
  | some (.map kt et)=>match lfs P LD kt,Qa8 P et with
   | some ks,some z=>.lkp (isA P kt) ks z ok (cO m) (cO k)
   | _,_=>.bad
  | _=>.bad
 | .mapUpdate t m k v=>match P.underlying t with
  | some (.map kt _)=>match lfs P LD kt with
   | some ks=>.mup (isA P kt) ks (cO m) (cO k) (cO v)
   | none=>.bad
  | _=>.bad
 | .mapEntry t m k=>match P.underlying t with
  | some (.map kt et)=>match lfs P LD kt,Qa8 P et with
   | some ks,some z=>.men (isA P kt) ks z (cO m) (cO k)
   | _,_=>.bad
  | _=>.bad
 | .entryStore _ m s v=>.est (cO m) (cO s) (cO v)
 | .range t x=>match P.underlying t with
  | some (.map _ _)=>.rng (cO x)
  | _=>.bad
 | .next x false=>.nxt (cO x)
 | .entry x=>.ent (cO x)
 | .extract x j=>.q (.ext (cO x) j)
 | .call c=>VX P im c
 | _=>.bad
def odT:Od→List Nat
 | .t n=>[n]
 | .k _=>[]
def odTs (l:List Od):List Nat:=l.flatMap odT
def odO:Option Od→List Nat
 | some x=>odT x
 | none=>[]
def Qhu:Q→List Nat
 | .mov x=>odT x
 | .pick c a b=>odT c++odT a++odT b
 | .bin _ x y=>odT x++odT y
 | .eqb _ x y=>odT x++odT y
 | .eqp _ _ _ x y=>odT x++odT y
 | .un _ x=>odT x
 | .cv _ x=>odT x
 | .fld _ _ _ x=>odT x
 | .ixa _ _ _ x y=>odT x++odT y
 | .ixs x y=>odT x++odT y
 | .ext x _=>odT x
 | .bld _ ps=>ps.flatMap fun p=>odT p.2.2
 | .mkf _ cs=>odTs cs
 | .lit _ _ _ ps=>ps.flatMap fun p=>odT p.2
 | .len x=>odT x
 | .lns x=>odT x
 | .cap x=>odT x
 | .slc _ x a b c=>odT x++odO a++odO b++odO c
 | .sls x a b=>odT x++odO a++odO b
 | .adr _ x=>odT x
 | .ixp _ x y=>odT x++odT y
 | .ixq _ _ x y=>odT x++odT y
 | .sla _ x a b=>odT x++odO a++odO b
 | .mx _ x y=>odT x++odT y
 | .nck x=>odT x
def WA:I→List Nat
 | .q q=>Qhu q
 | .isn _ _ x=>odT x
 | .ld _ _ x=>odT x
 | .mlen x=>odT x
 | .lkp _ _ _ _ m k=>odT m++odT k
 | .ent x=>odT x
 | .pc _ as=>odTs as
 | .pv g as=>odT g++odTs as
 | .alc _=>[]
 | .box x=>odT x
 | .bsl _ _ _ ps=>ps.flatMap fun p=>odT p.2
 | .mks _ _ _ l c=>odT l++odT c
 | .mkm=>[]
 | .sto _ x v=>odT x++odT v
 | .app _ _ x y=>odT x++odT y
 | .apz _ _ _ x n=>odT x++odT n
 | .cpy _ x y=>odT x++odT y
 | .clr _ x=>odT x
 | .mup _ _ m k v=>odT m++odT k++odT v
 | .men _ _ _ m k=>odT m++odT k
 | .est m s v=>odT m++odT s++odT v
 | .del _ _ m k=>odT m++odT k
 | .rng m=>odT m
 | .nxt x=>odT x
 | .nc _ as=>odTs as
 | .nv g as=>odT g++odTs as
 | .isz _ x=>odT x
 | .bad=>[]
def cls:I→Nat
 | .q _=>0
 | .isn _ _ _=>1
 | .ld _ _ _=>1
 | .mlen _=>1
 | .lkp _ _ _ _ _ _=>1
 | .ent _=>1
 | .pc _ _=>2
 | .pv _ _=>2
 | .alc _=>3
 | .box _=>3
 | .bsl _ _ _ _=>3
 | .mks _ _ _ _ _=>3
 | .mkm=>3
 | _=>4
def Stp.uses (s:Stp):List Nat :=
 match s.g with
 | some (t,_)=>t::WA s.i
 | none=>WA s.i
def Stp.wr (s:Stp) (l:List Nat):Bool :=
 match s.d with
 | some d=>l.contains d
 | none=>false
def WC (x y:Stp):Bool :=
 !x.wr y.uses&&!y.wr x.uses&&!(match x.d with|some d=>y.d==some d|none=>false)
def ZF (x y:Stp):Bool :=
 WC x y&&(decide (cls x.i≤2∧cls y.i≤3)||decide (cls x.i=3∧cls y.i=3))
def sup:I→Bool
 | .bad=>false
 | _=>true
def Yg (P:Program) (im:Nat→Bool) (N:Nat) (ops:Array Oper) (j:Nat):Stp :=
 match ops[j]? with
 | some o=>match o.guard with
  | none=>{ d:=o.dst,g:=none,i:=cod (o.dst.all (fun d=>decide (d < N))&&sup (cop P (im j) o)) (cop P (im j) o),st:=[] }
  | some (k,p)=>match (ops[k]?).bind (·.dst) with
   | some t=>{ d:=o.dst,g:=some (t,p),i:=cod (o.dst.all (fun d=>decide (d < N))&&sup (cop P (im j) o)) (cop P (im j) o),st:=[] }
   | none=>{ d:=o.dst,g:=none,i:=.bad,st:=[] }
 | none=>{ d:=none,g:=none,i:=.bad,st:=[] }
def bf (b:Array Nat) (y x:Nat):Bool:=(b.getD y 0).testBit x
def QlL (k:Nat→Nat):List Nat→Option Nat
 | []=>none
 | x::l=>match QlL k l with
  | some y=>if k x≤k y then some x else some y
  | none=>some x
def QgI (b:Array Nat) (k:Nat→Nat) (n:Nat):Nat→List Nat→List Nat
 | 0,acc=>acc.reverse
 | m+1,acc=>match QlL k ((List.range n).filter fun y=>!acc.contains y&&(List.range n).all fun x=>!bf b y x||acc.contains x) with
  | some y=>QgI b k n m (y::acc)
  | none=>acc.reverse
def QaO (f:Nat→Stp) (b:Array Nat) (y:Nat) (l:List Nat):List I :=
 if cls (f y).i=4 then (l.filter fun x=>decide (cls (f x).i=1)&&!bf b y x).map fun x=>(f x).i else []
def Ds (f:Nat→Stp) (y:Nat) (between:List Nat) (x:Nat):Bool :=
 if cls (f y).i=4 then decide (cls (f x).i≤1)&&WC (f x) (f y)&&between.all (fun z=>!(f z).wr (f x).uses)&&!(f x).wr (f x).uses
 else ZF (f x) (f y)
def J6 (f:Nat→Stp) (b:Array Nat) (y:Nat):List Nat→List Nat→Bool
 | [],_=>true
 | x::l,between=>!bf b x y&&(bf b y x||Ds f y between x)&&J6 f b y l (x::between)
def H2 (f:Nat→Stp) (b:Array Nat):List Nat→List Nat→Bool
 | [],_=>true
 | y::l,rev=>J6 f b y rev []&&H2 f b l (y::rev)
def Y0 (ops:Array Oper):Bool :=
 (List.range ops.size).all fun y=>(ops.getD y default).after.all fun e=>!Region.binds .any e||decide (e.on < y)
def Qau (f:Nat→Stp) (b:Array Nat):List Nat→List Nat→List Stp
 | [],_=>[]
 | y::l,ahead=>{ f y with st:=QaO f b y ahead }::Qau f b l (ahead++[y])
def Dw:List Nat→Bool
 | []=>true
 | x::l=>!l.contains x&&Dw l
def Jo (P:Program) (im:Nat→Bool) (N:Nat) (ops:Array Oper) (draw:Bool):C :=
 if draw then
  let b:=Region.before ops
  let f:=Yg P im N ops
  let l:=QgI b (fun y=>cls (f y).i) ops.size ops.size []
  if Y0 ops&&decide (l.length=ops.size)&&(List.range ops.size).all (fun y=>l.contains y)&&l.all (fun y=>decide (y < ops.size))&&Dw l&&H2 f b l [] then .rg (Qau f b l []) else .bad
 else .rg ((List.range ops.size).map (Yg P im N ops))
def XN (P:Program) (im:Nat→Nat→Bool) (N:Nat):Code→C
 | .skip=>.sk
 | .region id ops draw=>Jo P (im id) N ops draw
 | .seq a b=>.sq (XN P im N a) (XN P im N b)
 | .cond c a b=>.cd (cO c) (XN P im N a) (XN P im N b)
 | .block id a=>.bk id (XN P im N a)
 | .loop a=>.lp (XN P im N a)
 | .exit id=>.ex id
 | .ret=>.rt
 | _=>.bad
def XS (P:Program):ResultVar→Option Rs
 | .tmp t=>some (.t t)
 | .cell a t=>if okT P t=true∧(isA P t||P.cellsOf t==1)=true then some (.c a (P.cellsOf t) (isA P t)) else none
def comp (P:Program) (im:Nat→Nat→Nat→Bool) (g:Nat):Option Fn :=
 match P.funcs[g]? with
 | some fn=>match fn.body,fn.results.toList.mapM (XS P) with
  | some c, some res => if fn.name == "runtime.NumGoroutine" ∨ fn.ntmps < fn.params.size + fn.nfree then none else
   some { n:=fn.ntmps,np:=fn.params.size+fn.nfree,res:=res,body:=XN P (im g) fn.ntmps c }
  | _,_=>none
 | none=>none
def Le (c1 c2:Qg):Prop:=∀ g as o K K',(∀ v o,K v o→K' v o)→c1 g as o K→c2 g as o K'
def Qaw (h:Le c1 c2) {r:V} (hp:XK c1 o g vs r):XK c2 o g vs r:=by
 obtain⟨ws,h1,h2,h3⟩:=hp
 exact⟨ws,h1,h _ _ _ _ _ (fun _ _ h=>h) h2,h3⟩
def W_le (h:Le c1 c2) (hk:∀ v o,K v o→K' v o) (hw:W c1 e o K j):W c2 e o K' j:=by
 cases j with
 | q q=>simp only[W] at hw ⊢;split at hw<;>simp_all
 | ld sz ag x=>simp only[W] at hw ⊢;split at hw<;>simp_all
 | isn mp neg x=>simp only[W] at hw ⊢;split at hw<;>simp_all
 | mlen x=>simp only[W] at hw ⊢;split at hw<;>simp_all
 | lkp=>simp only[W] at hw ⊢;split at hw<;>simp_all
 | ent=>simp only[W] at hw ⊢;split at hw<;>simp_all
 | pc g as=>obtain⟨r,hp,hr⟩:=hw;exact⟨r,Qaw h hp,hk _ _ hr⟩
 | pv g as =>
  obtain⟨r,hp,hr⟩:=hw
  refine⟨r,?_,hk _ _ hr⟩
  split at hp
  ·exact Qaw h hp
  ·exact hp.elim
 | alc z=>exact fun id hid=>hk _ _ (hw id hid)
 | box x=>exact⟨hw.1,fun id hid=>hk _ _ (hw.2 id hid)⟩
 | bsl sz n z ps =>
  simp only[W] at hw ⊢;split
  ·rw[if_pos ‹_›] at hw;exact hk _ _ hw
  ·rw[if_neg ‹_›] at hw;split at hw
   ·exact fun id hid=>hk _ _ (hw id hid)
   ·exact hw
 | mks =>
  simp only[W] at hw ⊢;split at hw
  ·exact⟨hw.1,hw.2.1,fun id hid=>hk _ _ (hw.2.2 id hid)⟩
  ·exact hw
 | isz neg x =>
  simp only[W] at hw ⊢;split at hw
  ·exact hk _ _ hw
  ·exact fun p=>hk _ _ (hw p)
  ·exact hw
 | mkm=>exact fun id hid=>hk _ _ (hw id hid)
 | sto sz x v =>
  simp only[W] at hw ⊢;split at hw<;>try exact hw.elim
  split at hw<;>try exact hw.elim
  split at hw<;>try exact hw.elim
  exact⟨hw.1,hw.2.1,hk _ _ hw.2.2⟩
 | app sz byt x y =>
  simp only[W] at hw ⊢;split at hw<;>try exact hw.elim
  obtain⟨h1,hw⟩:=hw
  refine⟨h1,?_⟩
  split at hw<;>try exact hw.elim
  ·exact⟨hw.1,fun e=>hk _ _ (hw.2.1 e),fun e id hid=>hk _ _ (hw.2.2 e id hid)⟩
  ·obtain⟨h2,h3,hw⟩:=hw
   refine⟨h2,h3,?_⟩
   split at hw<;>try exact hw.elim
   exact⟨hw.1,hw.2.1,fun e=>hk _ _ (hw.2.2.1 e),fun e id hid=>hk _ _ (hw.2.2.2 e id hid)⟩
 | apz sz byt z x n =>
  simp only[W] at hw ⊢;split at hw<;>try exact hw.elim
  split at hw<;>try exact hw.elim
  exact⟨hw.1,fun e=>hk _ _ (hw.2.1 e),fun e id hid=>hk _ _ (hw.2.2 e id hid)⟩
 | cpy sz x y =>
  simp only[W] at hw ⊢;split at hw<;>try exact hw.elim
  obtain⟨h1,hw⟩:=hw
  refine⟨h1,?_⟩
  split at hw<;>try exact hw.elim
  ·exact hk _ _ hw
  ·obtain⟨h2,hw⟩:=hw
   refine⟨h2,?_⟩
   split at hw<;>try exact hw.elim
   exact⟨hw.1,hk _ _ hw.2⟩
  ·obtain⟨h2,hw⟩:=hw
   refine⟨h2,?_⟩
   split at hw<;>try exact hw.elim
   split at hw<;>try exact hw.elim
   exact⟨hw.1,hk _ _ hw.2⟩
 | clr z x =>
  simp only[W] at hw ⊢;split at hw<;>try exact hw.elim
  ·exact hk _ _ hw
  ·obtain⟨h2,hw⟩:=hw
   refine⟨h2,?_⟩
   split at hw<;>try exact hw.elim
   exact⟨hw.1,hk _ _ hw.2⟩
 | mup =>
  simp only[W] at hw ⊢;split at hw<;>try exact hw.elim
  split at hw<;>try exact hw.elim
  split at hw<;>try exact hw.elim
  exact hk _ _ hw
 | men =>
  simp only[W] at hw ⊢;split at hw<;>try exact hw.elim
  split at hw<;>try exact hw.elim
  split at hw<;>try exact hw.elim
  ·split at hw<;>try exact hw.elim
   exact hk _ _ hw
  ·exact hk _ _ hw
 | est =>
  simp only[W] at hw ⊢;split at hw<;>try exact hw.elim
  split at hw<;>try exact hw.elim
  exact⟨hw.1,hk _ _ hw.2⟩
 | del =>
  simp only[W] at hw ⊢;split at hw<;>try exact hw.elim
  split at hw<;>try exact hw.elim
  split at hw<;>try exact hw.elim
  ·exact hk _ _ hw
  ·exact hk _ _ hw
 | rng =>
  simp only[W] at hw ⊢;split at hw<;>try exact hw.elim
  ·exact fun id hid=>hk _ _ (hw id hid)
  ·split at hw<;>try exact hw.elim
   exact fun id hid=>hk _ _ (hw id hid)
 | nxt =>
  simp only[W] at hw ⊢;split at hw<;>try exact hw.elim
  split at hw<;>try exact hw.elim
  ·exact hk _ _ hw
  ·split at hw<;>try exact hw.elim
   exact⟨hw.1,fun e=>hk _ _ (hw.2.1 e),fun x hx hs=>hk _ _ (hw.2.2 x hx hs)⟩
 | nc g as=>exact h _ _ _ _ _ hk hw
 | nv g as =>
  simp only[W] at hw ⊢;split at hw<;>try exact hw.elim
  exact h _ _ _ _ _ hk hw
 | bad=>exact hw
def QjD (h:Le c1 c2) {s:Stp} {K K':E→O→Prop} (hk:∀ e o,K e o→K' e o) (hw:WS c1 s e o K):WS c2 s e o K':=by
 unfold WS at hw ⊢;split at hw
 ·exact W_le h (fun v o' hh=>⟨hh.1,hk _ _ hh.2⟩) hw
 ·split at hw
  ·split at hw
   ·rw[if_pos ‹_›];exact W_le h (fun v o' hh=>⟨hh.1,hk _ _ hh.2⟩) hw
   ·rw[if_neg ‹_›];exact hk _ _ hw
  ·exact hw.elim
def Qlc (h:Le c1 c2) {l:List Stp}:∀ {e:E} {o:O} {K K':E→O→Prop},(∀ e o,K e o→K' e o)→wpR c1 l K e o→wpR c2 l K' e o:=by
 induction l with
 | nil=>exact fun hk hw=>hk _ _ hw
 | cons s l ih=>exact fun hk hw=>QjD h (fun e o hh=>ih hk hh) hw
def Qfy (h:Le c1 c2) {c:C}:∀ {e:E} {o:O} {K K':X→E→O→Prop},(∀ x e o,K x e o→K' x e o)→wpC c1 c K e o→wpC c2 c K' e o:=by
 induction c with
 | sk=>exact fun hk hw=>hk _ _ _ hw
 | rg l =>
  intro e o K K' hk hw;induction hw with
  | here hh=>exact .here (Qlc h (hk _) hh)
  | still id sz es ho hc _ ih=>exact .still id sz es ho hc ih
 | sq a b iha ihb =>
  intro e o K K' hk hw;refine iha ?_ hw;intro x e o hx;cases x with
  | nx=>exact ihb hk hx
  | ex id=>exact hk _ _ _ hx
  | rt=>exact hk _ _ _ hx
 | cd c a b iha ihb =>
  intro e o K K' hk hw;simp only[wpC] at hw ⊢;split at hw
  ·exact iha hk hw
  ·exact ihb hk hw
  ·exact hw.elim
 | bk id a iha =>
  intro e o K K' hk hw;refine iha ?_ hw;intro x e o hx;cases x with
  | nx=>exact hk _ _ _ hx
  | ex j =>
   simp only[blkX] at hx ⊢;split
   ·rw[if_pos ‹_›] at hx;exact hk _ _ _ hx
   ·rw[if_neg ‹_›] at hx;exact hk _ _ _ hx
  | rt=>exact hk _ _ _ hx
 | lp a iha =>
  intro e o K K' hk hw J hJ;refine hw J ?_;intro e' o' h';refine hJ e' o' (iha ?_ h');intro x e o hx;cases x with
  | nx=>exact hx
  | ex id=>exact hk _ _ _ hx
  | rt=>exact hk _ _ _ hx
 | ex id=>exact fun hk hw=>hk _ _ _ hw
 | rt=>exact fun hk hw=>hk _ _ _ hw
 | bad=>exact fun _ hw=>hw
def Qdy (h:Le c1 c2) {F:En} (hk:∀ v o,K v o→K' v o)
  (hw:wpF F c1 g as o K):wpF F c2 g as o K':=by
 unfold wpF at hw ⊢;split at hw
 ·refine⟨hw.1,Qfy h ?_ hw.2⟩
  intro x e o hx;cases x with
  | nx=>obtain⟨vs,h1,h2⟩:=hx;exact⟨vs,h1,hk _ _ h2⟩
  | ex id=>exact hx
  | rt=>obtain⟨vs,h1,h2⟩:=hx;exact⟨vs,h1,hk _ _ h2⟩
 ·obtain⟨K',h1,h2⟩:=hw;exact⟨K',h1,fun v o hv=>hk _ _ (h2 v o hv)⟩
def Ym {F:En} (hn:F g=none) (h:F.base g as o K):Call F g as o K:=by
 intro cl hcl;refine hcl _ _ _ _ ?_;unfold wpF;rw[hn]
 exact⟨K,h,fun _ _ h=>h⟩
def Qa (F:En):Le (Call F) (Call F):=by
 intro g as o K K' hk hc;refine hc (fun g as o K=>∀ K',(∀ v o,K v o→K' v o)→Call F g as o K') ?_ K' hk;intro g as o K hw K' hk cl hcl;refine hcl _ _ _ _ (Qdy ?_ hk hw);intro g as o K1 K2 h12 h1;exact h1 K2 h12 cl hcl
def QgC {F:En} (h:wpF F (Call F) g as o K):Call F g as o K:=by
 intro cl hcl;refine hcl _ _ _ _ (Qdy (c1:=fun g as o K=>∃ K1,(∀ v o,K1 v o→K v o)∧Call F g as o K1) ?_ (fun _ _ h=>h) (Qdy ?_ (fun _ _ h=>h) h))
 ·rintro g as o K1 K2 h12 ⟨K0,h0,h1⟩;exact Qa F _ _ _ _ _ (fun v o hv=>h12 _ _ (h0 _ _ hv)) h1 cl hcl
 ·exact fun g as o K1 K2 h12 h1=>⟨K1,h12,h1⟩
def Qm {x:Od} (h:∀ t∈odT x,e t=e' t):x.ev e=x.ev e':=by
 cases x with
 | t n=>exact h n (by simp [odT])
 | k v=>rfl
def WZ {l:List Od} (h:∀ t∈odTs l,e t=e' t):l.map (Od.ev e)=l.map (Od.ev e'):=by
 apply List.map_congr_left;intro x hx;exact Qm fun t ht=>h t (by simp only[odTs,List.mem_flatMap];exact⟨x,hx,ht⟩)
def Wi {x:Option Od} (h:∀ t∈odO x,e t=e' t):natO e z x=natO e' z x:=by
 cases x with
 | none=>rfl
 | some x=>simp only[natO,Qm (e:=e) (e':=e') (x:=x) h]
def Qem (l:List (Nat × Nat × Od)):∀ z,(∀ t∈l.flatMap (fun p=>odT p.2.2),e t=e' t)→J3 e l z=J3 e' l z:=by
 induction l with
 | nil=>intro z _;rfl
 | cons p l ih =>
  obtain⟨off,sz,x⟩:=p;intro z h;simp only[List.flatMap_cons,List.mem_append] at h;simp only[J3,Qm (e:=e) (e':=e') (x:=x) (fun t ht=>h t (.inl ht)),ih _ (fun t ht=>h t (.inr ht))]
def KM (l:List (Nat × Od)):∀ z,(∀ t∈l.flatMap (fun p=>odT p.2),e t=e' t)→Yd e sz l z=Yd e' sz l z:=by
 induction l with
 | nil=>intro z _;rfl
 | cons p l ih =>
  obtain⟨j,x⟩:=p;intro z h;simp only[List.flatMap_cons,List.mem_append] at h;simp only[Yd,Qm (e:=e) (e':=e') (x:=x) (fun t ht=>h t (.inl ht)),ih _ (fun t ht=>h t (.inr ht))]
def QkG (h:∀ t∈Qhu q,e t=e' t):qv e q=qv e' q:=by
 cases q<;>simp only[Qhu,List.mem_append] at h
 case mov x=>simp only[qv,Qm (e:=e) (e':=e') (x:=x) h]
 case pick c a b=>simp only[qv,Qm (e:=e) (e':=e') (x:=c) (fun t ht=>h t (.inl (.inl ht))),Qm (e:=e) (e':=e') (x:=a) (fun t ht=>h t (.inl (.inr ht))),Qm (e:=e) (e':=e') (x:=b) (fun t ht=>h t (.inr ht))]
 case bin o x y=>simp only[qv,Qm (e:=e) (e':=e') (x:=x) (fun t ht=>h t (.inl ht)),Qm (e:=e) (e':=e') (x:=y) (fun t ht=>h t (.inr ht))]
 case eqb o x y=>simp only[qv,Qm (e:=e) (e':=e') (x:=x) (fun t ht=>h t (.inl ht)),Qm (e:=e) (e':=e') (x:=y) (fun t ht=>h t (.inr ht))]
 case eqp _ _ _ x y=>simp only[qv,Qm (e:=e) (e':=e') (x:=x) (fun t ht=>h t (.inl ht)),Qm (e:=e) (e':=e') (x:=y) (fun t ht=>h t (.inr ht))]
 case un _ x=>simp only[qv,Qm (e:=e) (e':=e') (x:=x) h]
 case cv _ x=>simp only[qv,Qm (e:=e) (e':=e') (x:=x) h]
 case fld _ _ _ x=>simp only[qv,Qm (e:=e) (e':=e') (x:=x) h]
 case ixa _ _ _ x y=>simp only[qv,Qm (e:=e) (e':=e') (x:=x) (fun t ht=>h t (.inl ht)),Qm (e:=e) (e':=e') (x:=y) (fun t ht=>h t (.inr ht))]
 case ixs x y=>simp only[qv,Qm (e:=e) (e':=e') (x:=x) (fun t ht=>h t (.inl ht)),Qm (e:=e) (e':=e') (x:=y) (fun t ht=>h t (.inr ht))]
 case ext x _=>simp only[qv,Qm (e:=e) (e':=e') (x:=x) h]
 case bld z ps=>simp only[qv,Qem ps z h]
 case mkf g cs=>simp only[qv,WZ h]
 case lit _ _ _ ps=>simp only[qv,litV,KM ps _ h]
 case lns x=>simp only[qv,Qm (e:=e) (e':=e') (x:=x) h]
 case len x=>simp only[qv,Qm (e:=e) (e':=e') (x:=x) h]
 case cap x=>simp only[qv,Qm (e:=e) (e':=e') (x:=x) h]
 case slc sz x lo hi mx =>
  have h1:=Qm (e:=e) (e':=e') (x:=x) (fun t ht=>h t (.inl (.inl (.inl ht))));have h2:=fun z=>Wi (e:=e) (e':=e') (z:=z) (x:=lo) (fun t ht=>h t (.inl (.inl (.inr ht))));have h3:=fun z=>Wi (e:=e) (e':=e') (z:=z) (x:=hi) (fun t ht=>h t (.inl (.inr ht)));have h4:∀ m,mx=some m→m.ev e=m.ev e':=fun m hm=>Qm (fun t ht=>h t (.inr (by rw[hm];exact ht)));simp only[qv,slcV,h1,h2,h3];cases lenV (x.ev e') with
  | none=>rfl
  | some n =>
   simp only;generalize natO e' 0 lo=a;generalize natO e' n hi=b;cases a<;>cases b<;>cases mx<;>(first|rfl|simp only[h4 _ rfl])
 case sls x lo hi =>
  have h1:=Qm (e:=e) (e':=e') (x:=x) (fun t ht=>h t (.inl (.inl ht)));have h2:=fun z=>Wi (e:=e) (e':=e') (z:=z) (x:=lo) (fun t ht=>h t (.inl (.inr ht)));have h3:=fun z=>Wi (e:=e) (e':=e') (z:=z) (x:=hi) (fun t ht=>h t (.inr ht));simp only[qv,h1,h2,h3]
 case adr _ x=>simp only[qv,Qm (e:=e) (e':=e') (x:=x) h]
 case ixp _ x y=>simp only[qv,Qm (e:=e) (e':=e') (x:=x) (fun t ht=>h t (.inl ht)),Qm (e:=e) (e':=e') (x:=y) (fun t ht=>h t (.inr ht))]
 case ixq _ _ x y=>simp only[qv,Qm (e:=e) (e':=e') (x:=x) (fun t ht=>h t (.inl ht)),Qm (e:=e) (e':=e') (x:=y) (fun t ht=>h t (.inr ht))]
 case sla n x lo hi =>
  have h1:=Qm (e:=e) (e':=e') (x:=x) (fun t ht=>h t (.inl (.inl ht)));have h2:=fun z=>Wi (e:=e) (e':=e') (z:=z) (x:=lo) (fun t ht=>h t (.inl (.inr ht)));have h3:=fun z=>Wi (e:=e) (e':=e') (z:=z) (x:=hi) (fun t ht=>h t (.inr ht));simp only[qv,h1,h2,h3]
 case mx _ x y=>simp only[qv,Qm (e:=e) (e':=e') (x:=x) (fun t ht=>h t (.inl ht)),Qm (e:=e) (e':=e') (x:=y) (fun t ht=>h t (.inr ht))]
 case nck x=>simp only[qv,Qm (e:=e) (e':=e') (x:=x) h]
def Vt (h:∀ t∈WA j,e t=e' t):rv e o j=rv e' o j:=by
 cases j<;>simp only[WA,List.mem_append] at h<;>simp only[rv]
 case q q=>exact QkG h
 case isn _ _ x=>rw[Qm (e:=e) (e':=e') (x:=x) h]
 case ld _ _ x=>rw[Qm (e:=e) (e':=e') (x:=x) h]
 case mlen x=>rw[Qm (e:=e) (e':=e') (x:=x) h]
 case lkp _ _ _ _ m k=>rw[Qm (e:=e) (e':=e') (x:=m) (fun t ht=>h t (.inl ht)),Qm (e:=e) (e':=e') (x:=k) (fun t ht=>h t (.inr ht))]
 case ent x=>rw[Qm (e:=e) (e':=e') (x:=x) h]
def W_eq (h:∀ t∈WA j,e t=e' t):W cl e o K j=W cl e' o K j:=by
 have hrv:=Vt (o:=o) h;cases j<;>simp only[WA,List.mem_append] at h
 case q q=>simp only[W,hrv]
 case isn=>simp only[W,hrv]
 case ld=>simp only[W,hrv]
 case mlen=>simp only[W,hrv]
 case lkp=>simp only[W,hrv]
 case ent=>simp only[W,hrv]
 case pc g as=>simp only[W,WZ h]
 case pv g as=>simp only[W,Qm (e:=e) (e':=e') (x:=g) (fun t ht=>h t (.inl ht)),WZ (e:=e) (e':=e') (l:=as) (fun t ht=>h t (.inr ht))]
 case alc z=>rfl
 case box x=>simp only[W,Qm (e:=e) (e':=e') (x:=x) h]
 case bsl sz n z ps=>simp only[W,KM ps _ h]
 case mks _ _ _ x y=>simp only[W,Qm (e:=e) (e':=e') (x:=x) (fun t ht=>h t (.inl ht)),Qm (e:=e) (e':=e') (x:=y) (fun t ht=>h t (.inr ht))]
 case mkm=>rfl
 case sto _ x y=>simp only[W,Qm (e:=e) (e':=e') (x:=x) (fun t ht=>h t (.inl ht)),Qm (e:=e) (e':=e') (x:=y) (fun t ht=>h t (.inr ht))]
 case app _ _ x y=>simp only[W,Qm (e:=e) (e':=e') (x:=x) (fun t ht=>h t (.inl ht)),Qm (e:=e) (e':=e') (x:=y) (fun t ht=>h t (.inr ht))]
 case apz _ _ _ x y=>simp only[W,Qm (e:=e) (e':=e') (x:=x) (fun t ht=>h t (.inl ht)),Qm (e:=e) (e':=e') (x:=y) (fun t ht=>h t (.inr ht))]
 case cpy _ x y=>simp only[W,Qm (e:=e) (e':=e') (x:=x) (fun t ht=>h t (.inl ht)),Qm (e:=e) (e':=e') (x:=y) (fun t ht=>h t (.inr ht))]
 case clr _ x=>simp only[W,Qm (e:=e) (e':=e') (x:=x) h]
 case mup _ _ x y z=>simp only[W,Qm (e:=e) (e':=e') (x:=x) (fun t ht=>h t (.inl (.inl ht))),Qm (e:=e) (e':=e') (x:=y) (fun t ht=>h t (.inl (.inr ht))),Qm (e:=e) (e':=e') (x:=z) (fun t ht=>h t (.inr ht))]
 case men _ _ _ x y=>simp only[W,Qm (e:=e) (e':=e') (x:=x) (fun t ht=>h t (.inl ht)),Qm (e:=e) (e':=e') (x:=y) (fun t ht=>h t (.inr ht))]
 case est x y z=>simp only[W,Qm (e:=e) (e':=e') (x:=x) (fun t ht=>h t (.inl (.inl ht))),Qm (e:=e) (e':=e') (x:=y) (fun t ht=>h t (.inl (.inr ht))),Qm (e:=e) (e':=e') (x:=z) (fun t ht=>h t (.inr ht))]
 case del _ _ x y=>simp only[W,Qm (e:=e) (e':=e') (x:=x) (fun t ht=>h t (.inl ht)),Qm (e:=e) (e':=e') (x:=y) (fun t ht=>h t (.inr ht))]
 case rng x=>simp only[W,Qm (e:=e) (e':=e') (x:=x) h]
 case nxt x=>simp only[W,Qm (e:=e) (e':=e') (x:=x) h]
 case nc g as=>simp only[W,WZ h]
 case nv g as=>simp only[W,Qm (e:=e) (e':=e') (x:=g) (fun t ht=>h t (.inl ht)),WZ (e:=e) (e':=e') (l:=as) (fun t ht=>h t (.inr ht))]
 case isz _ x=>simp only[W,Qm (e:=e) (e':=e') (x:=x) h]
 case bad=>rfl
def Q3 {d:Option Nat} {v:V} {t:Nat} (h:d≠some t):put e d v t=e t:=by
 cases d with
 | none=>rfl
 | some d=>simp only[put,upd];rw[if_neg];intro hh;exact h (by rw[hh])
def Dp (e:E) {x y:Option Nat} (v u:V) (h:∀ d,x=some d→y≠some d):put (put e x v) y u=put (put e y u) x v:=by
 cases x with
 | none=>rfl
 | some d =>
  cases y with
  | none=>rfl
  | some f =>
   have hne:d≠f:=fun hh=>h d rfl (by rw[hh]);funext t
   simp only[put,upd];by_cases h1:t=d
   ·by_cases h2:t=f
    ·exact absurd (h1.symm.trans h2) hne
    ·simp [h1,hne]
   ·by_cases h2:t=f
    ·simp [h2,Ne.symm hne]
    ·simp [h1,h2]
def Qep (o:Nat→α) {i j:Nat} {x y:α} (h:i≠j):upd (upd o j y) i x=upd (upd o i x) j y:=by
 funext t
 simp only[upd];by_cases h1:t=i
 ·by_cases h2:t=j
  ·exact absurd (h1.symm.trans h2) h
  ·simp [h1,h]
 ·by_cases h2:t=j
  ·simp [h2,Ne.symm h]
  ·simp [h1,h2]
def XX {x y:Stp} (h:WC x y=true) :
  (∀ t∈y.uses,x.d≠some t)∧(∀ t∈x.uses,y.d≠some t)∧(∀ d,x.d=some d→y.d≠some d):=by
 simp only[WC,Bool.and_eq_true,Bool.not_eq_true'] at h;obtain⟨⟨h1,h2⟩,h3⟩:=h
 refine⟨fun t ht hd=>?_,fun t ht hd=>?_,fun d hd hd'=>?_⟩
 ·simp [Stp.wr,hd,ht] at h1
 ·simp [Stp.wr,hd,ht] at h2
 ·simp [hd,hd'] at h3
def ZD (s:Stp):∀ t∈WA s.i,t∈s.uses:=by
 intro t ht;unfold Stp.uses;split<;>simp [ht]
def Sub (o o':O):Prop:=∀ id ob,o id=some ob→o' id=some ob
theorem Sub.upd {o:O} {id:Nat} {ob:Ob} (h:o id=none):Sub o (upd o id (some ob)):=by
 intro j x hj;simp only[Go.Proofs.YtklbhcjmaeedhaaGreatDoor.upd];rw[if_neg]
 ·exact hj
 ·intro hh;rw[hh,h] at hj;cases hj
def W5 (h:Sub o o') {v:V} {r:List V × Nat} (hv:Qz o v=some r):Qz o' v=some r:=by
 unfold Qz at hv ⊢;cases v<;>simp only at hv ⊢<;>try exact hv
 case pt id i j =>
  cases ho:o id with
  | none=>simp [ho] at hv
  | some ob=>rw[h _ _ ho];rw[ho] at hv;exact hv
def QcT (h:Sub o o') {v:V} {r:List (List V)} (hv:src o v=some r):src o' v=some r:=by
 unfold src at hv ⊢;cases v<;>simp only at hv ⊢<;>try exact hv
 case rw id sz off len =>
  cases ho:o id with
  | none=>simp [ho] at hv
  | some ob=>rw[h _ _ ho];rw[ho] at hv;exact hv
 case ra id i j len =>
  cases ho:o id with
  | none=>simp [ho] at hv
  | some ob=>rw[h _ _ ho];rw[ho] at hv;exact hv
def ZO {f g:α→Option β} (h:∀ x y,f x=some y→g x=some y):∀ {l:List α} {r:List β},l.mapM f=some r→l.mapM g=some r:=by
 intro l;induction l with
 | nil=>intro r hr;simpa using hr
 | cons x l ih =>
  intro r hr;simp only[List.mapM_cons,Option.bind_eq_bind,Option.bind_eq_some_iff] at hr ⊢;obtain⟨y,hy,ys,hys,he⟩:=hr
  exact⟨y,h _ _ hy,ys,ih hys,he⟩
def QgM (h:Sub o o'):∀ (n:Nat) (v r:V),frz n o v=some r→frz n o' v=some r:=by
 intro n;induction n with
 | zero=>intro v r hv;cases hv
 | succ n ih =>
  intro v r hv;cases v<;>simp only[frz] at hv ⊢<;>try exact hv
  case ag cs =>
   simp only[Option.map_eq_some_iff] at hv ⊢;obtain⟨l,hl,he⟩:=hv
   exact⟨l,ZO ih hl,he⟩
  case tp cs =>
   simp only[Option.map_eq_some_iff] at hv ⊢;obtain⟨l,hl,he⟩:=hv
   exact⟨l,ZO ih hl,he⟩
  case rw id sz off len =>
   cases hs:src o (.rw id sz off len) with
   | none=>rw[hs] at hv;cases hv
   | some es =>
    rw[hs] at hv;rw[QcT h hs];simp only[Option.map_eq_some_iff] at hv ⊢;obtain⟨l,hl,he⟩:=hv
    exact⟨l,ZO (fun x y hxy=>ZO ih hxy) hl,he⟩
  case ra id i j len =>
   cases hs:src o (.ra id i j len) with
   | none=>rw[hs] at hv;cases hv
   | some es =>
    rw[hs] at hv;rw[QcT h hs];simp only[Option.map_eq_some_iff] at hv ⊢;obtain⟨l,hl,he⟩:=hv
    exact⟨l,ZO (fun x y hxy=>ZO ih hxy) hl,he⟩
  case pt id i j =>
   cases hs:Qz o (.pt id i j) with
   | none=>rw[hs] at hv;cases hv
   | some x =>
    rw[hs] at hv;rw[W5 h hs];obtain⟨cs,j'⟩:=x;simp only[Option.map_eq_some_iff] at hv ⊢;obtain⟨l,hl,he⟩:=hv
    exact⟨l,ZO ih hl,he⟩
  case fn g cs =>
   simp only[Option.map_eq_some_iff] at hv ⊢;obtain⟨l,hl,he⟩:=hv
   exact⟨l,ZO ih hl,he⟩
def Hn (h:Sub o o') {r:V} (hp:XK cl o g vs r):XK cl o' g vs r:=by
 obtain⟨ws,h1,h2,h3⟩:=hp
 exact⟨ws,ZO (fun x y hxy=>QgM h _ _ _ hxy) h1,h2,h3⟩
def Qk6 (h:Sub o o') {v:V} (hv:rv e o j=some v):rv e o' j=some v:=by
 cases j<;>simp only[rv] at hv ⊢<;>try exact hv
 case isn mp neg x =>
  generalize x.ev e=y at hv ⊢;cases y<;>(first|exact hv|skip)
  case pt id i j =>
   simp only[isnV] at hv ⊢;cases mp<;>simp only[Bool.false_eq_true,if_false,if_true,reduceCtorEq,Option.map_eq_some_iff] at hv ⊢;obtain⟨ob,ho,hb⟩:=hv
   exact⟨ob,h _ _ ho,hb⟩
  case mp id =>
   simp only[isnV] at hv ⊢;cases mp<;>simp only[Bool.false_eq_true,if_false,if_true,reduceCtorEq,Option.map_eq_some_iff] at hv ⊢;obtain⟨ob,ho,hb⟩:=hv
   exact⟨ob,h _ _ ho,hb⟩
 case ld sz ag x =>
  cases hc:Qz o (x.ev e) with
  | none=>rw[hc] at hv;cases hv
  | some r=>rw[hc] at hv;rw[W5 h hc];exact hv
 case mlen x =>
  generalize x.ev e=y at hv ⊢;cases y<;>simp only at hv ⊢<;>try exact hv
  case mp id =>
   cases ho:o id with
   | none=>simp [ho] at hv
   | some ob=>rw[h _ _ ho];rw[ho] at hv;exact hv
 case lkp kg ks z ok m k =>
  generalize m.ev e=y at hv ⊢;unfold lkpV at hv ⊢;cases y<;>simp only at hv ⊢<;>try exact hv
  case mp id =>
   cases ho:o id with
   | none=>simp [ho] at hv
   | some ob=>rw[h _ _ ho];rw[ho] at hv;exact hv
 case ent x =>
  generalize x.ev e=y at hv ⊢;cases y<;>(first|(simp only[entV] at hv;cases hv;done)|skip)
  case it id =>
   simp only[entV] at hv ⊢;cases ho:o id with
   | none=>simp [ho] at hv
   | some ob =>
    rw[h _ _ ho];rw[ho] at hv;cases ob<;>(first|exact hv|skip)
    case iter mp since seen stepped =>
     cases mp with
     | none=>exact hv
     | some m =>
      simp only at hv ⊢;cases hm:o m with
      | none=>simp [hm] at hv
      | some ob=>rw[h _ _ hm];rw[hm] at hv;exact hv
def rvP (cl:Qg) (e:E) (o:O) (j:I) (v:V):Prop :=
 match j with
 | .pc g as=>XK cl o g (as.map (Od.ev e)) v
 | .pv g as=>match g.ev e with
  | .fn h cs=>XK cl o h (as.map (Od.ev e)++cs) v
  | _=>False
 | j=>rv e o j=some v
def Qlw (hc:cls j≤2):W cl e o K j↔∃ v,rvP cl e o j v∧K v o:=by
 cases j<;>simp only[cls] at hc<;>(first|omega|skip)
 case pc g as=>exact Iff.rfl
 case pv g as=>exact Iff.rfl
 all_goals
  simp only[W,rvP];split
  ·simp [*]
  ·simp [*]
def QdJ {v:V} (h:Sub o o') (hv:rvP cl e o j v):rvP cl e o' j v:=by
 cases j<;>simp only[rvP] at hv ⊢
 case pc=>exact Hn h hv
 case pv =>
  split at hv
  ·exact Hn h hv
  ·exact hv
 all_goals exact Qk6 h hv
def QjO {v:V} (h:∀ t∈WA j,e t=e' t):rvP cl e o j v↔rvP cl e' o j v:=by
 have hrv:=Vt (o:=o) h;cases j<;>simp only[WA,List.mem_append] at h<;>simp only[rvP]
 case pc g as=>rw[WZ h]
 case pv g as=>rw[Qm (e:=e) (e':=e') (x:=g) (fun t ht=>h t (.inl ht)),WZ (e:=e) (e':=e') (l:=as) (fun t ht=>h t (.inr ht))]
 all_goals rw[hrv]
def A2 (cl:Qg) (e:E) (o:O) (s:Stp) (v:V):Prop :=
 match s.g with
 | none=>rvP cl e o s.i v
 | some (t,p)=>match gdV p (e t) with
  | .bo q=>if q=p then rvP cl e o s.i v else v=.tp []
  | _=>False
def XM {K:E→O→Prop} {s:Stp} (hc:cls s.i≤2) (hst:s.st=[]):WS cl s e o K↔∃ v,A2 cl e o s v∧K (put e s.d v) o:=by
 unfold WS A2;cases hg:s.g with
 | none=>simp only[hst,stb,true_and];exact Qlw hc
 | some x =>
  obtain⟨t,p⟩:=x;simp only;cases gdV p (e t)<;>simp only[false_and,exists_false,hst,stb,true_and];split
  ·exact Qlw hc
  ·simp
def Qk3 {s:Stp} {v:V} (h:Sub o o') (hv:A2 cl e o s v):A2 cl e o' s v:=by
 unfold A2 at hv ⊢;split at hv
 ·exact QdJ h hv
 ·split at hv
  ·split at hv
   ·rw[if_pos ‹_›];exact QdJ h hv
   ·rw[if_neg ‹_›];exact hv
  ·exact hv
def Qen {s:Stp} {v:V} (h:∀ t∈s.uses,e t=e' t):A2 cl e o s v↔A2 cl e' o s v:=by
 have hi:=QjO (cl:=cl) (o:=o) (v:=v) (fun t ht=>h t (ZD s t ht));unfold A2;cases hg:s.g with
 | none=>exact hi
 | some x =>
  obtain⟨t,p⟩:=x;simp only;rw[← h t (by simp [Stp.uses,hg])];split
  ·split
   ·exact hi
   ·exact Iff.rfl
  ·exact Iff.rfl
def mkP (e:E) (j:I) (r:V ⊕ ((Nat→V) × Ob)):Prop :=
 match j with
 | .alc z=>r=.inr (fun id=>.pt id 0 0,.row z.length [z])
 | .box x=>(x.ev e).cells≠[]∧r=.inr (fun id=>.pt id 0 0,.row (x.ev e).cells.length [(x.ev e).cells])
 | .bsl sz n z ps=>if n=0 then r=.inl .nil else
  match Yd e sz ps (List.replicate n z) with
  | some es=>r=.inr (fun id=>.rw id sz 0 n,.row sz es)
  | none=>False
 | .mks sz byt z l c=>match natV (l.ev e),natV (c.ev e) with
  | some l,some c=>l≤c∧Zl c byt∧r=.inr (fun id=>.rw id sz 0 l,.row sz (List.replicate l z))
  | _,_=>False
 | .mkm=>r=.inr (fun id=>.mp id,.map [] 0)
 | _=>False
def mkK (o:O) (K:V→O→Prop):V ⊕ ((Nat→V) × Ob)→Prop
 | .inl v=>K v o
 | .inr (f,ob)=>∀ id,o id=none→K (f id) (upd o id (some ob))
def QkI (hc:cls j=3):W cl e o K j↔∃ r,mkP e j r∧mkK o K r:=by
 cases j<;>simp only[cls] at hc<;>(first|omega|skip)
 case alc z=>simp [W,mkP,mkK]
 case box x =>
  simp only[W,mkP]
  exact⟨fun h=>⟨_,⟨h.1,rfl⟩,h.2⟩,fun ⟨r,h,hk⟩=>⟨h.1,by rw[h.2] at hk;exact hk⟩⟩
 case bsl sz n z ps =>
  simp only[W,mkP];split
  ·simp [mkK]
  ·cases Yd e sz ps (List.replicate n z) with
   | none=>simp
   | some es=>exact⟨fun h=>⟨_,rfl,h⟩,fun ⟨r,h,hk⟩=>by rw[h] at hk;exact hk⟩
 case mks sz byt z l c =>
  simp only[W,mkP];cases natV (l.ev e) with
  | none=>simp
  | some l=>cases natV (c.ev e) with
   | none=>simp
   | some c=>exact⟨fun h=>⟨_,⟨h.1,h.2.1,rfl⟩,h.2.2⟩,fun ⟨r,h,hk⟩=>⟨h.1,h.2.1,by rw[h.2.2] at hk;exact hk⟩⟩
 case mkm=>simp [W,mkP,mkK]
def Qly {r:V ⊕ ((Nat→V) × Ob)} (h:∀ t∈WA j,e t=e' t):mkP e j r↔mkP e' j r:=by
 cases j<;>simp only[WA,List.mem_append] at h<;>simp only[mkP]
 case box x=>rw[Qm (e:=e) (e':=e') (x:=x) h]
 case bsl sz n z ps=>rw[KM ps _ h]
 case mks _ _ _ x y=>rw[Qm (e:=e) (e':=e') (x:=x) (fun t ht=>h t (.inl ht)),Qm (e:=e) (e':=e') (x:=y) (fun t ht=>h t (.inr ht))]
def A3 (e:E) (s:Stp) (r:V ⊕ ((Nat→V) × Ob)):Prop :=
 match s.g with
 | none=>mkP e s.i r
 | some (t,p)=>match gdV p (e t) with
  | .bo q=>if q=p then mkP e s.i r else r=.inl (.tp [])
  | _=>False
def Xb {K:E→O→Prop} {s:Stp} (hc:cls s.i=3) (hst:s.st=[]) :
  WS cl s e o K↔∃ r,A3 e s r∧mkK o (fun v o'=>K (put e s.d v) o') r:=by
 unfold WS A3;cases hg:s.g with
 | none=>simp only[hst,stb,true_and];exact QkI hc
 | some x =>
  obtain⟨t,p⟩:=x;simp only;cases gdV p (e t)<;>simp only[false_and,exists_false,hst,stb,true_and];split
  ·exact QkI hc
  ·simp [mkK]
def VQ {s:Stp} {r:V ⊕ ((Nat→V) × Ob)} (h:∀ t∈s.uses,e t=e' t):A3 e s r↔A3 e' s r:=by
 have hi:=Qly (r:=r) (fun t ht=>h t (ZD s t ht));unfold A3;cases hg:s.g with
 | none=>exact hi
 | some x =>
  obtain⟨t,p⟩:=x;simp only;rw[← h t (by simp [Stp.uses,hg])];split
  ·split
   ·exact hi
   ·exact Iff.rfl
  ·exact Iff.rfl
def Qhd {q q':V ⊕ ((Nat→V) × Ob)} (h1:mkP e j q) (h2:mkP e j q'):q=q':=by
 cases j<;>simp only[mkP] at h1 h2<;>try exact h1.elim
 case alc=>rw[h1,h2]
 case box=>rw[h1.2,h2.2]
 case bsl sz n z ps =>
  split at h1
  ·rw[if_pos ‹_›] at h2;rw[h1,h2]
  ·rw[if_neg ‹_›] at h2;cases hf:Yd e sz ps (List.replicate n z) with
   | none=>rw[hf] at h1;exact h1.elim
   | some es=>rw[hf] at h1 h2;simp only at h1 h2;rw[h1,h2]
 case mks sz byt z l c =>
  cases hl:natV (l.ev e) with
  | none=>rw[hl] at h1;exact h1.elim
  | some l=>cases hc:natV (c.ev e) with
   | none=>rw[hl,hc] at h1;exact h1.elim
   | some c=>rw[hl,hc] at h1 h2;simp only at h1 h2;rw[h1.2.2,h2.2.2]
 case mkm=>rw[h1,h2]
def swap {x y:Stp} {K:E→O→Prop} (hs:ZF x y=true) (hfree:∃ id,o id=none) (hx:x.st=[]) (hy:y.st=[])
  (h:WS cl x e o (fun e o=>WS cl y e o K)):WS cl y e o (fun e o=>WS cl x e o K):=by
 simp only[ZF,Bool.and_eq_true,Bool.or_eq_true,decide_eq_true_eq] at hs;obtain⟨ha,hc⟩:=hs;obtain⟨ay,ax,ad⟩:=XX ha;have ey:∀ v,∀ t∈y.uses,put e x.d v t=e t:=fun v t ht=>Q3 (ay t ht);have ex:∀ v,∀ t∈x.uses,put e y.d v t=e t:=fun v t ht=>Q3 (ax t ht);have cm:∀ v u,put (put e x.d v) y.d u=put (put e y.d u) x.d v:=fun v u=>Dp e v u ad;by_cases c2:cls x.i≤2
 ·by_cases d2:cls y.i≤2
  ·rw[XM c2 hx] at h;obtain⟨v,hv,h⟩:=h;rw[XM d2 hy] at h;obtain⟨u,hu,h⟩:=h;rw[XM d2 hy]
   refine⟨u,(Qen (ey v)).1 hu,?_⟩
   rw[XM c2 hx]
   exact⟨v,(Qen (ex u)).2 hv,by rw[← cm];exact h⟩
  ·have d3:cls y.i=3:=by omega
   rw[XM c2 hx] at h;obtain⟨v,hv,h⟩:=h;rw[Xb d3 hy] at h;obtain⟨r,hr,h⟩:=h;rw[Xb d3 hy]
   refine⟨r,(VQ (ey v)).1 hr,?_⟩
   cases r with
   | inl u =>
    show WS cl x (put e y.d u) o K;rw[XM c2 hx]
    exact⟨v,(Qen (ex u)).2 hv,by rw[← cm];exact h⟩
   | inr p =>
    obtain⟨f,ob⟩:=p;intro id hid;rw[XM c2 hx]
    exact⟨v,Qk3 (Sub.upd hid) ((Qen (ex _)).2 hv),by rw[← cm];exact h id hid⟩
 ·have c3:cls x.i=3:=by omega
  have d3:cls y.i=3:=by omega
  rw[Xb c3 hx] at h;obtain⟨r,hr,h⟩:=h;rw[Xb d3 hy];cases r with
  | inl v =>
   have h:WS cl y (put e x.d v) o K:=h;rw[Xb d3 hy] at h;obtain⟨q,hq,h⟩:=h
   refine⟨q,(VQ (ey v)).1 hq,?_⟩
   cases q with
   | inl u =>
    show WS cl x (put e y.d u) o K;rw[Xb c3 hx]
    exact⟨.inl v,(VQ (ex u)).2 hr,by show K _ o;rw[← cm];exact h⟩
   | inr p =>
    obtain⟨f,ob⟩:=p;intro id hid;rw[Xb c3 hx]
    exact⟨.inl v,(VQ (ex _)).2 hr,by show K _ _;rw[← cm];exact h id hid⟩
  | inr p =>
   obtain⟨f,ob⟩:=p;have h:∀ id,o id=none→WS cl y (put e x.d (f id)) (upd o id (some ob)) K:=h;have h':∀ id,o id=none→∃ q,A3 e y q∧mkK (upd o id (some ob)) (fun v o'=>K (put (put e x.d (f id)) y.d v) o') q:=by
    intro id hid;obtain⟨q,hq,hk⟩:=(Xb d3 hy).1 (h id hid)
    exact⟨q,(VQ (ey _)).1 hq,hk⟩
   have hfun:∀ q q',A3 e y q→A3 e y q'→q=q':=by
    intro q q' h1 h2;unfold A3 at h1 h2;have mk:∀ q q',mkP e y.i q→mkP e y.i q'→q=q':=by
     intro q q' h1 h2;exact Qhd h1 h2
    cases hg:y.g with
    | none=>simp only[hg] at h1 h2;exact mk _ _ h1 h2
    | some z =>
     obtain⟨t,pp⟩:=z;simp only[hg] at h1 h2;cases he:gdV pp (e t)<;>simp only[he] at h1 h2<;>try exact h1.elim
     split at h1
     ·rw[if_pos ‹_›] at h2;exact mk _ _ h1 h2
     ·rw[if_neg ‹_›] at h2;rw[h1,h2]
   ·obtain⟨id0,hid0⟩:=hfree;obtain⟨q,hq,_⟩:=h' id0 hid0;have h'':∀ id,o id=none→mkK (upd o id (some ob)) (fun v o'=>K (put (put e x.d (f id)) y.d v) o') q:=by
     intro id hid;obtain⟨q',hq',hk⟩:=h' id hid;rw[hfun q q' hq hq'];exact hk
    refine⟨q,hq,?_⟩
    cases q with
    | inl u =>
     show WS cl x (put e y.d u) o K;rw[Xb c3 hx]
     refine⟨.inr (f,ob),(VQ (ex u)).2 hr,?_⟩
     intro id hid
     have:=h'' id hid
     show K _ _;rw[← cm];exact this
    | inr p2 =>
     obtain⟨f2,ob2⟩:=p2;intro id2 hid2;show WS cl x (put e y.d (f2 id2)) (upd o id2 (some ob2)) K;rw[Xb c3 hx]
     refine⟨.inr (f,ob),(VQ (ex _)).2 hr,?_⟩
     intro id hid;have hne:id≠id2:=by intro hh;subst hh;simp [upd] at hid
     have hid':o id=none:=by simpa [upd,hne] using hid
     have:=h'' id hid' id2 (by simp [upd,Ne.symm hne,hid2])
     show K _ _;rw[← cm];rw[Qep o hne];exact this
def Fin (o:O):Prop:=∃ n,∀ id,n≤id→o id=none
def Fin.free (h:Fin o):∃ id,o id=none:=by obtain⟨n,h⟩:=h;exact⟨n,h n (Nat.le_refl _)⟩
theorem Fin.upd {o:O} (h:Fin o) (id:Nat) (ob:Ob):Fin (upd o id (some ob)):=by
 obtain⟨n,h⟩:=h
 refine⟨max n (id+1),fun j hj=>?_⟩
 simp only[Go.Proofs.YtklbhcjmaeedhaaGreatDoor.upd];rw[if_neg OM];exact h j OM
def Qlz {s:Stp} {K:E→O→Prop} (hc:cls s.i≤3) (hst:s.st=[]) (hf:Fin o) (h:WS cl s e o K):WS cl s e o (fun e o=>Fin o∧K e o):=by
 by_cases h2:cls s.i≤2
 ·rw[XM h2 hst] at h ⊢;obtain⟨v,hv,h⟩:=h
  exact⟨v,hv,hf,h⟩
 ·have h3:cls s.i=3:=by omega
  rw[Xb h3 hst] at h ⊢;obtain⟨r,hr,h⟩:=h
  refine⟨r,hr,?_⟩
  cases r with
  | inl v=>exact⟨hf,h⟩
  | inr p=>exact fun id hid=>⟨hf.upd _ _,h id hid⟩
def move (hcl:Le cl cl) {y:Stp} {m2:List Stp} {K:E→O→Prop} (hy:y.st=[]) :
  ∀ (m1:List Stp) (e:E) (o:O),(∀ x∈m1,ZF x y=true∧x.st=[])→Fin o→wpR cl (m1++y::m2) K e o→WS cl y e o (wpR cl (m1++m2) K):=by
 intro m1;induction m1 with
 | nil=>exact fun e o _ _ h=>h
 | cons x m1 ih =>
  intro e o hs hf h;obtain⟨hx,hxs⟩:=hs x SM;have hc:cls x.i≤3:=by
   simp only[ZF,Bool.and_eq_true,Bool.or_eq_true,decide_eq_true_eq] at hx;omega
  have h:WS cl x e o (wpR cl (m1++y::m2) K):=h;have h1:=Qlz hc hxs hf h;have h2:WS cl x e o (fun e o=>WS cl y e o (wpR cl (m1++m2) K)) :=
   QjD hcl (fun e o hh=>ih e o (fun z hz=>hs z (by simp [hz])) hh.1 hh.2) h1
  exact swap hx hf.free hxs hy h2
def Stp.bare (s:Stp):Stp:={ s with st:=[] }
variable {s:Stp} {m2:List Stp}
def WSv (cl:Qg) (s:Stp) (e:E) (o:O) (K:V→O→Prop):Prop :=
 match s.g with
 | none=>W cl e o K s.i
 | some (t,p)=>match gdV p (e t) with
  | .bo q=>if q=p then W cl e o K s.i else K (.tp []) o
  | _=>False
def QlM (h:∀ t∈s.uses,e t=e' t):WSv cl s e o K↔WSv cl s e' o K:=by
 have hi:=W_eq (cl:=cl) (o:=o) (K:=K) (fun t ht=>h t (ZD s t ht));unfold WSv;cases hg:s.g with
 | none=>simp only[hi]
 | some x =>
  obtain⟨t,p⟩:=x;simp only;rw[← h t (by simp [Stp.uses,hg])];split
  ·split
   ·rw[hi]
   ·exact Iff.rfl
  ·exact Iff.rfl
def QfX (hcl:Le cl cl) (hk:∀ v o,K v o→K' v o) (h:WSv cl s e o K):WSv cl s e o K':=by
 unfold WSv at h ⊢;split at h
 ·exact W_le hcl hk h
 ·split at h
  ·split at h
   ·rw[if_pos ‹_›];exact W_le hcl hk h
   ·rw[if_neg ‹_›];exact hk _ _ h
  ·exact h
def Qdf {l:List I} (h:stb e o e' o' l):∀ j∈l,rv e' o' j=rv e o j:=by
 induction l with
 | nil=>intro j hj;cases hj
 | cons x l ih =>
  intro j hj;cases List.mem_cons.1 hj with
  | inl hh=>rw[hh];exact h.1
  | inr hh=>exact ih h.2 j hh
structure Rd (x:Stp) (bet:List Stp) (y:Stp):Prop where
 c:cls x.i≤1
 ap:WC x y=true
 st:x.st=[]
 mem:cls x.i=1→x.i∈y.st
 self:∀ t∈x.uses,x.d≠some t
 bet:∀ z∈bet,∀ t∈x.uses,z.d≠some t
def Rds (y:Stp):List Stp→Prop
 | []=>True
 | x::l=>Rd x l y∧Rds y l
def QmV (hcl:Le cl cl) {y:Stp} {K:E→O→Prop} :
  ∀ (m1:List Stp) (e:E) (o:O),Rds y m1→wpR cl (m1++y::m2) K e o →
   WSv cl y e o (fun v o'=>(∀ j∈y.st,(∀ t∈WA j,y.d≠some t∧∀ x∈m1,x.d≠some t)→rv (put e y.d v) o' j=rv e o j)∧wpR cl (m1++m2) K (put e y.d v) o'):=by
 intro m1;induction m1 with
 | nil =>
  intro e o _ h;have h:WS cl y e o (wpR cl m2 K):=h;unfold WS at h;unfold WSv;cases hg:y.g with
  | none=>rw[hg] at h;exact W_le hcl (fun v o' hh=>⟨fun j hj _=>Qdf hh.1 j hj,hh.2⟩) h
  | some z =>
   obtain⟨t,p⟩:=z;rw[hg] at h;simp only at h ⊢;cases he:gdV p (e t)<;>rw[he] at h<;>try exact h.elim
   simp only at h ⊢;split
   ·rw[if_pos ‹_›] at h;exact W_le hcl (fun v o' hh=>⟨fun j hj _=>Qdf hh.1 j hj,hh.2⟩) h
   ·rw[if_neg ‹_›] at h
    exact⟨fun j _ hu=>Vt (fun t ht=>Q3 (hu t ht).1),h⟩
 | cons x m1 ih =>
  intro e o hr h;obtain⟨hx,hr⟩:=hr;have h:WS cl x e o (wpR cl (m1++y::m2) K):=h;have c2:cls x.i≤2:=Nat.le_succ_of_le hx.c;rw[XM c2 hx.st] at h;obtain⟨vx,hv,h⟩:=h;obtain⟨ay,ax,ad⟩:=XX hx.ap;have h1:=ih (put e x.d vx) o hr h;have h2:=(QlM (fun t ht=>Q3 (ay t ht))).1 h1;refine QfX hcl ?_ h2;rintro v o' ⟨hs,hw⟩;have ep:put (put e x.d vx) y.d v=put (put e y.d v) x.d vx:=Dp e vx v ad;rw[ep] at hw
  refine⟨fun j hj hu=>?_,?_⟩
  ·have e1:=hs j hj (fun t ht=>⟨(hu t ht).1,fun z hz=>(hu t ht).2 z (by simp [hz])⟩);rw[ep] at e1;rw[Vt (e:=put (put e y.d v) x.d vx) (e':=put e y.d v) (fun t ht=>Q3 ((hu t ht).2 x SM))] at e1;rw[Vt (e:=put e x.d vx) (e':=e) (fun t ht=>Q3 ((hu t ht).2 x SM))] at e1;exact e1
  ·show WS cl x (put e y.d v) o' (wpR cl (m1++m2) K);rw[XM c2 hx.st]
   refine⟨vx,?_,hw⟩
   have hrv:rvP cl e o x.i vx→rvP cl (put e y.d v) o' x.i vx:=by
    intro hp;by_cases h0:cls x.i=0
    ·have hq:∃ q,x.i=.q q:=by
      cases hi:x.i<;>simp only[hi,cls] at h0<;>(first|exact⟨_,rfl⟩|omega)
     obtain⟨q,hq⟩:=hq;rw[hq] at hp ⊢;simp only[rvP,rv] at hp ⊢;rw[QkG (e:=put e y.d v) (e':=e)]
     ·exact hp
     ·intro t ht;exact Q3 (ax t (ZD x t (by rw[hq];exact ht)))
    ·have h1:cls x.i=1:=by have:=hx.c;omega
     have hp':rv e o x.i=some vx:=by
      cases hi:x.i<;>simp only[hi,cls] at h1<;>(first|(rw[hi] at hp;exact hp)|omega)
     have e1:=hs x.i (hx.mem h1) (fun t ht=>⟨ax t (ZD x t ht),fun z hz=>hx.bet z hz t (ZD x t ht)⟩);rw[ep] at e1;rw[Vt (e:=put (put e y.d v) x.d vx) (e':=put e y.d v) (fun t ht=>Q3 (hx.self t (ZD x t ht)))] at e1;rw[Vt (e:=put e x.d vx) (e':=e) (fun t ht=>Q3 (hx.self t (ZD x t ht)))] at e1;rw[hp'] at e1;cases hi:x.i<;>simp only[hi,cls] at h1<;>(first|(rw[hi] at e1;exact e1)|omega)
   unfold A2 at hv ⊢;cases hg:x.g with
   | none=>rw[hg] at hv;exact hrv hv
   | some z =>
    obtain⟨t,p⟩:=z;rw[hg] at hv;simp only at hv ⊢;rw[Q3 (ax t (by simp [Stp.uses,hg]))];cases he:gdV p (e t)<;>rw[he] at hv<;>try exact hv.elim
    simp only at hv ⊢;split
    ·rw[if_pos ‹_›] at hv;exact hrv hv
    ·rw[if_neg ‹_›] at hv;exact hv
structure Cx where
 heap:Array Obj
 ph:Nat→Option (Nat × Nat)
 im:Nat→Prop
 n:Nat
def Qo (h:Array Obj) (b off:Nat):Option Value :=
 match h[b]? with
 | some (.cells arr _ _)=>arr[off]?
 | _=>none
inductive Idf:V→Prop where
 | jk:Idf .jk
 | bo (p:Bool):Idf (.bo p)
 | i (k:IntKind) (n:Int):Idf (.i k n)
 | s (y:ByteArray):Idf (.s y)
 | ag (cs:List V) (h:∀ (j:Nat) v,cs[j]?=some v→Idf v):Idf (.ag cs)
 | tp (cs:List V) (h:∀ (j:Nat) v,cs[j]?=some v→Idf v):Idf (.tp cs)
 | nil:Idf .nil
 | sl (es:List (List V)) (h:∀ (j k:Nat) e v,es[j]?=some e→e[k]?=some v→Idf v):Idf (.sl es)
 | ip (cs:List V) (j:Nat) (h:∀ (k:Nat) v,cs[k]?=some v→Idf v):Idf (.ip cs j)
 | np:Idf .np
 | fn (g:Nat) (cs:List V) (h:∀ (j:Nat) v,cs[j]?=some v→Idf v):Idf (.fn g cs)
 | nf:Idf .nf
 | nm:Idf .nm
inductive Rep (c:Cx):V→Value→Prop where
 | jk (v:Value):Rep c .jk v
 | bo (p:Bool):Rep c (.bo p) (.bool p)
 | i (k:IntKind) (n:Int):Rep c (.i k n) (.int k n)
 | s (y:ByteArray):Rep c (.s y) (.string y)
 | ag (cs:List V) (xs:Array Value) (hl:xs.size=cs.length) (h1:∀ (j:Nat) x,xs[j]?=some x→oneC x=true)
   (h:∀ (j:Nat) v x,cs[j]?=some v→xs[j]?=some x→Rep c v x):Rep c (.ag cs) (.agg xs)
 | tp (cs:List V) (xs:Array Value) (hl:xs.size=cs.length)
   (h:∀ (j:Nat) v x,cs[j]?=some v→xs[j]?=some x→Rep c v x):Rep c (.tp cs) (.tuple xs)
 | nil (a:Option Addr):Rep c .nil (.slice a 0 0)
 | sl0 (a:Option Addr) (n:Nat):Rep c (.sl []) (.slice a 0 n)
 | sl (es:List (List V)) (b off sz n:Nat) (hne:es≠[]) (hsz:0 < sz) (hn:es.length≤n) (hb:c.im b) (hl:∀ e∈es,e.length=sz)
   (hd:∀ (j k:Nat) e v,es[j]?=some e→e[k]?=some v→Idf v)
   (hx:∀ (j k:Nat) e v,es[j]?=some e→e[k]?=some v→∃ x,Qo c.heap b (off+j*sz+k)=some x∧oneC x=true)
   (h:∀ (j k:Nat) e v x,es[j]?=some e→e[k]?=some v→Qo c.heap b (off+j*sz+k)=some x→Rep c v x) :
   Rep c (.sl es) (.slice (some ⟨b,off,none⟩) es.length n)
 | rw0 (id sz off:Nat) (a:Option Addr) (hn:id < c.n):Rep c (.rw id sz off 0) (.slice a 0 0)
 | rw (id sz off len b cap:Nat) (hp:c.ph id=some (b,sz)) (hn:id < c.n) (hc:len≤cap)
   (hf:∃ arr t,c.heap[b]?=some (.cells arr t (0,0))∧(off+cap)*sz≤arr.size):Rep c (.rw id sz off len) (.slice (some ⟨b,off*sz,none⟩) len cap)
 | rwd (id sz off len cap:Nat) (a:Option Addr) (hp:c.ph id=none) (hn:id < c.n) (hc:len≤cap) (ha:len≠0→∃ ad:Addr,a=some ad∧ad.spot=none):Rep c (.rw id sz off len) (.slice a len cap)
 | ra0 (id i j:Nat) (a:Option Addr) (hn:id < c.n):Rep c (.ra id i j 0) (.slice a 0 0)
 | ra (id i j len b sz cap:Nat) (hp:c.ph id=some (b,sz)) (hn:id < c.n) (hc:len≤cap):Rep c (.ra id i j len) (.slice (some ⟨b,i*sz+j,none⟩) len cap)
 | rad (id i j len cap:Nat) (a:Option Addr) (hp:c.ph id=none) (hn:id < c.n) (hc:len≤cap) (ha:len≠0→∃ ad:Addr,a=some ad∧ad.spot=none):Rep c (.ra id i j len) (.slice a len cap)
 | pt (id i j b sz:Nat) (hp:c.ph id=some (b,sz)) (hn:id < c.n):Rep c (.pt id i j) (.pointer (some ⟨b,i*sz+j,none⟩))
 | ptd (id i j:Nat) (ad:Addr) (hp:c.ph id=none) (hn:id < c.n) (ha:ad.spot=none):Rep c (.pt id i j) (.pointer (some ad))
 | ip (cs:List V) (j b off:Nat) (hb:c.im b) (hd:∀ (k:Nat) v,cs[k]?=some v→Idf v)
   (hx:∀ (k:Nat) v,cs[k]?=some v→∃ x,Qo c.heap b (off+k)=some x∧oneC x=true)
   (h:∀ (k:Nat) v x,cs[k]?=some v→Qo c.heap b (off+k)=some x→Rep c v x):Rep c (.ip cs j) (.pointer (some ⟨b,off+j,none⟩))
 | np:Rep c .np (.pointer none)
 | fn (g:Nat) (cs:List V) (xs:Array Value) (hl:xs.size=cs.length)
   (h:∀ (j:Nat) v x,cs[j]?=some v→xs[j]?=some x→Rep c v x):Rep c (.fn g cs) (.func (.func g) #[] xs)
 | nf:Rep c .nf .nilFunc
 | mp (id b:Nat) (hp:c.ph id=some (b,0)) (hn:id < c.n):Rep c (.mp id) (.map (some b))
 | mpd (id b:Nat) (hp:c.ph id=none) (hn:id < c.n):Rep c (.mp id) (.map (some b))
 | nm:Rep c .nm (.map none)
 | it (id b:Nat) (hp:c.ph id=some (b,0)) (hn:id < c.n):Rep c (.it id) (.pointer (some ⟨b,0,none⟩))
 | itd (id:Nat) (ad:Addr) (hp:c.ph id=none) (hn:id < c.n):Rep c (.it id) (.pointer (some ad))
structure Reps (c:Cx) (cs:List V) (xs:List Value):Prop where
 len:xs.length=cs.length
 rep:∀ (j:Nat) v x,cs[j]?=some v→xs[j]?=some x→Rep c v x
def RepO (c:Cx) (b sz:Nat):Ob→Prop
 | .row s es=>s=sz∧0 < sz∧(∀ e∈es,e.length=sz)∧∃ arr t,c.heap[b]?=some (.cells arr t (0,0))∧es.length*sz≤arr.size ∧
   ∀ (j k:Nat) e v,es[j]?=some e→e[k]?=some v→∃ x,arr[j*sz+k]?=some x∧oneC x=true∧Rep c v x
 | .map ents clock=>sz=0∧∃ es,c.heap[b]?=some (.map es clock)∧es.size=ents.length ∧
   (∀ (j:Nat) en,ents[j]?=some en→∃ x:MapEntry,es[j]?=some x∧x.born=en.1∧Rep c en.2.1 x.key∧Rep c en.2.2 x.val) ∧
   (ents.map (·.1)).Pairwise (· < ·)∧∀ en∈ents,en.1 < clock
 | .iter mp since seen stepped=>sz=0∧∃ mpb,c.heap[b]?=some (.mapIter mpb since seen.toArray stepped) ∧
   match mp with
   | none=>mpb=none
   | some mid=>mid < c.n∧∃ b',mpb=some b'∧(c.ph mid=some (b',0)∨c.ph mid=none)
def GlAt (h:Array Obj) (im:Nat→Prop):Prop:=∀ q∈GL,im q.1∧∀ (k:Nat) v,q.2[k]?=some v→∃ kd n,v=.i kd n∧Qo h q.1 k=some (.int kd n)
def GlAt.rep {c:Cx} (h:GlAt c.heap c.im) (g:Nat):Rep c (glV g) (.pointer (some ⟨g,0,none⟩)):=by
 unfold glV;split
 ·rename_i q hq;obtain⟨h1,h2⟩:=h q (List.mem_of_find?_eq_some hq);have hg:q.1=g:=by have:=List.find?_some hq;simpa using this
  subst hg;refine .ip q.2 0 q.1 0 h1 (fun k v hv=>?_) (fun k v hv=>?_) (fun k v x hv hx=>?_)
  ·obtain⟨kd,n,rfl,_⟩:=h2 k v hv;exact .i _ _
  ·obtain⟨kd,n,rfl,e⟩:=h2 k v hv
   exact⟨_,by rw[Nat.zero_add];exact e,rfl⟩
  ·obtain⟨kd,n,rfl,e⟩:=h2 k v hv;rw[Nat.zero_add,e] at hx;cases hx;exact .i _ _
 ·exact .jk _
structure Inv (c:Cx) (o:O):Prop where
 dom:∀ id,o id=none→c.ph id=none
 ob:∀ id x,o id=some x→∃ b sz,c.ph id=some (b,sz)∧RepO c b sz x
 lt:∀ id b sz,c.ph id=some (b,sz)→id < c.n∧b < c.heap.size∧¬ c.im b
 inj:∀ id id' b sz sz',c.ph id=some (b,sz)→c.ph id'=some (b,sz')→id=id'
 im:∀ b,c.im b→b < c.heap.size
 gl:GlAt c.heap c.im
structure Ext (c c':Cx):Prop where
 size:c.heap.size≤c'.heap.size
 keep:∀ b:Nat,b < c.heap.size→(∀ id sz,c.ph id≠some (b,sz))→c'.heap[b]?=c.heap[b]?
 shape:∀ (b:Nat) (arr:Array Value) (t:TypeId) (fz:Nat × Nat),c.heap[b]?=some (Obj.cells arr t fz)→∃ arr',c'.heap[b]?=some (Obj.cells arr' t fz)∧arr'.size=arr.size
 im:∀ b,c.im b→c'.im b
 imn:∀ b,b < c.heap.size→c'.im b→c.im b∨∃ id sz,c.ph id=some (b,sz)
 ph:∀ id x,c.ph id=some x→c'.ph id=some x∨c'.ph id=none
 phn:∀ id b sz,c'.ph id=some (b,sz)→c.ph id=some (b,sz)∨(c.n≤id∧((∃ id' sz',c.ph id'=some (b,sz'))∨c.heap.size≤b))
 n:c.n≤c'.n
def Ext.refl (c:Cx):Ext c c :=
 ⟨Nat.le_refl _,fun _ _ _=>rfl,fun _ arr _ _ h=>⟨arr,h,rfl⟩,fun _ h=>h,fun _ _ h=>.inl h,fun _ _ h=>.inl h,fun _ _ _ h=>.inl h,Nat.le_refl _⟩
theorem Ext.trans {c c1 c2:Cx} (hl:∀ id x,c.ph id=some x→id < c.n) (h1:Ext c c1) (h2:Ext c1 c2):Ext c c2 where
 size:=Nat.le_trans h1.size h2.size
 keep b hb ho:=by
  rw[h2.keep b (Nat.lt_of_lt_of_le hb h1.size),h1.keep b hb ho];intro id sz hp;rcases h1.phn id b sz hp with h|⟨_,⟨id',sz',h⟩|h⟩
  ·exact ho _ _ h
  ·exact ho _ _ h
  ·omega
 shape b arr t fz h:=by
  obtain⟨arr1,e1,s1⟩:=h1.shape b arr t fz h;obtain⟨arr2,e2,s2⟩:=h2.shape b arr1 t fz e1
  exact⟨arr2,e2,s2.trans s1⟩
 im b h:=h2.im b (h1.im b h)
 imn b hb h:=by
  rcases h2.imn b (Nat.lt_of_lt_of_le hb h1.size) h with h|⟨id,sz,h⟩
  ·exact h1.imn b hb h
  ·rcases h1.phn id b sz h with h|⟨_,h|h⟩
   ·exact .inr ⟨_,_,h⟩
   ·exact .inr h
   ·omega
 ph id x h:=by
  rcases h1.ph id x h with h'|h'
  ·exact h2.ph id x h'
  ·cases hp:c2.ph id with
   | none=>exact .inr rfl
   | some y =>
    obtain⟨b,sz⟩:=y;rcases h2.phn id b sz hp with h''|⟨hn,_⟩
    ·rw[h'] at h'';cases h''
    ·have:=hl id x h;have:=h1.n;omega
 phn id b sz h:=by
  rcases h2.phn id b sz h with h|⟨hn,h|h⟩
  ·exact h1.phn id b sz h
  ·obtain⟨id',sz',h⟩:=h;rcases h1.phn id' b sz' h with h|⟨_,h⟩
   ·exact .inr ⟨Nat.le_trans h1.n hn,.inl ⟨_,_,h⟩⟩
   ·exact .inr ⟨Nat.le_trans h1.n hn,h⟩
  ·exact .inr ⟨Nat.le_trans h1.n hn,.inr (Nat.le_trans h1.size h)⟩
 n:=Nat.le_trans h1.n h2.n
def Jw {c c':Cx} (h:Ext c c') {off:Nat} (hb:b < c.heap.size) (ho:∀ id sz,c.ph id≠some (b,sz)):Qo c'.heap b off=Qo c.heap b off:=by
 unfold Qo;rw[h.keep b hb ho]
structure Sep (c:Cx):Prop where
 lt:∀ id x,c.ph id=some x→id < c.n
 im:∀ b,c.im b→b < c.heap.size
 no:∀ b,c.im b→∀ id sz,c.ph id≠some (b,sz)
def GlAt.ext {c c':Cx} (h:GlAt c.heap c.im) (hE:Ext c c') (hs:Sep c):GlAt c'.heap c'.im:=fun q hq =>
 ⟨hE.im _ (h q hq).1,fun k v hv=>by
  obtain⟨kd,n,e1,e2⟩:=(h q hq).2 k v hv
  exact⟨kd,n,e1,by rw[Jw hE (hs.im _ (h q hq).1) (hs.no _ (h q hq).1)];exact e2⟩⟩
def Inv.sep {c:Cx} (h:Inv c o):Sep c :=
 ⟨fun id x hx=>(h.lt id x.1 x.2 hx).1,h.im,fun b hb id sz hp=>(h.lt id b sz hp).2.2 hb⟩
def J7 {c c':Cx} (h:Ext c c') {id:Nat} (hn:id < c.n) (hp:c.ph id=none):c'.ph id=none:=by
 cases hq:c'.ph id with
 | none=>rfl
 | some y =>
  obtain⟨b,sz⟩:=y;rcases h.phn id b sz hq with h'|⟨h',_⟩
  ·rw[hp] at h';cases h'
  ·omega
def Rep.ext {c c':Cx} (h:Ext c c') (hs:Sep c) {v:V} (hr:Rep c v x):Rep c' v x:=by
 induction hr with
 | jk v=>exact .jk v
 | bo p=>exact .bo p
 | i k n=>exact .i k n
 | s y=>exact .s y
 | ag cs xs hl h1 _ ih=>exact .ag cs xs hl h1 ih
 | tp cs xs hl _ ih=>exact .tp cs xs hl ih
 | nil a=>exact .nil a
 | sl0 a n=>exact .sl0 a n
 | sl es b off sz n hne hsz hn hb hl hd hx _ ih =>
  have hc:=fun off=>Jw (off:=off) h (hs.im b hb) (hs.no b hb);refine .sl es b off sz n hne hsz hn (h.im b hb) hl hd (fun j k e v h1 h2=>?_) (fun j k e v x h1 h2 h3=>?_)
  ·rw[hc];exact hx j k e v h1 h2
  ·rw[hc] at h3;exact ih j k e v x h1 h2 h3
 | rw0 id sz off a hn=>exact .rw0 id sz off a (Nat.lt_of_lt_of_le hn h.n)
 | rw id sz off len b cap hp hn hc hf =>
  rcases h.ph _ _ hp with h'|h'
  ·obtain⟨arr,t,ha,hz⟩:=hf;obtain⟨arr',ha',hz'⟩:=h.shape _ _ _ _ ha;exact .rw id sz off len b cap h' (Nat.lt_of_lt_of_le hn h.n) hc ⟨arr',t,ha',by rw[hz'];exact hz⟩
  ·exact .rwd _ _ _ _ _ _ h' (Nat.lt_of_lt_of_le hn h.n) hc (fun _=>⟨_,rfl,rfl⟩)
 | rwd id sz off len cap a hp hn hc ha=>exact .rwd _ _ _ _ _ _ (J7 h hn hp) (Nat.lt_of_lt_of_le hn h.n) hc ha
 | ra0 id i j a hn=>exact .ra0 id i j a (Nat.lt_of_lt_of_le hn h.n)
 | ra id i j len b sz cap hp hn hc =>
  rcases h.ph _ _ hp with h'|h'
  ·exact .ra id i j len b sz cap h' (Nat.lt_of_lt_of_le hn h.n) hc
  ·exact .rad _ _ _ _ _ _ h' (Nat.lt_of_lt_of_le hn h.n) hc (fun _=>⟨_,rfl,rfl⟩)
 | rad id i j len cap a hp hn hc ha=>exact .rad _ _ _ _ _ _ (J7 h hn hp) (Nat.lt_of_lt_of_le hn h.n) hc ha
 | pt id i j b sz hp hn =>
  rcases h.ph _ _ hp with h'|h'
  ·exact .pt id i j b sz h' (Nat.lt_of_lt_of_le hn h.n)
  ·exact .ptd _ _ _ _ h' (Nat.lt_of_lt_of_le hn h.n) rfl
 | ptd id i j ad hp hn ha=>exact .ptd _ _ _ _ (J7 h hn hp) (Nat.lt_of_lt_of_le hn h.n) ha
 | ip cs j b off hb hd hx _ ih =>
  have hc:=fun off=>Jw (off:=off) h (hs.im b hb) (hs.no b hb);refine .ip cs j b off (h.im b hb) hd (fun k v h1=>?_) (fun k v x h1 h3=>?_)
  ·rw[hc];exact hx k v h1
  ·rw[hc] at h3;exact ih k v x h1 h3
 | np=>exact .np
 | fn g cs xs hl _ ih=>exact .fn g cs xs hl ih
 | nf=>exact .nf
 | mp id b hp hn =>
  rcases h.ph _ _ hp with h'|h'
  ·exact .mp id b h' (Nat.lt_of_lt_of_le hn h.n)
  ·exact .mpd _ _ h' (Nat.lt_of_lt_of_le hn h.n)
 | mpd id b hp hn=>exact .mpd _ _ (J7 h hn hp) (Nat.lt_of_lt_of_le hn h.n)
 | nm=>exact .nm
 | it id b hp hn =>
  rcases h.ph _ _ hp with h'|h'
  ·exact .it id b h' (Nat.lt_of_lt_of_le hn h.n)
  ·exact .itd _ _ h' (Nat.lt_of_lt_of_le hn h.n)
 | itd id ad hp hn=>exact .itd _ _ (J7 h hn hp) (Nat.lt_of_lt_of_le hn h.n)
theorem Reps.ext {c c':Cx} (h:Ext c c') (hs:Sep c) {cs:List V} {xs:List Value} (hr:Reps c cs xs):Reps c' cs xs :=
 ⟨hr.len,fun j v x h1 h2=>(hr.rep j v x h1 h2).ext h hs⟩
theorem RepO.ext {c c':Cx} (h:Ext c c') (hs:Sep c) {b sz:Nat} {x:Ob} (hb:c'.heap[b]?=c.heap[b]?) (hr:RepO c b sz x):RepO c' b sz x:=by
 cases x with
 | row s es =>
  obtain⟨h1,h2,h3,arr,t,h4,h5,h6⟩:=hr
  refine⟨h1,h2,h3,arr,t,by rw[hb];exact h4,h5,fun j k e v he hv=>?_⟩
  obtain⟨y,hy,hy1,hy2⟩:=h6 j k e v he hv
  exact⟨y,hy,hy1,hy2.ext h hs⟩
 | map ents clock =>
  obtain⟨h1,es,h2,h3,h4,h5,h6⟩:=hr
  refine⟨h1,es,by rw[hb];exact h2,h3,fun j en hj=>?_,h5,h6⟩
  obtain⟨y,hy,hy1,hy2,hy3⟩:=h4 j en hj
  exact⟨y,hy,hy1,hy2.ext h hs,hy3.ext h hs⟩
 | iter mp since seen stepped =>
  obtain⟨h1,mpb,h2,h3⟩:=hr
  refine⟨h1,mpb,by rw[hb];exact h2,?_⟩
  cases mp with
  | none=>exact h3
  | some mid =>
   obtain⟨hn,b',hb',hp⟩:=h3
   refine⟨Nat.lt_of_lt_of_le hn h.n,b',hb',?_⟩
   rcases hp with hp|hp
   ·exact h.ph _ _ hp
   ·exact .inr (J7 h hn hp)
def Cx.alloc (c:Cx) (ob:Obj) (sz:Nat):Cx :=
 { heap:=c.heap.push ob,ph:=upd c.ph c.n (some (c.heap.size,sz)),im:=c.im,n:=c.n+1 }
def Inv.free {c:Cx} (h:Inv c o):o c.n=none:=by
 cases ho:o c.n with
 | none=>rfl
 | some x =>
  obtain⟨b,sz,hp,_⟩:=h.ob _ _ ho;exact absurd (h.lt _ _ _ hp).1 (Nat.lt_irrefl _)
def Inv.phn {c:Cx} (h:Inv c o):∀ id,c.n≤id→c.ph id=none:=by
 intro id hn;cases hp:c.ph id with
 | none=>rfl
 | some x=>exact absurd (h.lt id x.1 x.2 hp).1 OM
def Inv.fin {c:Cx} (h:Inv c o):Fin o:=by
 refine⟨c.n,fun id hn=>?_⟩
 cases ho:o id with
 | none=>rfl
 | some x =>
  obtain⟨b,sz,hp,_⟩:=h.ob _ _ ho;rw[h.phn id hn] at hp;cases hp
def QT {c:Cx} (h:Inv c o) (ob:Obj) (sz:Nat):Ext c (c.alloc ob sz) where
 size:=by simp [Cx.alloc]
 keep b hb _:=by simp only[Cx.alloc];rw[Array.getElem?_push_lt hb,Array.getElem?_eq_getElem hb]
 shape b arr t fz hb:=by
  have hlt:b < c.heap.size:=by
   rcases Nat.lt_or_ge b c.heap.size with h|h
   ·exact h
   ·rw[Array.getElem?_eq_none h] at hb;cases hb
  refine⟨arr,?_,rfl⟩
  simp only[Cx.alloc];rw[Array.getElem?_push_lt hlt,← Array.getElem?_eq_getElem hlt];exact hb
 im _ hb:=hb
 imn _ _ hb:=.inl hb
 ph id x hp:=by
  left
  have:id≠c.n:=fun hh=>by have:=(h.lt id x.1 x.2 hp).1;omega
  simp only[Cx.alloc,upd,if_neg this];exact hp
 phn id b sz' hp:=by
  simp only[Cx.alloc,upd] at hp;split at hp
  ·cases hp;exact .inr ⟨OM,.inr (Nat.le_refl _)⟩
  ·exact .inl hp
 n:=by simp [Cx.alloc]
def getElem?_push_self {α:Type} (a:Array α) (x:α):(a.push x)[a.size]?=some x:=by simp
def Qcz {c:Cx} (h:Inv c o) {x:Ob} (hx:RepO (c.alloc ob sz) c.heap.size sz x):Inv (c.alloc ob sz) (upd o c.n (some x)) where
 dom id ho:=by
  simp only[upd] at ho;split at ho
  ·cases ho
  ·rename_i hne;simp only[Cx.alloc,upd,if_neg hne];exact h.dom id ho
 ob id y ho:=by
  simp only[upd] at ho;split at ho
  ·rename_i he;cases ho
   exact⟨c.heap.size,sz,by simp only[Cx.alloc,upd,if_pos he],hx⟩
  ·rename_i hne;obtain⟨b,sz',hp,hr⟩:=h.ob id y ho
   refine⟨b,sz',by simp only[Cx.alloc,upd,if_neg hne];exact hp,hr.ext (QT h ob sz) h.sep ?_⟩
   have hlt:=(h.lt id b sz' hp).2.1;simp only[Cx.alloc];rw[Array.getElem?_push_lt hlt,Array.getElem?_eq_getElem hlt]
 lt id b sz' hp:=by
  simp only[Cx.alloc,upd] at hp ⊢;split at hp
  ·cases hp
   refine⟨OM,SM,fun hi=>?_⟩
   have:=h.im _ hi;omega
  ·have:=h.lt id b sz' hp
   exact⟨OM,by simp;omega,this.2.2⟩
 inj id id' b sz1 sz2 h1 h2:=by
  simp only[Cx.alloc,upd] at h1 h2;split at h1
  ·split at h2
   ·omega
   ·cases h1;have:=(h.lt _ _ _ h2).2.1;omega
  ·split at h2
   ·cases h2;have:=(h.lt _ _ _ h1).2.1;omega
   ·exact h.inj _ _ _ _ _ h1 h2
 im b hb:=by have:=h.im b hb;simp [Cx.alloc];omega
 gl:=h.gl.ext (QT h ob sz) h.sep
def Cx.set (c:Cx) (b:Nat) (ob:Obj):Cx:={ c with heap:=c.heap.setIfInBounds b ob }
def Zi {c:Cx} (h:Inv c o) {id:Nat} (hp:c.ph id=some (b,sz))
  (hsh:∀ arr t fz,c.heap[b]?=some (Obj.cells arr t fz)→∃ arr',ob=Obj.cells arr' t fz∧arr'.size=arr.size):Ext c (c.set b ob) where
 size:=by simp [Cx.set]
 keep b' _ ho:=by
  simp only[Cx.set];rw[Array.getElem?_setIfInBounds_ne];intro hh;subst hh;exact ho _ _ hp
 shape b' arr t fz hb:=by
  by_cases he:b=b'
  ·subst he;obtain⟨arr',e1,e2⟩:=hsh arr t fz hb;have hlt:=(h.lt _ _ _ hp).2.1
   exact⟨arr',by simp [Cx.set,hlt,e1],e2⟩
  ·exact⟨arr,by simp only[Cx.set];rw[Array.getElem?_setIfInBounds_ne he];exact hb,rfl⟩
 im _ hb:=hb
 imn _ _ hb:=.inl hb
 ph _ _ hq:=.inl hq
 phn _ _ _ hq:=.inl hq
 n:=Nat.le_refl _
def Js {c:Cx} (h:Inv c o) {id:Nat} {x:Ob} (hp:c.ph id=some (b,sz))
  (hsh:∀ arr t fz,c.heap[b]?=some (Obj.cells arr t fz)→∃ arr',ob=Obj.cells arr' t fz∧arr'.size=arr.size)
  (hx:RepO (c.set b ob) b sz x):Inv (c.set b ob) (upd o id (some x)) where
 dom j ho:=by
  simp only[upd] at ho;split at ho
  ·cases ho
  ·exact h.dom j ho
 ob j y ho:=by
  simp only[upd] at ho;split at ho
  ·rename_i he;subst he;cases ho
   exact⟨b,sz,hp,hx⟩
  ·rename_i hne;obtain⟨b',sz',hp',hr⟩:=h.ob j y ho
   refine⟨b',sz',hp',hr.ext (Zi h hp hsh) h.sep ?_⟩
   simp only[Cx.set];rw[Array.getElem?_setIfInBounds_ne];intro hh;subst hh;exact hne (h.inj _ _ _ _ _ hp' hp)
 lt j b' sz' hp':=by have:=h.lt j b' sz' hp';simpa [Cx.set] using this
 inj:=h.inj
 im b' hb:=by have:=h.im b' hb;simpa [Cx.set] using this
 gl:=h.gl.ext (Zi h hp hsh) h.sep
def Cx.move (c:Cx) (id b sz:Nat) (ob:Obj):Cx :=
 { heap:=c.heap.setIfInBounds b ob,ph:=upd (upd c.ph id none) c.n (some (b,sz)),im:=c.im,n:=c.n+1 }
def WR {c:Cx} (h:Inv c o) {id:Nat} (hp:c.ph id=some (b,sz))
  (hsh:∀ arr t fz,c.heap[b]?=some (Obj.cells arr t fz)→∃ arr',ob=Obj.cells arr' t fz∧arr'.size=arr.size):Ext c (c.move id b sz ob) where
 size:=by simp [Cx.move]
 keep:=(Zi h hp hsh).keep
 shape:=(Zi h hp hsh).shape
 im _ hb:=hb
 imn _ _ hb:=.inl hb
 ph j x hq:=by
  have hj:j≠c.n:=fun hh=>by have:=(h.lt j x.1 x.2 hq).1;omega
  simp only[Cx.move,upd,if_neg hj];split
  ·exact .inr rfl
  ·exact .inl hq
 phn j b' sz' hq:=by
  simp only[Cx.move,upd] at hq;split at hq
  ·cases hq;exact .inr ⟨OM,.inl ⟨_,_,hp⟩⟩
  ·split at hq
   ·cases hq
   ·exact .inl hq
 n:=by simp [Cx.move]
def Qd9 {c:Cx} (h:Inv c o) {id:Nat} {x:Ob} (hp:c.ph id=some (b,sz))
  (hsh:∀ arr t fz,c.heap[b]?=some (Obj.cells arr t fz)→∃ arr',ob=Obj.cells arr' t fz∧arr'.size=arr.size)
  (hx:RepO (c.move id b sz ob) b sz x):Inv (c.move id b sz ob) (upd (upd o id none) c.n (some x)) where
 dom j ho:=by
  simp only[upd] at ho;split at ho
  ·cases ho
  ·rename_i h1;simp only[Cx.move,upd,if_neg h1];split
   ·rfl
   ·rename_i h2;rw[if_neg h2] at ho;exact h.dom j ho
 ob j y ho:=by
  simp only[upd] at ho;split at ho
  ·rename_i he;cases ho
   exact⟨b,sz,by simp only[Cx.move,upd,if_pos he],hx⟩
  ·rename_i h1;split at ho
   ·cases ho
   ·rename_i h2;obtain⟨b',sz',hp',hr⟩:=h.ob j y ho
    refine⟨b',sz',by simp only[Cx.move,upd,if_neg h1,if_neg h2];exact hp',hr.ext (WR h hp hsh) h.sep ?_⟩
    simp only[Cx.move];rw[Array.getElem?_setIfInBounds_ne];intro hh;subst hh;exact h2 (h.inj _ _ _ _ _ hp' hp)
 lt j b' sz' hp':=by
  simp only[Cx.move,upd] at hp' ⊢;split at hp'
  ·cases hp'
   have:=h.lt id b sz hp
   exact⟨OM,by simp;omega,this.2.2⟩
  ·split at hp'
   ·cases hp'
   ·have:=h.lt j b' sz' hp'
    exact⟨OM,by simp;omega,this.2.2⟩
 inj i j b' s1 s2 h1 h2:=by
  simp only[Cx.move,upd] at h1 h2;split at h1
  ·split at h2
   ·omega
   ·cases h1;split at h2
    ·cases h2
    ·rename_i hne;exact absurd (h.inj _ _ _ _ _ h2 hp) hne
  ·split at h1
   ·cases h1
   ·split at h2
    ·cases h2;rename_i hne _;exact absurd (h.inj _ _ _ _ _ h1 hp) hne
    ·split at h2
     ·cases h2
     ·exact h.inj _ _ _ _ _ h1 h2
 im b' hb:=by have:=h.im b' hb;simpa [Cx.move] using this
 gl:=h.gl.ext (WR h hp hsh) h.sep
def Cx.grow (c:Cx) (id sz:Nat) (ob:Obj):Cx :=
 { heap:=c.heap.push ob,ph:=upd (upd c.ph id none) c.n (some (c.heap.size,sz)),im:=c.im,n:=c.n+1 }
def WH {c:Cx} (h:Inv c o) (id sz:Nat) (ob:Obj):Ext c (c.grow id sz ob) where
 size:=by simp [Cx.grow]
 keep:=(QT h ob sz).keep
 shape:=(QT h ob sz).shape
 im _ hb:=hb
 imn _ _ hb:=.inl hb
 ph j x hq:=by
  have hj:j≠c.n:=fun hh=>by have:=(h.lt j x.1 x.2 hq).1;omega
  simp only[Cx.grow,upd,if_neg hj];split
  ·exact .inr rfl
  ·exact .inl hq
 phn j b' sz' hq:=by
  simp only[Cx.grow,upd] at hq;split at hq
  ·cases hq;exact .inr ⟨OM,.inr (Nat.le_refl _)⟩
  ·split at hq
   ·cases hq
   ·exact .inl hq
 n:=by simp [Cx.grow]
def Qe4 {c:Cx} (h:Inv c o) {id:Nat} {x:Ob} (hx:RepO (c.grow id sz ob) c.heap.size sz x) :
  Inv (c.grow id sz ob) (upd (upd o id none) c.n (some x)) where
 dom j ho:=by
  simp only[upd] at ho;split at ho
  ·cases ho
  ·rename_i h1;simp only[Cx.grow,upd,if_neg h1];split
   ·rfl
   ·rename_i h2;rw[if_neg h2] at ho;exact h.dom j ho
 ob j y ho:=by
  simp only[upd] at ho;split at ho
  ·rename_i he;cases ho
   exact⟨c.heap.size,sz,by simp only[Cx.grow,upd,if_pos he],hx⟩
  ·rename_i h1;split at ho
   ·cases ho
   ·rename_i h2;obtain⟨b',sz',hp',hr⟩:=h.ob j y ho
    refine⟨b',sz',by simp only[Cx.grow,upd,if_neg h1,if_neg h2];exact hp',hr.ext (WH h id sz ob) h.sep ?_⟩
    have hlt:=(h.lt j b' sz' hp').2.1;simp only[Cx.grow];rw[Array.getElem?_push_lt hlt,Array.getElem?_eq_getElem hlt]
 lt j b' sz' hp':=by
  simp only[Cx.grow,upd] at hp' ⊢;split at hp'
  ·cases hp'
   refine⟨OM,SM,fun hi=>?_⟩
   have:=h.im _ hi;omega
  ·split at hp'
   ·cases hp'
   ·have:=h.lt j b' sz' hp'
    exact⟨OM,by simp;omega,this.2.2⟩
 inj i j b' s1 s2 h1 h2:=by
  simp only[Cx.grow,upd] at h1 h2;split at h1
  ·split at h2
   ·omega
   ·cases h1;split at h2
    ·cases h2
    ·have:=(h.lt _ _ _ h2).2.1;omega
  ·split at h1
   ·cases h1
   ·split at h2
    ·cases h2;have:=(h.lt _ _ _ h1).2.1;omega
    ·split at h2
     ·cases h2
     ·exact h.inj _ _ _ _ _ h1 h2
 im b' hb:=by have:=h.im b' hb;simp [Cx.grow];omega
 gl:=h.gl.ext (WH h id sz ob) h.sep
def Cx.bare (c:Cx):Cx:={ c with ph:=fun _=>none }
def Cx.all (c:Cx):Cx:={ c with ph:=fun _=>none,im:=fun b=>c.im b∨∃ id sz,c.ph id=some (b,sz) }
variable {c':Cx}
def QaB (c:Cx):Ext c c.bare :=
 ⟨Nat.le_refl _,fun _ _ _=>rfl,fun _ arr _ _ h=>⟨arr,h,rfl⟩,fun _ h=>h,fun _ _ h=>.inl h,fun _ _ _=>.inr rfl,fun _ _ _ h=>(by cases h),Nat.le_refl _⟩
def QcA (c:Cx):Ext c c.all :=
 ⟨Nat.le_refl _,fun _ _ _=>rfl,fun _ arr _ _ h=>⟨arr,h,rfl⟩,fun _ h=>.inl h,fun _ _ h=>h,fun _ _ _=>.inr rfl,fun _ _ _ h=>(by cases h),Nat.le_refl _⟩
def Qd7 {c:Cx} (h:Inv c o):Inv c.bare emp :=
 ⟨fun _ _=>rfl,fun _ _ h=>(by cases h),fun _ _ _ h=>(by cases h),fun _ _ _ _ _ h=>(by cases h),h.im,h.gl.ext (QaB c) h.sep⟩
def Qgs {c:Cx} (h:Inv c o):Inv c.all emp :=
 ⟨fun _ _=>rfl,fun _ _ h=>(by cases h),fun _ _ _ h=>(by cases h),fun _ _ _ _ _ h=>(by cases h),fun b hb=>hb.elim (h.im b) fun ⟨id,sz,hp⟩=>(h.lt id b sz hp).2.1,h.gl.ext (QcA c) h.sep⟩
def QJ {f:α→Option β}:∀ {l:List α} {r:List β},l.mapM f=some r →
  r.length=l.length∧∀ (j:Nat) y,r[j]?=some y→∃ v,l[j]?=some v∧f v=some y:=by
 intro l;induction l with
 | nil=>intro r h;simp at h;subst h;simp
 | cons x l ih =>
  intro r h;simp only[List.mapM_cons,Option.bind_eq_bind,Option.bind_eq_some_iff,Option.pure_def,Option.some.injEq] at h;obtain⟨y,hy,ys,hys,rfl⟩:=h;obtain⟨hl,hj⟩:=ih hys
  refine⟨by simp [hl],fun j z hz=>?_⟩
  cases j with
  | zero=>simp at hz;subst hz;exact⟨x,SM,hy⟩
  | succ j=>simp at hz;obtain⟨v,h1,h2⟩:=hj j z hz;exact⟨v,by simpa using h1,h2⟩
def Rep.idf_sl {c:Cx} {es:List (List V)} (h:Rep c (.sl es) x):Idf (.sl es):=by
 cases h with
 | sl0=>exact .sl _ fun j k e v h=>by simp at h
 | sl _ _ _ _ _ _ _ _ _ _ hd=>exact .sl _ hd
def Rep.idf_ip {c:Cx} {j:Nat} (h:Rep c (.ip cs j) x):Idf (.ip cs j):=by
 cases h with
 | ip _ _ _ _ _ hd=>exact .ip _ _ hd
def XQ {l:List α} {xs:Array β} (h:xs.size=l.length) {j:Nat} {v:α} (hv:l[j]?=some v):∃ y,xs[j]?=some y:=by
 have:=(List.getElem?_eq_some_iff.1 hv).1
 exact⟨xs[j]'(by omega),Array.getElem?_eq_getElem _⟩
def DH {c:Cx} (hi:Inv c o):∀ (n:Nat) (v:V) (x:Value) (r:V),Rep c v x→frz n o v=some r→Rep c.all r x∧Idf r:=by
 have hsep:=hi.sep;have hext:=QcA c;intro n;induction n with
 | zero=>intro v x r _ h;cases h
 | succ n ih =>
  intro v x r hr h;cases v<;>simp only[frz,Option.map_eq_some_iff] at h
  case jk=>cases h;exact⟨.jk _,.jk⟩
  case bo=>cases h;exact⟨hr.ext hext hsep,.bo _⟩
  case i=>cases h;exact⟨hr.ext hext hsep,.i _ _⟩
  case s=>cases h;exact⟨hr.ext hext hsep,.s _⟩
  case ag cs =>
   obtain⟨l,hl,rfl⟩:=h;obtain⟨h1,h2⟩:=QJ hl;cases hr with
   | ag _ xs hx1 hx2 hx =>
    refine⟨.ag _ _ (by rw[hx1,h1]) hx2 fun j w y hw hy=>?_,.ag _ fun j w hw=>?_⟩
    ·obtain⟨u,hu,hf⟩:=h2 j w hw;exact (ih _ _ _ (hx j u y hu hy) hf).1
    ·obtain⟨u,hu,hf⟩:=h2 j w hw;obtain⟨y,hy⟩:=XQ hx1 hu;exact (ih _ _ _ (hx j u y hu hy) hf).2
  case tp cs =>
   obtain⟨l,hl,rfl⟩:=h;obtain⟨h1,h2⟩:=QJ hl;cases hr with
   | tp _ xs hx1 hx =>
    refine⟨.tp _ _ (by rw[hx1,h1]) fun j w y hw hy=>?_,.tp _ fun j w hw=>?_⟩
    ·obtain⟨u,hu,hf⟩:=h2 j w hw;exact (ih _ _ _ (hx j u y hu hy) hf).1
    ·obtain⟨u,hu,hf⟩:=h2 j w hw;obtain⟨y,hy⟩:=XQ hx1 hu;exact (ih _ _ _ (hx j u y hu hy) hf).2
  case nil=>cases h;cases hr;exact⟨.sl0 _ _,.sl _ fun j k e v h=>by simp at h⟩
  case sl=>cases h;exact⟨hr.ext hext hsep,hr.idf_sl⟩
  case rw id sz off len =>
   cases ho:o id with
   | none=>simp [src,ho] at h
   | some ob =>
    cases ob with
    | map=>simp [src,ho] at h
    | iter=>simp [src,ho] at h
    | row s es =>
     obtain⟨b,sz',hp,hrep⟩:=hi.ob id _ ho;obtain⟨h1,h2,h3,arr,t,h4,h5,h6⟩:=hrep;simp only[src,ho] at h;split at h
     ·rename_i es' he;split at he
      ·rename_i hle;simp only[Option.some.injEq] at he;simp only[Option.map_eq_some_iff] at h;obtain⟨l,hl,rfl⟩:=h;obtain⟨k1,k2⟩:=QJ hl;have hlen:l.length=len:=by rw[k1,← he];simp;omega
       cases hr with
       | rwd _ _ _ _ _ _ hn=>rw[hp] at hn;cases hn
       | rw0 _ _ _ a _ =>
        have:l=[]:=List.eq_nil_of_length_eq_zero hlen
        subst this;exact⟨.sl0 _ _,.sl _ fun j k e v h=>by simp at h⟩
       | rw _ _ _ _ b2 cap hp2 hn hc hf =>
        rw[hp] at hp2;cases hp2;by_cases hz:l=[]
        ·subst hz;simp at hlen;subst hlen;exact⟨.sl0 _ _,.sl _ fun j k e v h=>by simp at h⟩
        ·rw[← hlen];have hel:∀ (j:Nat) e,l[j]?=some e→∃ e0,es[off+j]?=some e0∧e0.mapM (frz n o)=some e:=by
          intro j e he1;obtain⟨e0,g1,g2⟩:=k2 j e he1
          refine⟨e0,?_,g2⟩
          rw[← he] at g1;simp only[List.getElem?_take,List.getElem?_drop] at g1;split at g1
          ·exact g1
          ·cases g1
         have hd:∀ (j k:Nat) e w,l[j]?=some e→e[k]?=some w→Idf w:=by
          intro j k e w he1 hw;obtain⟨e0,g1,g2⟩:=hel j e he1;obtain⟨u,gu,gf⟩:=(QJ g2).2 k w hw;obtain⟨y,hy,hy1,hy2⟩:=h6 (off+j) k e0 u g1 gu;exact (ih _ _ _ hy2 gf).2
         refine⟨.sl l b (off*sz) sz cap hz h2 OM (.inr ⟨id,sz,hp⟩) (fun e he1=>?_) hd (fun j k e w he1 hw=>?_) (fun j k e w y he1 hw hy=>?_),.sl _ hd⟩
         ·obtain⟨j,hj⟩:=List.getElem?_of_mem he1;obtain⟨e0,g1,g2⟩:=hel j e hj;rw[(QJ g2).1];exact h3 e0 (List.mem_of_getElem? g1)
         ·obtain⟨e0,g1,g2⟩:=hel j e he1;obtain⟨u,gu,gf⟩:=(QJ g2).2 k w hw;obtain⟨y,hy,hy1,hy2⟩:=h6 (off+j) k e0 u g1 gu
          refine⟨y,?_,hy1⟩
          show Qo c.heap b _=_;simp only[Qo,h4];rw[← hy,Nat.add_mul]
         ·obtain⟨e0,g1,g2⟩:=hel j e he1;obtain⟨u,gu,gf⟩:=(QJ g2).2 k w hw;obtain⟨y',hy',hy1,hy2⟩:=h6 (off+j) k e0 u g1 gu;have hy:Qo c.heap b (off*sz+j*sz+k)=some y:=hy;simp only[Qo,h4] at hy;rw[← Nat.add_mul,hy'] at hy;cases hy;exact (ih _ _ _ hy2 gf).1
      ·cases he
     ·cases h
  case ra id i j len =>
   cases ho:o id with
   | none=>simp [src,ho] at h
   | some ob =>
    cases ob with
    | map=>simp [src,ho] at h
    | iter=>simp [src,ho] at h
    | row s es =>
     obtain⟨b,sz',hp,hrep⟩:=hi.ob id _ ho;obtain⟨h1,h2,h3,arr,t,h4,h5,h6⟩:=hrep;simp only[src,ho] at h;cases hcs:es[i]? with
     | none=>simp [hcs] at h
     | some cs =>
      simp only[hcs] at h;split at h
      ·rename_i es' he;split at he
       ·rename_i hle;simp only[Option.some.injEq] at he;simp only[Option.map_eq_some_iff] at h;obtain⟨l,hl,rfl⟩:=h;obtain⟨k1,k2⟩:=QJ hl;have hlen:l.length=len:=by rw[k1,← he];simp;omega
        cases hr with
        | rad _ _ _ _ _ _ hn=>rw[hp] at hn;cases hn
        | ra0 _ _ _ a _ =>
         have:l=[]:=List.eq_nil_of_length_eq_zero hlen
         subst this;exact⟨.sl0 _ _,.sl _ fun j k e v h=>by simp at h⟩
        | ra _ _ _ _ b2 sz2 cap hp2 hn hc =>
         rw[hp] at hp2;cases hp2;by_cases hz:l=[]
         ·subst hz;simp at hlen;subst hlen;exact⟨.sl0 _ _,.sl _ fun j k e v h=>by simp at h⟩
         ·rw[← hlen];have hel:∀ (q:Nat) e,l[q]?=some e→∃ u w,cs[j+q]?=some u∧frz n o u=some w∧e=[w]:=by
           intro q e he1;obtain⟨e0,g1,g2⟩:=k2 q e he1;rw[← he] at g1;simp only[List.getElem?_map,List.getElem?_take,List.getElem?_drop,Option.map_eq_some_iff] at g1;obtain⟨u,gu,rfl⟩:=g1;split at gu
           ·simp only[List.mapM_cons,List.mapM_nil,Option.bind_eq_bind,Option.bind_eq_some_iff,Option.pure_def,Option.some.injEq] at g2;obtain⟨w,hw,_,rfl,rfl⟩:=g2
            exact⟨u,w,gu,hw,rfl⟩
           ·cases gu
          have hd:∀ (q k:Nat) e w,l[q]?=some e→e[k]?=some w→Idf w:=by
           intro q k e w he1 hw;obtain⟨u,w',gu,gf,rfl⟩:=hel q e he1;have hk:k=0:=by cases k with|zero=>rfl|succ k=>simp at hw
           subst hk;obtain⟨y,hy,hy1,hy2⟩:=h6 i (j+q) cs u hcs gu;simp at hw;subst hw;exact (ih _ _ _ hy2 gf).2
          refine⟨.sl l b (i*sz'+j) 1 cap hz OM OM (.inr ⟨id,sz',hp⟩) (fun e he1=>?_) hd (fun q k e w he1 hw=>?_) (fun q k e w y he1 hw hy=>?_),.sl _ hd⟩
          ·obtain⟨q,hq⟩:=List.getElem?_of_mem he1;obtain⟨_,_,_,_,rfl⟩:=hel q e hq;rfl
          ·obtain⟨u,w',gu,gf,rfl⟩:=hel q e he1;have hk:k=0:=by cases k with|zero=>rfl|succ k=>simp at hw
           subst hk;obtain⟨y,hy,hy1,hy2⟩:=h6 i (j+q) cs u hcs gu
           refine⟨y,?_,hy1⟩
           show Qo c.heap b _=_;simp only[Qo,h4];rw[← hy];congr 1;omega
          ·obtain⟨u,w',gu,gf,rfl⟩:=hel q e he1;have hk:k=0:=by cases k with|zero=>rfl|succ k=>simp at hw
           subst hk;obtain⟨y',hy',hy1,hy2⟩:=h6 i (j+q) cs u hcs gu;have hy:Qo c.heap b (i*sz'+j+q*1+0)=some y:=hy;simp only[Qo,h4] at hy;rw[show i*sz'+j+q*1+0=i*sz'+(j+q) by omega,hy'] at hy;cases hy;simp at hw;subst hw;exact (ih _ _ _ hy2 gf).1
       ·cases he
      ·cases h
  case pt id i j =>
   cases ho:o id with
   | none=>simp [Qz,ho] at h
   | some ob =>
    cases ob with
    | map=>simp [Qz,ho] at h
    | iter=>simp [Qz,ho] at h
    | row s es =>
     obtain⟨b,sz',hp,hrep⟩:=hi.ob id _ ho;obtain⟨h1,h2,h3,arr,t,h4,h5,h6⟩:=hrep;cases hcs:es[i]? with
     | none=>simp [Qz,ho,hcs] at h
     | some cs =>
      simp only[Qz,ho,hcs,Option.map_eq_some_iff] at h;obtain⟨l,hl,rfl⟩:=h;obtain⟨k1,k2⟩:=QJ hl;cases hr with
      | ptd _ _ _ _ hn=>rw[hp] at hn;cases hn
      | pt _ _ _ b2 sz2 hp2 hn =>
       rw[hp] at hp2;cases hp2;have hd:∀ (k:Nat) w,l[k]?=some w→Idf w:=by
        intro k w hw;obtain⟨u,gu,gf⟩:=k2 k w hw;obtain⟨y,hy,hy1,hy2⟩:=h6 i k cs u hcs gu;exact (ih _ _ _ hy2 gf).2
       refine⟨.ip l j b (i*sz') (.inr ⟨id,sz',hp⟩) hd (fun k w hw=>?_) (fun k w y hw hy=>?_),.ip _ _ hd⟩
       ·obtain⟨u,gu,gf⟩:=k2 k w hw;obtain⟨y,hy,hy1,hy2⟩:=h6 i k cs u hcs gu
        refine⟨y,?_,hy1⟩
        show Qo c.heap b _=_;simp only[Qo,h4];exact hy
       ·obtain⟨u,gu,gf⟩:=k2 k w hw;obtain⟨y',hy',hy1,hy2⟩:=h6 i k cs u hcs gu;have hy:Qo c.heap b (i*sz'+k)=some y:=hy;simp only[Qo,h4] at hy;rw[hy'] at hy;cases hy;exact (ih _ _ _ hy2 gf).1
  case ip=>cases h;exact⟨hr.ext hext hsep,hr.idf_ip⟩
  case np=>cases h;exact⟨hr.ext hext hsep,.np⟩
  case fn g cs =>
   obtain⟨l,hl,rfl⟩:=h;obtain⟨h1,h2⟩:=QJ hl;cases hr with
   | fn _ _ xs hx1 hx =>
    refine⟨.fn _ _ _ (by rw[hx1,h1]) fun j w y hw hy=>?_,.fn _ _ fun j w hw=>?_⟩
    ·obtain⟨u,hu,hf⟩:=h2 j w hw;exact (ih _ _ _ (hx j u y hu hy) hf).1
    ·obtain⟨u,hu,hf⟩:=h2 j w hw;obtain⟨y,hy⟩:=XQ hx1 hu;exact (ih _ _ _ (hx j u y hu hy) hf).2
  case nf=>cases h;exact⟨hr.ext hext hsep,.nf⟩
  case mp=>cases h
  case nm=>cases h;exact⟨hr.ext hext hsep,.nm⟩
  case it=>cases h
def Vu {c:Cx} (hi:Inv c o) (n:Nat) (v:V) (x:Value) (r:V) (h:Rep c v x) (hf:frz n o v=some r):Rep c.all r x:=(DH hi n v x r h hf).1
def Qh3 {c:Cx} (hi:Inv c o) {v:V} {r:V} (h:Rep c v x) (hf:frz n o v=some r):Idf r:=(DH hi n v x r h hf).2
def Rep.idf {c:Cx} (hh:c'.heap=c.heap) (him:∀ b,c.im b→c'.im b) {v:V} (hr:Rep c v x):Idf v→Rep c' v x:=by
 induction hr with
 | jk v=>exact fun _=>.jk v
 | bo p=>exact fun _=>.bo p
 | i k n=>exact fun _=>.i k n
 | s y=>exact fun _=>.s y
 | ag cs xs hl h1 _ ih=>intro hd;cases hd with|ag _ hd=>exact .ag cs xs hl h1 fun j v x h1 h2=>ih j v x h1 h2 (hd j v h1)
 | tp cs xs hl _ ih=>intro hd;cases hd with|tp _ hd=>exact .tp cs xs hl fun j v x h1 h2=>ih j v x h1 h2 (hd j v h1)
 | nil a=>exact fun _=>.nil a
 | sl0 a n=>exact fun _=>.sl0 a n
 | sl es b off sz n hne hsz hn hb hl hd hx _ ih =>
  intro _;exact .sl es b off sz n hne hsz hn (him b hb) hl hd (fun j k e v h1 h2=>by rw[hh];exact hx j k e v h1 h2) (fun j k e v x h1 h2 h3=>by rw[hh] at h3;exact ih j k e v x h1 h2 h3 (hd j k e v h1 h2))
 | ip cs j b off hb hd hx _ ih =>
  intro _;exact .ip cs j b off (him b hb) hd (fun k v h1=>by rw[hh];exact hx k v h1) (fun k v x h1 h3=>by rw[hh] at h3;exact ih k v x h1 h3 (hd k v h1))
 | np=>exact fun _=>.np
 | fn g cs xs hl _ ih=>intro hd;cases hd with|fn _ _ hd=>exact .fn g cs xs hl fun j v x h1 h2=>ih j v x h1 h2 (hd j v h1)
 | nf=>exact fun _=>.nf
 | nm=>exact fun _=>.nm
 | _=>intro hd;cases hd
def QhX {c:Cx} (hs:Sep c):∀ (n m:Nat) (v:V) (x:Value) (r:V),Rep c v x→clo m v=true→frz n o v=some r→Rep c.bare r x:=by
 have hext:=QaB c;intro n;induction n with
 | zero=>intro m v x r _ _ h;cases h
 | succ n ih =>
  intro m v x r hr hc h;cases m with
  | zero=>cases hc
  | succ m =>
   have hall:∀ {cs:List V},cs.all (clo m)=true→∀ (j:Nat) u,cs[j]?=some u→clo m u=true:=fun hc j u hu =>
    List.all_eq_true.1 hc u (List.mem_of_getElem? hu)
   cases v<;>simp only[frz,Option.map_eq_some_iff] at h<;>(first|(simp only[clo] at hc;cases hc;done)|skip)
   case jk=>cases h;exact .jk _
   case bo=>cases h;exact hr.ext hext hs
   case i=>cases h;exact hr.ext hext hs
   case s=>cases h;exact hr.ext hext hs
   case ag cs =>
    obtain⟨l,hl,rfl⟩:=h;obtain⟨h1,h2⟩:=QJ hl;cases hr with
    | ag _ xs hx1 hx2 hx =>
     refine .ag _ _ (by rw[hx1,h1]) hx2 fun j w y hw hy=>?_;obtain⟨u,hu,hf⟩:=h2 j w hw;exact ih _ _ _ _ (hx j u y hu hy) (hall hc j u hu) hf
   case tp cs =>
    obtain⟨l,hl,rfl⟩:=h;obtain⟨h1,h2⟩:=QJ hl;cases hr with
    | tp _ xs hx1 hx =>
     refine .tp _ _ (by rw[hx1,h1]) fun j w y hw hy=>?_;obtain⟨u,hu,hf⟩:=h2 j w hw;exact ih _ _ _ _ (hx j u y hu hy) (hall hc j u hu) hf
   case nil=>cases h;cases hr;exact .sl0 _ _
   case sl=>cases h;exact hr.ext hext hs
   case ip=>cases h;exact hr.ext hext hs
   case np=>cases h;exact hr.ext hext hs
   case fn g cs =>
    obtain⟨l,hl,rfl⟩:=h;obtain⟨h1,h2⟩:=QJ hl;cases hr with
    | fn _ _ xs hx1 hx =>
     refine .fn _ _ _ (by rw[hx1,h1]) fun j w y hw hy=>?_;obtain⟨u,hu,hf⟩:=h2 j w hw;exact ih _ _ _ _ (hx j u y hu hy) (hall hc j u hu) hf
   case nf=>cases h;exact hr.ext hext hs
   case nm=>cases h;exact hr.ext hext hs
def Qfk {c:Cx}:∀ (n:Nat) (v:V) (x:Value),flat n v=true→Rep c v x→Rep c' v x:=by
 intro n;induction n with
 | zero=>intro v x h;cases h
 | succ n ih =>
  intro v x h hr;cases v<;>(first|(simp only[flat] at h;cases h;done)|skip)
  case jk=>exact .jk _
  case bo=>cases hr;exact .bo _
  case i=>cases hr;exact .i _ _
  case s=>cases hr;exact .s _
  case np=>cases hr;exact .np
  case nm=>cases hr;exact .nm
  case nf=>cases hr;exact .nf
  case ag cs =>
   cases hr with
   | ag _ xs hx1 hx2 hx=>exact .ag _ _ hx1 hx2 fun j w y hw hy=>ih _ _ (List.all_eq_true.1 h w (List.mem_of_getElem? hw)) (hx j w y hw hy)
  case tp cs =>
   cases hr with
   | tp _ xs hx1 hx=>exact .tp _ _ hx1 fun j w y hw hy=>ih _ _ (List.all_eq_true.1 h w (List.mem_of_getElem? hw)) (hx j w y hw hy)
def vEq:Lf→Value→Value→Option Bool
 | .b,.bool p,.bool q=>some (p==q)
 | .i k,.int k1 a,.int k2 b=>if k1=k∧k2=k then some (a==b) else none
 | .s,.string a,.string b=>some (a.toList==b.toList)
 | _,_,_=>none
def vEqs:List Lf→List Value→List Value→Option Bool
 | [],[],[]=>some true
 | l::ls,x::xs,y::ys =>
  match vEq l x y,vEqs ls xs ys with
  | some p,some q=>some (p&&q)
  | _,_=>none
 | _,_,_=>none
def QeD {c:Cx} {l:Lf} {v w:V} (hv:Rep c v x) (hw:Rep c w y) (h:lfEq l v w=some r):vEq l x y=some r:=by
 unfold lfEq at h;split at h
 ·cases hv;cases hw;exact h
 ·cases hv;cases hw;exact h
 ·cases hv;cases hw;exact h
 ·cases h
def Reps.tail {c:Cx} {v:V} {xs:List Value} (h:Reps c (v::vs) (x::xs)):Reps c vs xs :=
 ⟨by have:=h.len;simpa using this,fun j u y hu hy=>h.rep (j+1) u y (by simpa using hu) (by simpa using hy)⟩
def WW {c:Cx}:∀ {ls:List Lf} {vs ws:List V} {xs ys:List Value} {r:Bool},Reps c vs xs→Reps c ws ys→eqps ls vs ws=some r→vEqs ls xs ys=some r:=by
 intro ls;induction ls with
 | nil =>
  intro vs ws xs ys r hv hw h;cases vs<;>cases ws<;>simp [eqps] at h;have e1:=hv.len;have e2:=hw.len;have e1:=List.eq_nil_of_length_eq_zero e1;have e2:=List.eq_nil_of_length_eq_zero e2;subst e1;subst e2;subst h;rfl
 | cons l ls ih =>
  intro vs ws xs ys r hv hw h;cases vs with
  | nil=>simp [eqps] at h
  | cons v vs=>cases ws with
   | nil=>simp [eqps] at h
   | cons w ws =>
    cases xs with
    | nil=>have:=hv.len;simp at this
    | cons x xs=>cases ys with
     | nil=>have:=hw.len;simp at this
     | cons y ys =>
      simp only[eqps] at h;split at h
      ·rename_i p q hp hq;simp only[vEqs,QeD (hv.rep 0 v x rfl rfl) (hw.rep 0 w y rfl rfl) hp,ih hv.tail hw.tail hq];exact h
      ·cases h
def W4:∀ {k1 k2:List Lf} {xs ys:List Value} {r:Bool},vEqs (k1++k2) xs ys=some r →
  ∃ p q,vEqs k1 (xs.take k1.length) (ys.take k1.length)=some p∧vEqs k2 (xs.drop k1.length) (ys.drop k1.length)=some q∧r=(p&&q):=by
 intro k1;induction k1 with
 | nil=>intro k2 xs ys r h;exact⟨true,r,by simp [vEqs],by simpa using h,SM⟩
 | cons l k1 ih =>
  intro k2 xs ys r h;cases xs with
  | nil=>simp [vEqs] at h
  | cons x xs=>cases ys with
   | nil=>simp [vEqs] at h
   | cons y ys =>
    simp only[List.cons_append,vEqs] at h;split at h
    ·rename_i p q hp hq;obtain⟨p',q',h1,h2,rfl⟩:=ih hq
     refine⟨p&&p',q',by simp [vEqs,hp,h1],by simpa using h2,?_⟩
     simp only[Option.some.injEq] at h;rw[← h,Bool.and_assoc]
    ·cases h
def JD:∀ {k:List Lf} {xs ys:List Value} {r:Bool},vEqs k xs ys=some r→xs.length=k.length∧ys.length=k.length:=by
 intro k;induction k with
 | nil=>intro xs ys r h;cases xs<;>cases ys<;>simp [vEqs] at h;simp
 | cons l k ih =>
  intro xs ys r h;cases xs with
  | nil=>simp [vEqs] at h
  | cons x xs=>cases ys with
   | nil=>simp [vEqs] at h
   | cons y ys =>
    simp only[vEqs] at h;split at h
    ·rename_i p q hp hq;obtain⟨h1,h2⟩:=ih hq;simp [h1,h2]
    ·cases h
def Sh (P:Program) (t:TypeId) (x:Value):Prop:=if isA P t then ∃ cs:Array Value,x=.agg cs∧∀ (j:Nat) y,cs[j]?=some y→oneC y=true else oneC x=true
def JQ (h:lfs P n t=some ks):∃ d,P.underlying t=some d:=by
 cases n with
 | zero=>cases h
 | succ n =>
  cases hu:P.underlying t with
  | none=>simp [lfs,hu] at h
  | some d=>exact⟨d,rfl⟩
def Y5 (h:P.underlying t=some d):∃ i,P.info? t=some i:=by
 unfold Program.underlying at h;cases hi:P.info? t with
 | none=>simp [hi] at h
 | some i=>exact⟨i,rfl⟩
def WX (P:Program) (w:World) (h:P.underlying t=some d):(isAgg t).run P w=.ok (isA P t) w:=by
 unfold isAgg isA;simp only[Sem.run_bind,run_underlying h,Result.andThen_ok,h];cases d<;>rfl
def YL (h:lfs P n t=some ks) (ha:isA P t=false):ks.length=1:=by
 cases n with
 | zero=>cases h
 | succ n =>
  unfold isA at ha;cases hu:P.underlying t with
  | none=>simp [lfs,hu] at h
  | some d =>
   rw[hu] at ha;cases d<;>simp [lfs,hu] at h ha<;>(subst h;rfl)
def ZS (h:oneC x=true):x.cells=#[x]:=by
 cases x<;>simp [oneC] at h<;>rfl
def Jd (w:World) (hu:P.underlying t=some d) (hsz:isA P t=false→P.cellsOf t=1) (hx:∀ (j:Nat) y,xs[j]?=some y→oneC y=true)
  {off:Nat} (hl:off+P.cellsOf t≤xs.size):∃ a,(part t xs off).run P w=.ok a w∧Sh P t a∧a.cells.toList=(xs.toList.drop off).take (P.cellsOf t):=by
 obtain⟨i,hi⟩:=Y5 hu;unfold part;simp only[Sem.run_bind,WX P w hu,Result.andThen_ok];cases ha:isA P t with
 | true =>
  simp only[if_true,Sem.run_bind,run_sizeOf w hi,Result.andThen_ok,Sem.run_pure]
  refine⟨_,rfl,?_,?_⟩
  ·unfold Sh;rw[if_pos ha]
   refine⟨_,rfl,fun j y hj=>?_⟩
   rw[Array.getElem?_extract] at hj;split at hj
   ·exact hx _ _ hj
   ·cases hj
  ·show (xs.extract off (off+P.cellsOf t)).toList=_;rw[Array.toList_extract];simp [List.extract]
 | false =>
  have h1:=hsz ha;have hlt:off < xs.size:=by omega
  simp only[Bool.false_eq_true,if_false,Array.getElem?_eq_getElem hlt,Sem.run_pure];have ho:=hx off xs[off] (Array.getElem?_eq_getElem hlt)
  refine⟨_,rfl,?_,?_⟩
  ·unfold Sh;rw[if_neg (by simp [ha])];exact ho
  ·rw[ZS ho,h1]
   have:off < xs.toList.length:=by simpa using hlt
   rw[List.drop_eq_getElem_cons this];simp
def Vh {lf:TypeId→Option (List Lf)} {fs:List Field} {off:Nat} (h:lfsF P lf (f::fs) off=some ks) :
  f.name ≠ "_" ∧ f.offset = off ∧ ∃ m r, lf f.type = some m ∧ lfsF P lf fs (off + P.cellsOf f.type) = some r ∧ m.length = P.cellsOf f.type ∧ 0 < P.cellsOf f.type ∧ ks = m ++ r := by
 simp only[lfsF] at h;split at h
 ·rename_i hc
  refine⟨hc.1,hc.2,?_⟩
  split at h
  ·rename_i m r hm hr;split at h
   ·rename_i hh;cases h;exact⟨m,r,hm,hr,hh.1,hh.2,rfl⟩
   ·cases h
  ·cases h
 ·cases h
def QkA (h:vEq .b x y=some r):∃ p q,x=.bool p∧y=.bool q∧r=(p==q):=by
 cases x<;>first|(simp [vEq] at h;done)|(cases y<;>first|(simp [vEq] at h;done)|exact⟨_,_,rfl,rfl,by simpa [vEq] using h.symm⟩)
def Qjz (h:vEq .s x y=some r):∃ p q,x=.string p∧y=.string q∧r=(p.toList==q.toList):=by
 cases x<;>first|(simp [vEq] at h;done)|(cases y<;>first|(simp [vEq] at h;done)|exact⟨_,_,rfl,rfl,by simpa [vEq] using h.symm⟩)
def QlC {k:IntKind} (h:vEq (.i k) x y=some r):∃ p q,x=.int k p∧y=.int k q∧r=(p==q):=by
 cases x<;>first
  | (simp [vEq] at h;done)
  | (cases y<;>first
    | (simp [vEq] at h;done)
    | (simp only[vEq] at h
       split at h
       ·rename_i hk;obtain⟨rfl,rfl⟩:=hk;exact⟨_,_,rfl,rfl,by simpa using h.symm⟩
       ·cases h))
def EqOk (P:Program) (d:Nat) (t:TypeId) (ks:List Lf):Prop:=∀ (w:World) (x y:Value) (r:Bool),
 Sh P t x→Sh P t y→vEqs ks x.cells.toList y.cells.toList=some r→(Op.equalIn d t x y).run P w=.ok r w
def Vw {d:Nat} (ih:∀ t ks,lfs P n t=some ks→EqOk P d t ks) (hx:∀ (j:Nat) y,xs[j]?=some y→oneC y=true) (hy:∀ (j:Nat) y,ys[j]?=some y→oneC y=true) (w:World) :
  ∀ (l:List Field) (off:Nat) (ks:List Lf) (r:Bool),lfsF P (lfs P n) l off=some ks→vEqs ks (xs.toList.drop off) (ys.toList.drop off)=some r →
   (Op.eqFields d xs ys l).run P w=.ok r w:=by
 intro l;induction l with
 | nil =>
  intro off ks r h hr;simp only[lfsF,Option.some.injEq] at h;subst h
  have:=JD hr
  have h1:=List.eq_nil_of_length_eq_zero this.1;have h2:=List.eq_nil_of_length_eq_zero this.2;rw[h1,h2] at hr;simp only[vEqs,Option.some.injEq] at hr;subst hr;simp [Op.eqFields]
 | cons f l ihl =>
  intro off ks r h hr;obtain⟨h1,h2,m,q,hm,hq,hml,hpos,rfl⟩:=Vh h;obtain⟨p1,p2,e1,e2,rfl⟩:=W4 hr;obtain⟨dd,hud⟩:=JQ hm;obtain⟨len1,len2⟩:=JD hr;simp only[List.length_append,List.length_drop,Array.length_toList] at len1 len2;rw[hml] at e1 e2;have hnz:isA P f.type=false→P.cellsOf f.type=1:=fun hh=>by rw[← hml];exact YL hm hh
  obtain⟨a,pa,sa,ca⟩:=Jd w hud hnz hx (off:=off) OM;obtain⟨b,pb,sb,cb⟩:=Jd w hud hnz hy (off:=off) OM;have ee:=ih f.type m hm w a b p1 sa sb (by rw[ca,cb];exact e1);simp only[Op.eqFields,h1,ne_eq,not_false_eq_true,if_true,Sem.run_bind,h2,pa,pb,ee,Result.andThen_ok];cases p1 with
  | false=>simp
  | true =>
   simp only[Bool.not_true,Bool.false_eq_true,if_false,Bool.true_and];rw[List.drop_drop,List.drop_drop] at e2;exact ihl _ _ _ hq e2
def QaP {d:Nat} {e:TypeId} {m:List Lf} (ih:EqOk P d e m) {dd:TypeDesc} (hud:P.underlying e=some dd) (hml:m.length=P.cellsOf e) (hpos:0 < P.cellsOf e)
  (hnz:isA P e=false→P.cellsOf e=1) (hx:∀ (j:Nat) y,xs[j]?=some y→oneC y=true) (hy:∀ (j:Nat) y,ys[j]?=some y→oneC y=true) (w:World) :
  ∀ (len s:Nat) (r:Bool),vEqs (List.replicate len m).flatten (xs.toList.drop (s*P.cellsOf e)) (ys.toList.drop (s*P.cellsOf e))=some r →
   (Op.eqItems d e (P.cellsOf e) xs ys (List.range' s len)).run P w=.ok r w:=by
 intro len;induction len with
 | zero =>
  intro s r hr;simp only[List.replicate_zero,List.flatten_nil] at hr
  have:=JD hr
  have h1:=List.eq_nil_of_length_eq_zero this.1;have h2:=List.eq_nil_of_length_eq_zero this.2;rw[h1,h2] at hr;simp only[vEqs,Option.some.injEq] at hr;subst hr;simp [Op.eqItems]
 | succ len ihl =>
  intro s r hr;rw[List.replicate_succ,List.flatten_cons] at hr;obtain⟨p1,p2,e1,e2,rfl⟩:=W4 hr;obtain⟨len1,len2⟩:=JD hr;simp only[List.length_append,List.length_drop,Array.length_toList] at len1 len2;rw[hml] at e1 e2;obtain⟨a,pa,sa,ca⟩:=Jd w hud hnz hx (off:=s*P.cellsOf e) OM;obtain⟨b,pb,sb,cb⟩:=Jd w hud hnz hy (off:=s*P.cellsOf e) OM;have ee:=ih w a b p1 sa sb (by rw[ca,cb];exact e1);rw[List.range'_succ];simp only[Op.eqItems,Sem.run_bind,pa,pb,ee,Result.andThen_ok];cases p1 with
  | false=>simp
  | true =>
   simp only[Bool.not_true,Bool.false_eq_true,if_false,Bool.true_and];rw[List.drop_drop,List.drop_drop] at e2;refine ihl (s+1) p2 ?_;rw[Nat.add_mul,Nat.one_mul];exact e2
def XT:∀ (n:Nat) (t:TypeId) (ks:List Lf),lfs P n t=some ks→∀ d,EqOk P (d+n) t ks:=by
 intro n;induction n with
 | zero=>intro t ks h;cases h
 | succ n ih =>
  intro t ks h d w x y r hx hy hr;show (Op.equalIn ((d+n)+1) t x y).run P w=_;cases hu:P.underlying t with
  | none=>simp [lfs,hu] at h
  | some dd =>
   have sc:∀ l,ks=[l]→isA P t=false→vEq l x y=some r:=by
    intro l hk ha;unfold Sh at hx hy;rw[if_neg (by simp [ha])] at hx hy;rw[hk,ZS hx,ZS hy] at hr;simp only[vEqs] at hr;cases hp:vEq l x y with
    | none=>simp [hp] at hr
    | some p=>simp [hp] at hr;rw[hr]
   cases dd<;>simp only[lfs,hu] at h<;>(first|(cases h;done)|skip)
   case bool =>
    simp only[Option.some.injEq] at h;obtain⟨p,q,rfl,rfl,rfl⟩:=QkA (sc _ h.symm (by simp [isA,hu]));exact run_equalIn_bool w _ _ _ _ hu
   case int k =>
    simp only[Option.some.injEq] at h;obtain⟨p,q,rfl,rfl,rfl⟩:=QlC (sc _ h.symm (by simp [isA,hu]));exact run_equalIn_int w _ _ _ _ _ _ hu
   case string =>
    simp only[Option.some.injEq] at h;obtain⟨p,q,rfl,rfl,rfl⟩:=Qjz (sc _ h.symm (by simp [isA,hu]));exact run_equalIn_string w _ _ _ _ hu
   case struct fs =>
    split at h
    ·cases h
    ·rename_i hst;have ha:isA P t=true:=by simp [isA,hu]
     unfold Sh at hx hy;rw[if_pos ha] at hx hy;obtain⟨xs,rfl,hx⟩:=hx;obtain⟨ys,rfl,hy⟩:=hy;have hf:P.fieldsOf t=fs:=by simp [Program.fieldsOf,hu]
     rw[run_equalIn_struct w _ _ _ _ (by rw[hf];exact hu) (by simpa using hst),hf];exact Vw (fun t ks h=>ih t ks h d) hx hy w _ 0 ks r h (by simpa [Value.cells] using hr)
   case array len e =>
    split at h
    ·rename_i m hm;split at h
     ·rename_i hml;simp only[Option.some.injEq] at h;subst h;have ha:isA P t=true:=by simp [isA,hu]
      unfold Sh at hx hy;rw[if_pos ha] at hx hy;obtain⟨xs,rfl,hx⟩:=hx;obtain⟨ys,rfl,hy⟩:=hy;obtain⟨dd,hud⟩:=JQ hm;obtain⟨i,hi⟩:=Y5 hud;rw[run_equalIn_array w _ _ _ hu hi,List.range_eq_range'];exact QaP (ih e m hm d) hud hml.1 hml.2 (fun hh=>by rw[← hml.1];exact YL hm hh) hx hy w len 0 r (by simpa [Value.cells] using hr)
     ·cases h
    ·cases h
def CkOk (P:Program) (em:Bool) (d:Nat) (t:TypeId) (n:Nat):Prop:=∀ (w:World) (x:Value),
 Sh P t x→x.cells.size=n→(Instr.checkKey em d t x).run P w=.ok () w
def VY (em:Bool):∀ (n:Nat) (t:TypeId) (ks:List Lf),lfs P n t=some ks→∀ d,CkOk P em (d+n) t ks.length:=by
 intro n;induction n with
 | zero=>intro t ks h;cases h
 | succ n ih =>
  intro t ks h d w x hx hl;show (Instr.checkKey em ((d+n)+1) t x).run P w=_;cases hu:P.underlying t with
  | none=>simp [lfs,hu] at h
  | some dd =>
   rw[Instr.checkKey];simp only[Sem.run_bind,run_underlying hu,Result.andThen_ok];cases dd<;>simp only[lfs,hu] at h<;>(first|(cases h;done)|skip)
   case bool=>rfl
   case int k=>rfl
   case string=>rfl
   case struct fs =>
    split at h
    ·cases h
    ·have ha:isA P t=true:=by simp [isA,hu]
     unfold Sh at hx;rw[if_pos ha] at hx;obtain⟨xs,rfl,hx⟩:=hx;simp only[Sem.run_bind];rw[← Array.forIn_toList]
     replace hl:xs.size=0+ks.length:=by simpa [Value.cells] using hl
     generalize fs.toList=l at h;generalize (0:Nat)=off at h hl;clear hu;induction l generalizing off ks with
     | nil=>simp
     | cons f l ihl =>
      obtain⟨h1,h2,m,q,hm,hq,hml,hpos,rfl⟩:=Vh h;obtain⟨dd,hud⟩:=JQ hm;have hnz:isA P f.type=false→P.cellsOf f.type=1:=fun hh=>by rw[← hml];exact YL hm hh
      simp only[List.length_append] at hl;obtain⟨a,pa,sa,ca⟩:=Jd w hud hnz hx (off:=off) OM;have hsz:a.cells.size=m.length:=by
       rw[← Array.length_toList,ca,hml];simp;omega
      have e1:=ih f.type m hm d w a sa hsz;simp only[List.forIn_cons,Sem.run_bind,h1,ne_eq,not_false_eq_true,if_true,h2,pa,e1,Result.andThen_ok,Sem.run_pure];exact ihl q (off+P.cellsOf f.type) hq OM
   case array len e =>
    split at h
    ·rename_i m hm;split at h
     ·rename_i hml;simp only[Option.some.injEq] at h;subst h;have ha:isA P t=true:=by simp [isA,hu]
      unfold Sh at hx;rw[if_pos ha] at hx;obtain⟨xs,rfl,hx⟩:=hx;obtain⟨dd,hud⟩:=JQ hm;obtain⟨i,hi⟩:=Y5 hud;have hnz:isA P e=false→P.cellsOf e=1:=fun hh=>by rw[← hml.1];exact YL hm hh
      replace hl:xs.size=(0+len)*P.cellsOf e:=by
       have:xs.size=len*m.length:=by simpa [Value.cells] using hl
       rw[this,hml.1,Nat.zero_add]
      simp only[Sem.run_bind];simp only[Std.Legacy.Range.forIn_eq_forIn_range',Std.Legacy.Range.size,Nat.sub_zero,Nat.add_one_sub_one,Nat.div_one];generalize (0:Nat)=s at hl;clear hu;induction len generalizing s with
      | zero=>simp
      | succ len ihl =>
       have hs:s*P.cellsOf e+P.cellsOf e≤xs.size:=by
        rw[hl,show s+(len+1)=(s+1)+len by omega,Nat.add_mul,Nat.add_mul];omega
       obtain⟨a,pa,sa,ca⟩:=Jd w hud hnz hx (off:=s*P.cellsOf e) hs;have hsz:a.cells.size=m.length:=by
        rw[← Array.length_toList,ca,hml.1];simp;omega
       have e1:=ih e m hm d w a sa hsz;rw[List.range'_succ];simp only[List.forIn_cons,Sem.run_bind,run_sizeOf w hi,pa,e1,Result.andThen_ok,Sem.run_pure];exact ihl (s+1) (by rw[hl];congr 1;omega)
     ·cases h
    ·cases h
def Qj6 {p:Bool} {k:I} (h:cod p j=k) (hk:k≠.bad):p=true∧j=k:=by
 unfold cod at h;split at h
 ·rename_i hp;exact⟨hp,h⟩
 ·exact absurd h.symm hk
def Zh {p:Bool} (h:cod p j=.q q):p=true∧j=.q q:=Qj6 h SM
def Vm (c:Cx) (v:Value):Rep c (zV v) v:=by
 unfold zV;split<;>constructor
def QbG (c:Cx) (v:Value):Rep c (zVs v) v:=by
 unfold zVs;split
 ·rename_i cs;split
  ·rename_i h;refine .ag _ _ SM (fun j x hx=>List.all_eq_true.1 h x ?_) fun j u x hu hx=>?_
   ·exact Array.mem_toList_iff.2 (Array.mem_of_getElem? hx)
   ·simp only[List.getElem?_map,Array.getElem?_toList,hx,Option.map_some,Option.some.injEq] at hu;subst hu;exact Vm c x
  ·exact .jk _
 ·exact Vm c v
def YQ {c:Cx} (hg:GlAt c.heap c.im) (h:∀ t,Rep c (e t) (a.tmps.getD t undef)) (x:Operand):Rep c ((cO x).ev e) (a.eval x):=by
 cases x with
 | tmp t=>exact h t
 | const v=>exact QbG c v
 | global g=>exact hg.rep g
 | func g=>exact .fn g [] #[] rfl (fun j v x hv=>by simp at hv)
theorem Rep.cells {c:Cx} {v:V} {x:Value} (h:Rep c v x) (hne:v.cells≠[]):Reps c v.cells x.cells.toList∧(∀ (j:Nat) y,x.cells[j]?=some y→oneC y=true) ∧
  (v.isAg=true→∃ cs,x=.agg cs)∧(v.isAg=false→oneC x=true):=by
 have one:oneC x=true→v.cells=[v]→v.isAg=false→Reps c v.cells x.cells.toList∧(∀ (j:Nat) y,x.cells[j]?=some y→oneC y=true) ∧
   (v.isAg=true→∃ cs,x=.agg cs)∧(v.isAg=false→oneC x=true):=by
  intro ho hv hn;rw[hv,ZS ho]
  refine⟨⟨SM,fun j u y hu hy=>?_⟩,fun j y hy=>?_,fun hh=>by rw[hn] at hh;(cases hh),fun _=>ho⟩
  ·cases j with
   | zero=>simp at hu hy;subst hu;subst hy;exact h
   | succ j=>simp at hu
  ·cases j with
   | zero=>simp at hy;subst hy;exact ho
   | succ j=>simp at hy
 cases v
 case jk=>simp [V.cells] at hne
 case tp=>simp [V.cells] at hne
 case ag cs =>
  cases h with
  | ag _ xs hl h1 h =>
   refine⟨⟨by simp [Value.cells,V.cells,hl],fun j u y hu hy=>?_⟩,h1,fun _=>⟨xs,rfl⟩,fun hh=>by simp [V.isAg] at hh⟩
   simp only[V.cells,Value.cells,Array.getElem?_toList] at hu hy;exact h j u y hu hy
 all_goals
  refine one ?_ rfl rfl;cases h<;>rfl
section
variable {P:Program} {c:Cx} (w:World)
def Qcf (o:BinOp) (t:TypeId) (X Y:Operand) {v:V} (hx:Rep c vx x) (hy:Rep c vy y) (h:binV o vx vy=some v) :
  ∃ r,((do eqGuard o t X Y x y;binOp o t x y):Sem Value).run P w=.ok r w∧Rep c v r:=by
 unfold binV at h;split at h
 ·rename_i k a k' b;cases hx;cases hy;have hg:(eqGuard o t X Y (.int k a) (.int k' b)).run P w=.ok () w:=by cases o<;>rfl
  simp only[Sem.run_bind,hg,Result.andThen_ok];split at h
  ·rename_i hs;cases o<;>simp [Xg] at hs<;>simp only[Dt] at h<;>(split at h)<;>(first|(cases h;done)|skip)
   ·rename_i hb;simp only[Option.some.injEq] at h;subst h
    exact⟨_,by simp only[binOp,Op.shift,if_neg hb];rfl,.i _ _⟩
   ·rename_i hb;simp only[Option.some.injEq] at h;subst h
    exact⟨_,by simp only[binOp,Op.shift,if_neg hb];rfl,.i _ _⟩
  ·rename_i hs;split at h
   ·rename_i hk;subst hk;have hbin:binOp o t (.int k a) (.int k b)=match o with
      | .add|.sub|.mul=>Op.intArith o k a b
      | .quo|.rem=>Op.intDiv o k a b
      | .and|.or|.xor|.andNot=>Op.intBits o k a b
      | _=>Op.intCmp o a b:=by
     cases o<;>simp [Xg] at hs<;>simp [binOp]
    rw[hbin];cases o<;>simp [Xg] at hs
    case add=>cases h;exact⟨_,rfl,.i _ _⟩
    case sub=>cases h;exact⟨_,rfl,.i _ _⟩
    case mul=>cases h;exact⟨_,rfl,.i _ _⟩
    case quo =>
     simp only[Y7] at h;split at h
     ·cases h
     ·rename_i hb;cases h;exact⟨_,by simp only[Op.intDiv,if_neg hb];rfl,.i _ _⟩
    case rem =>
     simp only[Y7] at h;split at h
     ·cases h
     ·rename_i hb;cases h;exact⟨_,by simp only[Op.intDiv,if_neg hb];rfl,.i _ _⟩
    case and=>cases h;exact⟨_,rfl,.i _ _⟩
    case or=>cases h;exact⟨_,rfl,.i _ _⟩
    case xor=>cases h;exact⟨_,rfl,.i _ _⟩
    case andNot=>cases h;exact⟨_,rfl,.i _ _⟩
    case eql=>cases h;exact⟨_,rfl,.bo _⟩
    case neq=>cases h;exact⟨_,rfl,.bo _⟩
    case lss=>cases h;exact⟨_,rfl,.bo _⟩
    case leq=>cases h;exact⟨_,rfl,.bo _⟩
    case gtr=>cases h;exact⟨_,rfl,.bo _⟩
    case geq=>cases h;exact⟨_,rfl,.bo _⟩
   ·cases h
 ·rename_i a b;cases hx;cases hy;have hg:(eqGuard o t X Y (.string a) (.string b)).run P w=.ok () w:=by cases o<;>rfl
  simp only[Sem.run_bind,hg,Result.andThen_ok];unfold strV at h;split at h
  ·split at h
   ·rename_i hb;simp only[Option.some.injEq] at h;subst h
    refine⟨_,?_,.s _⟩
    simp only[binOp,Op.stringOp];rw[if_neg]
    ·rfl
    ·simp [IntKind.max,IntKind.signed,IntKind.bits];omega
   ·cases h
  ·simp only[Option.some.injEq] at h;subst h;exact⟨_,rfl,.bo _⟩
  ·simp only[Option.some.injEq] at h;subst h;exact⟨_,rfl,.bo _⟩
  ·cases h
 ·cases h
def Qby (neg:Bool) (t:TypeId) (X Y:Operand) (hu:P.underlying t=some .bool) {v:V} (hx:Rep c vx x) (hy:Rep c vy y) (h:eqbV neg vx vy=some v) :
  ∃ r,((do eqGuard (if neg then .neq else .eql) t X Y x y;binOp (if neg then .neq else .eql) t x y):Sem Value).run P w=.ok r w∧Rep c v r:=by
 unfold eqbV at h;split at h
 ·rename_i p q;cases hx;cases hy;simp only[Option.some.injEq] at h;subst h;have he:=run_equalIn_bool (P:=P) w 9999 t p q hu;cases neg
  ·refine⟨_,?_,.bo _⟩
   simp only[Bool.false_eq_true,if_false,Sem.run_bind,eqGuard,binOp,Op.equal,Op.maxDepth];simp [he]
  ·refine⟨_,?_,.bo _⟩
   simp only[if_true,Sem.run_bind,eqGuard,binOp,Op.equal,Op.maxDepth];simp [he]
 ·cases h
def KD (neg:Bool) (t:TypeId) (X Y:Operand) (hl:lfs P LD t=some ks) (ha:isA P t=true) (hgt:P.eqGuardType P.depth t=false) {v:V} (hx:Rep c vx x) (hy:Rep c vy y) (h:(eqV true ks vx vy).map (fun p=>V.bo (p != neg))=some v) :
  ∃ r,((do eqGuard (if neg then .neq else .eql) t X Y x y;binOp (if neg then .neq else .eql) t x y):Sem Value).run P w=.ok r w∧Rep c v r:=by
 simp only[Option.map_eq_some_iff] at h;obtain⟨p,hp,rfl⟩:=h;unfold eqV at hp;split at hp
 ·rename_i hag;cases vx<;>simp [V.isAg] at hag;cases vy<;>simp at hag;rename_i cs ds;simp only[V.cells] at hp;cases hx with
  | ag _ xs hl1 h1 hx =>
   cases hy with
   | ag _ ys hl2 h2 hy =>
    have hv:vEqs ks xs.toList ys.toList=some p:=WW
     ⟨by simp [hl1],fun j u z hu hz=>hx j u z hu (by rwa [Array.getElem?_toList] at hz)⟩
     ⟨by simp [hl2],fun j u z hu hz=>hy j u z hu (by rwa [Array.getElem?_toList] at hz)⟩ hp
    have he:=XT (P:=P) LD t ks hl (10000 - LD) w (.agg xs) (.agg ys) p (by unfold Sh;rw[if_pos ha];exact⟨_,rfl,h1⟩) (by unfold Sh;rw[if_pos ha];exact⟨_,rfl,h2⟩) hv;have he:(Op.equalIn 10000 t (.agg xs) (.agg ys)).run P w=.ok p w:=he;have hg:∀ o:BinOp,(eqGuard o t X Y (.agg xs) (.agg ys)).run P w=.ok () w:=by
     intro o;cases o<;>(first|rfl|simp [eqGuard,hgt])
    refine⟨.bool (p != neg),?_,.bo _⟩
    cases neg
    ·simp only[Bool.false_eq_true,if_false,Sem.run_bind,hg,Result.andThen_ok,binOp,Op.equal,Op.maxDepth,he];simp
    ·simp only[if_true,Sem.run_bind,hg,Result.andThen_ok,binOp,Op.equal,Op.maxDepth,he];simp
 ·cases hp
def Qh9 (neg:Bool) (t:TypeId) (X Y:Operand) (hu:P.underlying t=some (.slice el)) (hx:Rep c vx x) {q:Nat} (hy:y=.slice none l q) (h:szV vx=some r) :
  ∃ p,((do eqGuard (if neg then .neq else .eql) t X Y x y;binOp (if neg then .neq else .eql) t x y):Sem Value).run P w=.ok (.bool p) w∧(r=true→p=neg):=by
 subst hy;have key:∀ (a:Option Addr) (n m:Nat),x=.slice a n m→(r=true→a.isSome=true) →
   ∃ p,((do eqGuard (if neg then .neq else .eql) t X Y x (.slice none l q);binOp (if neg then .neq else .eql) t x (.slice none l q)):Sem Value).run P w=.ok (.bool p) w∧(r=true→p=neg):=by
  rintro a n m rfl ha;have he:(Op.equalIn 10000 t (.slice a n m) (.slice none l q)).run P w=.ok a.isNone w:=by
   show (Op.equalIn (9999+1) _ _ _).run P w=_;rw[Op.equalIn];simp only[Sem.run_bind,run_underlying hu,Result.andThen_ok];cases a<;>rfl
  have hg:∀ o:BinOp,(eqGuard o t X Y (.slice a n m) (.slice none l q)).run P w=.ok () w:=by intro o;cases o<;>rfl
  refine⟨a.isNone != neg,?_,fun hr=>by have:=ha hr;cases a<;>simp_all⟩
  cases neg<;>simp [hg,binOp,Op.equal,Op.maxDepth,he]
 cases hx<;>simp only[szV,Option.some.injEq,reduceCtorEq] at h
 case nil=>exact key _ _ _ rfl (fun hr=>by rw[← h] at hr;cases hr)
 case sl0=>exact key _ _ _ rfl (fun hr=>by rw[← h] at hr;cases hr)
 case sl=>exact key _ _ _ rfl (fun _=>rfl)
 case rw0=>exact key _ _ _ rfl (fun hr=>by rw[← h] at hr;cases hr)
 case rw=>exact key _ _ _ rfl (fun _=>rfl)
 case rwd _ _ _ _ _ _ _ _ _ ha=>exact key _ _ _ rfl (fun hr=>by rw[← h] at hr;obtain⟨ad,h1,_⟩:=ha (by simpa using hr);rw[h1];rfl)
 case ra0=>exact key _ _ _ rfl (fun hr=>by rw[← h] at hr;cases hr)
 case ra=>exact key _ _ _ rfl (fun _=>rfl)
 case rad _ _ _ _ _ _ _ _ _ ha=>exact key _ _ _ rfl (fun hr=>by rw[← h] at hr;obtain⟨ad,h1,_⟩:=ha (by simpa using hr);rw[h1];rfl)
def QgK (hi:Inv c o) (mp neg:Bool) (t:TypeId) (X Y:Operand) (hu:P.underlying t=some d) {v:V} (hx:Rep c vx x)
  (hd:(mp=false∧∃ e,d=.pointer e∧y=.pointer none)∨(mp=true∧∃ k e,d=.map k e∧y=.map none)) (h:isnV o mp neg vx=some v) :
  ∃ r,((do eqGuard (if neg then .neq else .eql) t X Y x y;binOp (if neg then .neq else .eql) t x y):Sem Value).run P w=.ok r w∧Rep c v r:=by
 rcases hd with⟨rfl,e,rfl,rfl⟩|⟨rfl,k,e,rfl,rfl⟩
 ·have key:∀ a,x=.pointer a→v=.bo (a.isNone != neg) →
    ∃ r,((do eqGuard (if neg then .neq else .eql) t X Y x (.pointer none);binOp (if neg then .neq else .eql) t x (.pointer none)):Sem Value).run P w=.ok r w∧Rep c v r:=by
   rintro a rfl rfl;have he:(Op.equalIn 10000 t (.pointer a) (.pointer none)).run P w=.ok a.isNone w:=by
    show (Op.equalIn (9999+1) _ _ _).run P w=_;rw[Op.equalIn];simp only[Sem.run_bind,run_underlying hu,Result.andThen_ok];cases a<;>rfl
   have hg:∀ o:BinOp,(eqGuard o t X Y (.pointer a) (.pointer none)).run P w=.ok () w:=by intro o;cases o<;>rfl
   refine⟨.bool (a.isNone != neg),?_,.bo _⟩
   cases neg<;>simp [hg,binOp,Op.equal,Op.maxDepth,he]
  cases vx<;>simp only[isnV,Bool.false_eq_true,if_false,Option.map_eq_some_iff,Option.some.injEq,reduceCtorEq] at h
  case np=>cases hx;exact key _ rfl (by rw[← h];cases neg<;>rfl)
  case ip=>cases hx;exact key _ rfl (by rw[← h];cases neg<;>rfl)
  case pt id i j =>
   obtain⟨ob,ho,rfl⟩:=h;obtain⟨b,sz,hp,_⟩:=hi.ob _ _ ho;cases hx with
   | pt=>exact key _ rfl (by cases neg<;>rfl)
   | ptd _ _ _ _ hn=>rw[hp] at hn;cases hn
 ·have key:∀ a,x=.map a→v=.bo (a.isNone != neg) →
    ∃ r,((do eqGuard (if neg then .neq else .eql) t X Y x (.map none);binOp (if neg then .neq else .eql) t x (.map none)):Sem Value).run P w=.ok r w∧Rep c v r:=by
   rintro a rfl rfl;have he:(Op.equalIn 10000 t (.map a) (.map none)).run P w=.ok a.isNone w:=by
    show (Op.equalIn (9999+1) _ _ _).run P w=_;rw[Op.equalIn];simp only[Sem.run_bind,run_underlying hu,Result.andThen_ok];cases a<;>rfl
   have hg:∀ o:BinOp,(eqGuard o t X Y (.map a) (.map none)).run P w=.ok () w:=by intro o;cases o<;>rfl
   refine⟨.bool (a.isNone != neg),?_,.bo _⟩
   cases neg<;>simp [hg,binOp,Op.equal,Op.maxDepth,he]
  cases vx<;>simp only[isnV,if_true,Option.map_eq_some_iff,Option.some.injEq,reduceCtorEq] at h
  case nm=>cases hx;exact key _ rfl (by rw[← h];cases neg<;>rfl)
  case mp id =>
   obtain⟨ob,ho,rfl⟩:=h;obtain⟨b,sz,hp,_⟩:=hi.ob _ _ ho;cases hx with
   | mp=>exact key _ rfl (by cases neg<;>rfl)
   | mpd _ _ hn=>rw[hp] at hn;cases hn
def Qj1 (o:UnOp) {v:V} (hx:Rep c vx x) (h:unV o vx=some v):∃ r,(Op.unary o x).run P w=.ok r w∧Rep c v r:=by
 cases vx<;>simp only[unV,reduceCtorEq] at h
 case bo p=>cases hx;cases o<;>simp at h;subst h;exact⟨_,rfl,.bo _⟩
 case i k n =>
  cases hx;cases o<;>simp at h
  ·subst h;exact⟨_,rfl,by rw[show -n=0 - n by omega];exact .i _ _⟩
  ·subst h;exact⟨_,rfl,.i _ _⟩
def QM (h:okT P t=true):0 < P.cellsOf t∧(∃ d,P.underlying t=some d)∧∃ i,P.info? t=some i:=by
 unfold okT at h;simp only[Bool.and_eq_true,decide_eq_true_eq,Option.isSome_iff_exists] at h;obtain⟨h1,d,hd⟩:=h
 exact⟨h1,⟨d,hd⟩,Y5 hd⟩
def Qbi (hl:xs.size=cs.length) (h1:∀ (j:Nat) x,xs[j]?=some x→oneC x=true)
  (h:∀ (j:Nat) v x,cs[j]?=some v→xs[j]?=some x→Rep c v x) (hu:P.underlying t=some d) {off:Nat} {v:V} (hv:prt (isA P t) off (P.cellsOf t) cs=some v) :
  ∃ r,(part t xs off).run P w=.ok r w∧Rep c v r:=by
 obtain⟨i,hi⟩:=Y5 hu;unfold part;simp only[Sem.run_bind,WX P w hu,Result.andThen_ok];unfold prt at hv;split at hv
 ·rename_i ha;split at hv
  ·rename_i hle;simp only[Option.some.injEq] at hv;subst hv;simp only[ha,if_true,Sem.run_bind,run_sizeOf w hi,Result.andThen_ok,Sem.run_pure]
   refine⟨_,rfl,.ag _ _ (by simp;omega) (fun j x hx=>?_) (fun j u x hu hx=>?_)⟩
   ·rw[Array.getElem?_extract] at hx;split at hx
    ·exact h1 _ _ hx
    ·cases hx
   ·rw[Array.getElem?_extract] at hx;simp only[List.getElem?_take,List.getElem?_drop] at hu;split at hx
    ·split at hu
     ·exact h _ _ _ hu hx
     ·cases hu
    ·cases hx
  ·cases hv
 ·rename_i ha;have ha:isA P t=false:=by simpa using ha
  have hlt:off < xs.size:=by
   rw[hl];rcases Nat.lt_or_ge off cs.length with h|h
   ·exact h
   ·rw[List.getElem?_eq_none h] at hv;cases hv
  simp only[ha,Bool.false_eq_true,if_false,Array.getElem?_eq_getElem hlt,Sem.run_pure]
  exact⟨_,rfl,h off v _ hv (Array.getElem?_eq_getElem hlt)⟩
def QcD (hu:P.underlying t=some (.struct fs)) {j:Nat} (hf:fs[j]?=some f) (hok:okT P f.type=true) {v:V} (hx:Rep c vx x)
  (h:fldV f.offset (P.cellsOf f.type) (isA P f.type) vx=some v):∃ r,(Instr.field t x j).run P w=.ok r w∧Rep c v r:=by
 cases vx<;>simp only[fldV,reduceCtorEq] at h;cases hx with
 | ag _ xs hl h1 hx =>
  obtain⟨_,⟨d,hud⟩,_⟩:=QM hok;obtain⟨r,h1,h2⟩:=Qbi w hl h1 hx hud h
  refine⟨r,?_,h2⟩
  unfold Instr.field;simp only[Sem.run_bind,run_underlying hu,Result.andThen_ok,hf,asAgg];exact h1
def WO (hx:Rep c vx x) (h:natV vx=some n):∃ k,x=.int k n:=by
 cases vx<;>simp only[natV,reduceCtorEq] at h;cases hx;split at h
 ·rename_i h0;simp only[Option.some.injEq] at h;subst h
  exact⟨_,by rw[Int.toNat_of_nonneg h0]⟩
 ·cases h
def Ks {e:TypeId} (hu:P.underlying t=some (.array n e)) (hok:okT P e=true) {v:V} (hx:Rep c vx x) (hi:Rep c vi i)
  (h:ixaV n (P.cellsOf e) (isA P e) vx vi=some v):∃ r,(Instr.index t x i).run P w=.ok r w∧Rep c v r:=by
 unfold ixaV at h;split at h
 ·rename_i cs k m;split at h
  ·rename_i hb;cases hi;obtain⟨_,⟨d,hud⟩,j,hj⟩:=QM hok;cases hx with
   | ag _ xs hl h1 hx =>
    obtain⟨r,e1,e2⟩:=Qbi w hl h1 hx hud h
    refine⟨r,?_,e2⟩
    unfold Instr.index;simp only[Sem.run_bind,asIntOf,Sem.run_pure,Result.andThen_ok,run_underlying hu];rw[if_pos hb];simp only[Sem.run_bind,run_sizeOf w hj,Result.andThen_ok];exact e1
  ·cases h
 ·cases h
def Ha (hu:P.underlying t=some .string) {v:V} (hx:Rep c vx x) (hi:Rep c vi i)
  (h:ixsV vx vi=some v):∃ r,(Instr.index t x i).run P w=.ok r w∧Rep c v r:=by
 unfold ixsV at h;split at h
 ·rename_i y k m;split at h
  ·rename_i hb;cases hi;cases hx;simp only[Option.map_eq_some_iff] at h;obtain⟨b,hb',rfl⟩:=h
   refine⟨_,?_,.i _ _⟩
   unfold Instr.index;simp only[Sem.run_bind,asIntOf,Sem.run_pure,Result.andThen_ok,run_underlying hu,if_pos hb,hb']
  ·cases h
 ·cases h
def VP {v:V} (hx:Rep c vx x) {j:Nat} (h:extV j vx=some v):∃ r,(Instr.extract x j).run P w=.ok r w∧Rep c v r:=by
 cases vx<;>simp only[extV,reduceCtorEq] at h;cases hx with
 | tp _ xs hl hx =>
  have hlt:j < xs.size:=by
   rw[hl];rcases Nat.lt_or_ge j _ with h'|h'
   ·exact h'
   ·rw[List.getElem?_eq_none h'] at h;cases h
  refine⟨xs[j],?_,hx j v _ h (Array.getElem?_eq_getElem hlt)⟩
  simp only[Instr.extract,Array.getElem?_eq_getElem hlt,Sem.run_pure]
def Addr.add_mk (b o n:Nat):(Addr.add ⟨b,o,none⟩ n)=⟨b,o+n,none⟩:=by
 unfold Addr.add;split
 ·subst_vars;rfl
 ·rfl
def Addr.add_spot {a:Addr} (h:a.spot=none) (n:Nat):(a.add n).spot=none:=by
 unfold Addr.add;split
 ·exact h
 ·rfl
def Qb9 {off:Nat} {v:V} (hx:Rep c vx x) (h:adrV off vx=some v) :
  ∃ a:Addr,x=.pointer (some a)∧Rep c v (.pointer (some (a.add off))):=by
 cases vx<;>simp only[adrV,Option.some.injEq,reduceCtorEq] at h
 case pt id i j =>
  subst h;cases hx with
  | pt _ _ _ b sz hp hn =>
   refine⟨_,rfl,?_⟩
   rw[Addr.add_mk,Nat.add_assoc];exact .pt _ _ _ _ _ hp hn
  | ptd _ _ _ ad hp hn ha=>exact⟨_,rfl,.ptd _ _ _ _ hp hn (Addr.add_spot ha _)⟩
 case ip cs j =>
  subst h;cases hx with
  | ip _ _ b o hb hd hx h =>
   refine⟨_,rfl,?_⟩
   rw[Addr.add_mk,Nat.add_assoc];exact .ip _ _ _ _ hb hd hx h
def VU (hu:P.underlying t=some (.struct fs)) {j:Nat} (hf:fs[j]?=some f) (hok:okT P f.type=true) {v:V} (hx:Rep c vx x)
  (h:adrV f.offset vx=some v):∃ r,(Instr.fieldAt t x j).run P w=.ok r w∧Rep c v r:=by
 obtain⟨hpos,_,i,hi⟩:=QM hok;obtain⟨a,rfl,hr⟩:=Qb9 hx h
 refine⟨_,?_,hr⟩
 unfold Instr.fieldAt;simp only[Sem.run_bind,run_underlying hu,Result.andThen_ok,hf,Instr.sureAddr,Sem.run_pure,fieldPlace,run_sizeOf w hi];rw[if_neg OM];simp
def Xj {e:TypeId} (hu:P.underlying t=some (.array n e)) (hok:okT P e=true) {v:V} (hx:Rep c vx x) (hi:Rep c vi i)
  (h:ixqV n (P.cellsOf e) vx vi=some v):∃ r,(Instr.indexAt t x i).run P w=.ok r w∧Rep c v r:=by
 unfold ixqV at h;split at h
 ·rename_i k m;split at h
  ·rename_i hb;cases hi;obtain⟨_,_,j,hj⟩:=QM hok;obtain⟨a,rfl,hr⟩:=Qb9 hx h
   refine⟨_,?_,hr⟩
   unfold Instr.indexAt;simp only[Sem.run_bind,asIntOf,Sem.run_pure,Result.andThen_ok,run_underlying hu,Instr.sureAddr];rw[if_pos hb];simp only[Sem.run_bind,run_sizeOf w hj,Result.andThen_ok,Sem.run_pure]
  ·cases h
 ·cases h
def XP {e:TypeId} (hu:P.underlying t=some (.slice e)) (hok:okT P e=true) {v:V} (hx:Rep c vx x) (hi:Rep c vi i)
  (h:ixpV (P.cellsOf e) vx vi=some v):∃ r,(Instr.indexAt t x i).run P w=.ok r w∧Rep c v r:=by
 obtain⟨hpos,_,j,hj⟩:=QM hok;have key:∀ (ad:Addr) (len cap:Nat) (k:IntKind) (m:Int),i=.int k m→x=.slice (some ad) len cap→0≤m∧m < len→Rep c v (.pointer (some (ad.add (m.toNat*P.cellsOf e)))) →
   ∃ r,(Instr.indexAt t x i).run P w=.ok r w∧Rep c v r:=by
  rintro ad len cap k m rfl rfl hb hr
  refine⟨_,?_,hr⟩
  unfold Instr.indexAt;simp only[Sem.run_bind,asIntOf,Sem.run_pure,Result.andThen_ok,run_underlying hu];rw[if_pos hb];simp only[Sem.run_bind,run_sizeOf w hj,Result.andThen_ok,Sem.run_pure]
 unfold ixpV at h;split at h
 ·rename_i id sz' off len k m;split at h
  ·rename_i hb;obtain⟨rfl,h0,h1⟩:=hb;simp only[Option.some.injEq] at h;subst h;cases hi;cases hx with
   | rw0=>omega
   | rw _ _ _ _ b cap hp hn hc hf =>
    refine key _ _ _ _ _ rfl rfl ⟨h0,h1⟩ ?_;rw[Addr.add_mk,← Nat.add_mul,← Nat.add_zero (_*_)];exact .pt _ _ _ _ _ hp hn
   | rwd _ _ _ _ cap a hp hn hc ha =>
    obtain⟨ad,rfl,hs⟩:=ha OM;exact key _ _ _ _ _ rfl rfl ⟨h0,h1⟩ (.ptd _ _ _ _ hp hn (Addr.add_spot hs _))
  ·cases h
 ·rename_i id q j' len k m;split at h
  ·rename_i hb;obtain⟨hsz,h0,h1⟩:=hb;simp only[Option.some.injEq] at h;subst h;cases hi;cases hx with
   | ra0=>omega
   | ra _ _ _ _ b sz cap hp hn hc =>
    refine key _ _ _ _ _ rfl rfl ⟨h0,h1⟩ ?_;rw[Addr.add_mk,hsz,Nat.mul_one,Nat.add_assoc];exact .pt _ _ _ _ _ hp hn
   | rad _ _ _ _ cap a hp hn hc ha =>
    obtain⟨ad,rfl,hs⟩:=ha OM;exact key _ _ _ _ _ rfl rfl ⟨h0,h1⟩ (.ptd _ _ _ _ hp hn (Addr.add_spot hs _))
  ·cases h
 ·rename_i es k m;split at h
  ·rename_i h0;split at h
   ·rename_i cc hcc;split at h
    ·rename_i hl;simp only[Option.some.injEq] at h;subst h;cases hi;have hlt:m.toNat < es.length:=by
      rcases Nat.lt_or_ge m.toNat es.length with h|h
      ·exact h
      ·rw[List.getElem?_eq_none h] at hcc;cases hcc
     cases hx with
     | sl0=>simp at hcc
     | sl _ b off sz n hne hsz hn hb hl' hd hx hh =>
      have hsz':sz=P.cellsOf e:=by rw[← hl,hl' cc (List.mem_of_getElem? hcc)]
      subst hsz';refine key _ _ _ _ _ rfl rfl ⟨h0,OM⟩ ?_;rw[Addr.add_mk,← Nat.add_zero (_+_)];exact .ip _ _ _ _ hb (fun k v hk=>hd m.toNat k cc v hcc hk) (fun k v hk=>hx m.toNat k cc v hcc hk) (fun k v x hk hxx=>hh m.toNat k cc v x hcc hk hxx)
    ·cases h
   ·cases h
  ·cases h
 ·cases h
def QhG {v:V} (hx:Rep c vx x) (h:nckV vx=some v) (o:Oper) (X:Operand) (a:Act) (hop:o.op=.nilCheck X) (hX:a.eval X=x) :
  ∃ r,(execOp a.eval o).run P w=.ok (.value r) w∧Rep c v r:=by
 unfold execOp;rw[hop];simp only[hX];cases vx<;>simp only[nckV,Option.some.injEq,reduceCtorEq] at h<;>subst h<;>cases hx<;>refine⟨_,rfl,?_⟩
 ·exact .pt _ _ _ _ _ (by assumption) (by assumption)
 ·exact .ptd _ _ _ _ (by assumption) (by assumption) (by assumption)
 ·exact .ip _ _ _ _ (by assumption) (by assumption) (by assumption) (by assumption)
 ·exact .fn _ _ _ (by assumption) (by assumption)
def Qds {v:V} (hx:Rep c vx x) (hy:Rep c vy y) (mx:Bool) (h:mxV mx vx vy=some v) :
  ∃ r,(if mx then Builtin.max2 x y else Builtin.min2 x y).run P w=.ok r w∧Rep c v r:=by
 unfold mxV at h;split at h
 ·cases hx;cases hy;simp only[Option.some.injEq] at h;subst h;cases mx
  ·exact⟨_,rfl,by simp only[Bool.false_eq_true,if_false];exact .i _ _⟩
  ·exact⟨_,rfl,by simp only[if_true];exact .i _ _⟩
 ·cases h
def DN (hx:Rep c vx x) (h:lenV vx=some n):(∃ a cap,x=.slice a n cap∧n≤cap)∨(∃ s,x=.string s∧s.size=n):=by
 cases vx<;>simp only[lenV,Option.some.injEq,reduceCtorEq] at h
 case s y=>cases hx;exact .inr ⟨_,rfl,h⟩
 case nil=>subst h;cases hx;exact .inl ⟨_,_,rfl,Nat.le_refl _⟩
 case sl es =>
  subst h;cases hx with
  | sl0=>exact .inl ⟨_,_,rfl,Nat.zero_le _⟩
  | sl _ b off sz n hne hsz hn=>exact .inl ⟨_,_,rfl,hn⟩
 case rw =>
  subst h;cases hx with
  | rw0=>exact .inl ⟨_,_,rfl,Nat.le_refl _⟩
  | rw _ _ _ _ _ _ _ _ hc=>exact .inl ⟨_,_,rfl,hc⟩
  | rwd _ _ _ _ _ _ _ _ hc=>exact .inl ⟨_,_,rfl,hc⟩
 case ra =>
  subst h;cases hx with
  | ra0=>exact .inl ⟨_,_,rfl,Nat.le_refl _⟩
  | ra _ _ _ _ _ _ _ _ _ hc=>exact .inl ⟨_,_,rfl,hc⟩
  | rad _ _ _ _ _ _ _ _ hc=>exact .inl ⟨_,_,rfl,hc⟩
def KL (x:Option Value) (z n:Nat):Prop:=(x=none∧n=z)∨∃ k,x=some (.int k n)
def Jb (hg:GlAt c.heap c.im) (h:∀ t,Rep c (e t) (a.tmps.getD t undef)) {x:Option Operand} (hn:natO e z (x.map cO)=some n):KL (x.map a.eval) z n:=by
 cases x with
 | none=>simp [natO] at hn;exact .inl ⟨rfl,hn.symm⟩
 | some x =>
  simp only[Option.map_some,natO] at hn;obtain⟨k,hk⟩:=WO (YQ hg h x) hn;exact .inr ⟨k,by simp [hk]⟩
def Zr (k:IntKind) (n y:Nat) (code:BoundsCode) (h:n≤y):(Instr.sliceBound (.int k n) y code).run P w=.ok n w:=by
 unfold Instr.sliceBound;simp only[Sem.run_bind,asIntOf,Sem.run_pure,Result.andThen_ok];rw[if_pos OM];simp
def J5 (sl:Bool) (len cap l h m:Nat) (lo hi mx:Option Value) (hlo:KL lo 0 l) (hhi:KL hi len h) (hmx:KL mx cap m) (hh:mx.isSome=true→hi.isSome=true)
  (h1:l≤h) (h2:h≤m) (h3:m≤cap):(Instr.sliceBounds sl len cap lo hi mx).run P w=.ok (l,h,m) w:=by
 unfold Instr.sliceBounds;rcases hmx with⟨rfl,rfl⟩|⟨km,rfl⟩
 ·rcases hhi with⟨rfl,rfl⟩|⟨kh,rfl⟩
  ·rcases hlo with⟨rfl,rfl⟩|⟨kl,rfl⟩
   ·simp
   ·simp [Zr w kl l _ _ h1]
  ·rcases hlo with⟨rfl,rfl⟩|⟨kl,rfl⟩
   ·simp [Zr w kh h _ _ h2]
   ·simp [Zr w kh h _ _ h2,Zr w kl l _ _ h1]
 ·rcases hhi with⟨rfl,rfl⟩|⟨kh,rfl⟩
  ·simp at hh
  ·rcases hlo with⟨rfl,rfl⟩|⟨kl,rfl⟩
   ·simp [Zr w km m _ _ h3,Zr w kh h _ _ h2]
   ·simp [Zr w km m _ _ h3,Zr w kh h _ _ h2,Zr w kl l _ _ h1]
def Kt (hu:P.underlying t=some .string) {lo hi:Option Value} {y:ByteArray} (hlo:KL lo 0 l) (hhi:KL hi y.size h) (h1:l≤h) (h2:h≤y.size) :
  (Instr.sliceAt t (.string y) lo hi none).run P w=.ok (.string (y.extract l h)) w:=by
 unfold Instr.sliceAt;simp only[Sem.run_bind,run_underlying hu,Result.andThen_ok];unfold Instr.slice;simp only[Sem.run_bind,run_underlying hu,Result.andThen_ok];simp only[Option.isSome_none,Bool.false_eq_true,if_false,Sem.run_bind,J5 w false y.size y.size l h y.size lo hi none hlo hhi (.inl ⟨rfl,rfl⟩) SM h1 h2 (Nat.le_refl _),Result.andThen_ok,Sem.run_pure]
def Wr {e:TypeId} (hu:P.underlying t=some (.slice e)) (hok:okT P e=true) {lo hi mx:Option Value} {a:Option Addr} (hlo:KL lo 0 l) (hhi:KL hi len h) (hmx:KL mx cap m)
  (hh:mx.isSome=true→hi.isSome=true) (h1:l≤h) (h2:h≤m) (h3:m≤cap) :
  (Instr.sliceAt t (.slice a len cap) lo hi mx).run P w=.ok (.slice (if m=l then a else a.map (·.add (l*P.cellsOf e))) (h - l) (m - l)) w:=by
 obtain⟨_,_,i,hi'⟩:=QM hok;unfold Instr.sliceAt;simp only[Sem.run_bind,run_underlying hu,Result.andThen_ok];unfold Instr.slice;simp only[Sem.run_bind,run_underlying hu,Result.andThen_ok,J5 w true len cap l h m lo hi mx hlo hhi hmx hh h1 h2 h3,run_sizeOf w hi',Sem.run_pure]
def QgR {v:V} {a:Option Addr} (hpos:0 < sz) (hx:Rep c vx (.slice a len cap)) (hv:cutV sz l h none vx=some v) :
  l≤h∧h≤cap∧Rep c v (.slice (if cap=l then a else a.map (·.add (l*sz))) (h - l) (cap - l)):=by
 cases vx<;>simp only[cutV,reduceCtorEq] at hv
 case nil =>
  split at hv
  ·rename_i hb;obtain⟨rfl,rfl,_⟩:=hb;simp only[Option.some.injEq] at hv;subst hv;cases hx
   exact⟨Nat.le_refl _,Nat.le_refl _,.nil _⟩
  ·cases hv
 case sl es =>
  split at hv
  ·rename_i hb;obtain⟨h1,h2,h3⟩:=hb;simp only[Option.some.injEq] at hv;subst hv;cases hx with
   | sl0 =>
    simp at h2;subst h2
    have:l=0:=by omega
    subst this
    exact⟨Nat.le_refl _,Nat.zero_le _,by simpa using .sl0 _ _⟩
   | sl _ b off sz' n hne hsz hn hb hl hd hx hh =>
    refine⟨h1,OM,?_⟩
    have hsz':sz'=sz:=by
     cases es with
     | nil=>exact absurd rfl hne
     | cons c0 es =>
      have e1:=hl c0 SM;have e2:=List.all_eq_true.1 h3 c0 SM;simp at e2;omega
    subst hsz';by_cases he:l=h
    ·subst he
     have:(es.take l).drop l=[]:=by simp
     rw[this,Nat.sub_self];exact .sl0 _ _
    ·have hc:cap≠l:=by omega
     rw[if_neg hc];simp only[Option.map_some,Addr.add_mk];have hlen:((es.take h).drop l).length=h - l:=by simp;omega
     rw[← hlen];have hget:∀ (j:Nat) e,((es.take h).drop l)[j]?=some e→es[l+j]?=some e:=by
      intro j e hj;simp only[List.getElem?_drop,List.getElem?_take] at hj;split at hj
      ·exact hj
      ·cases hj
     refine .sl _ _ _ _ _ (fun h0=>?_) hpos OM hb (fun e he'=>hl e (List.mem_of_mem_take (List.mem_of_mem_drop he'))) (fun j k e u h1 h2=>hd (l+j) k e u (hget j e h1) h2) (fun j k e u h1 h2=>?_) (fun j k e u x h1 h2 h3=>?_)
     ·rw[h0] at hlen;simp at hlen;omega
     ·have:=hx (l+j) k e u (hget j e h1) h2
      rw[Nat.add_mul,← Nat.add_assoc] at this;exact this
     ·rw[Nat.add_assoc off,← Nat.add_mul] at h3;exact hh (l+j) k e u x (hget j e h1) h2 h3
  ·cases hv
 case rw id sz' off ln =>
  split at hv
  ·rename_i hb;obtain⟨rfl,h1,h2⟩:=hb;simp only[Option.some.injEq] at hv;subst hv;cases hx with
   | rw0 _ _ _ _ hn =>
    have e1:h=0:=by omega
    have e2:l=0:=by omega
    subst e1;subst e2
    exact⟨Nat.le_refl _,Nat.le_refl _,.rw0 _ _ _ _ hn⟩
   | rw _ _ _ _ b _ hp hn hc hf =>
    refine⟨h1,OM,?_⟩
    by_cases he:cap=l
    ·rw[if_pos he];have e1:h - l=0:=by omega
     have e2:cap - l=0:=by omega
     rw[e1,e2];exact .rw0 _ _ _ _ hn
    ·rw[if_neg he];simp only[Option.map_some,Addr.add_mk,← Nat.add_mul];refine .rw _ _ _ _ _ _ hp hn OM ?_;obtain⟨arr,t,g1,g2⟩:=hf
     exact⟨arr,t,g1,by rw[show off+l+(cap - l)=off+cap by omega];exact g2⟩
   | rwd _ _ _ _ _ _ hp hn hc ha =>
    refine⟨h1,OM,?_⟩
    refine .rwd _ _ _ _ _ _ hp hn OM fun hne=>?_;obtain⟨ad,rfl,hs⟩:=ha OM;rw[if_neg OM]
    exact⟨_,rfl,Addr.add_spot hs _⟩
  ·cases hv
def QeH {v:V} {a:Option Addr} (hx:Rep c vx (.slice a len cap)) (hv:cutV sz l h (some m) vx=some v) :
  l=m∧h=m∧m≤cap∧v=.nil:=by
 cases vx<;>simp only[cutV,reduceCtorEq] at hv
 case nil =>
  split at hv
  ·rename_i hb;obtain⟨rfl,rfl,hm⟩:=hb;simp only[Option.some.injEq,false_or] at hv hm;subst hv;subst hm
   exact⟨rfl,rfl,Nat.zero_le _,rfl⟩
  ·cases hv
 case sl es =>
  split at hv
  ·rename_i hb;obtain⟨rfl,rfl,hm⟩:=hb;simp only[Option.some.injEq] at hv;subst hv
   refine⟨rfl,rfl,?_,rfl⟩
   cases hx with
   | sl0=>simp at hm;omega
   | sl _ _ _ _ _ _ _ hn=>omega
  ·cases hv
 case rw =>
  split at hv
  ·rename_i hb;obtain⟨rfl,rfl,hm⟩:=hb;simp only[Option.some.injEq] at hv;subst hv
   refine⟨rfl,rfl,?_,rfl⟩
   cases hx with
   | rw0=>omega
   | rw _ _ _ _ _ _ _ _ hc=>omega
   | rwd _ _ _ _ _ _ _ _ hc=>omega
  ·cases hv
def QgU (hg:GlAt c.heap c.im) (hr:∀ t,Rep c (e t) (a.tmps.getD t undef)) (hu:P.underlying t=some (.slice el)) (hok:okT P el=true)
  {x:Operand} {lo hi mx:Option Operand} (hmx:mx.isSome=true→hi.isSome=true) {v:V} (h:slcV e (P.cellsOf el) (cO x) (lo.map cO) (hi.map cO) (mx.map cO)=some v) :
  ∃ r,(Instr.sliceAt t (a.eval x) (lo.map a.eval) (hi.map a.eval) (mx.map a.eval)).run P w=.ok r w∧Rep c v r:=by
 have hx:=YQ hg hr x;have hpos:=(QM hok).1;unfold slcV at h;cases hn:lenV ((cO x).ev e) with
 | none=>rw[hn] at h;cases h
 | some n =>
  rw[hn] at h;simp only at h;cases hl:natO e 0 (lo.map cO) with
  | none=>simp [hl] at h
  | some l =>
   cases hh:natO e n (hi.map cO) with
   | none=>simp [hl,hh] at h
   | some hv =>
    have bl:=Jb hg hr hl;have bh:=Jb hg hr hh;rw[hl,hh] at h;rcases DN hx hn with⟨ad,cap,hxe,hcap⟩|⟨s,hxe,hs⟩
    ·rw[hxe] at hx;cases mx with
     | none =>
      simp only[Option.map_none] at h;obtain⟨h1,h2,h3⟩:=QgR hpos hx h
      refine⟨_,?_,h3⟩
      rw[hxe];exact Wr w hu hok bl bh (.inl ⟨rfl,rfl⟩) SM h1 h2 (Nat.le_refl _)
     | some m =>
      simp only[Option.map_some] at h;cases hm:natV ((cO m).ev e) with
      | none=>simp [hm] at h
      | some mm =>
       rw[hm] at h;obtain⟨rfl,rfl,h3,rfl⟩:=QeH hx h;obtain⟨k,hk⟩:=WO (YQ hg hr m) hm
       have:=Wr w hu hok (a:=ad) (lo:=lo.map a.eval) (hi:=hi.map a.eval) (mx:=some (a.eval m)) bl bh (.inr ⟨k,by rw[hk]⟩) (by simpa using hmx) (Nat.le_refl _) (Nat.le_refl _) h3
       refine⟨_,by rw[hxe];exact this,?_⟩
       rw[Nat.sub_self];exact .nil _
    ·rw[hxe] at hx;cases hvx:(cO x).ev e<;>rw[hvx] at hx<;>(first|(cases hx;done)|skip)
     ·rw[hvx] at hn;simp [lenV] at hn
     ·rw[hvx] at h;cases mx with
      | none=>simp [cutV] at h
      | some m =>
       simp only[Option.map_some] at h;cases hm:natV ((cO m).ev e)<;>simp [hm,cutV] at h
def QgN (hg:GlAt c.heap c.im) (hr:∀ t,Rep c (e t) (a.tmps.getD t undef)) (hu:P.underlying t=some .string)
  {x:Operand} {lo hi:Option Operand} {v:V} (h:qv e (.sls (cO x) (lo.map cO) (hi.map cO))=some v) :
  ∃ r,(Instr.sliceAt t (a.eval x) (lo.map a.eval) (hi.map a.eval) none).run P w=.ok r w∧Rep c v r:=by
 have hx:=YQ hg hr x;simp only[qv] at h;cases hvx:(cO x).ev e<;>rw[hvx] at h hx<;>simp only[reduceCtorEq] at h;rename_i y;cases hl:natO e 0 (lo.map cO) with
 | none=>simp [hl] at h
 | some l =>
  cases hh:natO e y.size (hi.map cO) with
  | none=>simp [hl,hh] at h
  | some hv =>
   rw[hl,hh] at h;simp only at h;split at h
   ·rename_i hb;simp only[Option.some.injEq] at h;subst h;generalize a.eval x=z at hx;cases hx
    exact⟨_,Kt w hu (Jb hg hr hl) (Jb hg hr hh) hb.1 hb.2,.s _⟩
   ·cases h
def Qht (hg:GlAt c.heap c.im) (hr:∀ t,Rep c (e t) (a.tmps.getD t undef)) (hu:P.underlying t=some (.array n el)) (hel:P.cellsOf el=1)
  {x:Operand} {lo hi:Option Operand} {v:V} (h:qv e (.sla n (cO x) (lo.map cO) (hi.map cO))=some v) :
  ∃ r,(Instr.sliceAt t (a.eval x) (lo.map a.eval) (hi.map a.eval) none).run P w=.ok r w∧Rep c v r:=by
 have hx:=YQ hg hr x;simp only[qv] at h;cases hl:natO e 0 (lo.map cO) with
 | none=>simp [hl] at h
 | some l =>
  cases hh:natO e n (hi.map cO) with
  | none=>simp [hl,hh] at h
  | some hv =>
   rw[hl,hh] at h;simp only at h;obtain⟨i,hi'⟩:∃ i,P.info? el=some i:=by
    unfold Program.cellsOf at hel;cases hq:P.info? el with
    | none=>simp [hq] at hel
    | some i=>exact⟨i,rfl⟩
   have run:∀ ad:Addr,l≤hv→hv≤n→(Instr.sliceAt t (.pointer (some ad)) (lo.map a.eval) (hi.map a.eval) none).run P w =
     .ok (.slice (some (if n=l then ad else ad.add (l*1))) (hv - l) (n - l)) w:=by
    intro ad h1 h2;unfold Instr.sliceAt;simp only[Sem.run_bind,run_underlying hu,Result.andThen_ok,Instr.sureAddr,Sem.run_pure];rw[J5 w false n n l hv n _ _ none (Jb hg hr hl) (Jb hg hr hh) (.inl ⟨rfl,rfl⟩) SM h1 h2 (Nat.le_refl _)];simp only[Result.andThen_ok,run_sizeOf w hi',hel]
   generalize a.eval x=z at hx;cases hvx:(cO x).ev e<;>rw[hvx] at h hx<;>simp only[slaV,reduceCtorEq] at h
   ·rename_i id i j;split at h
    ·rename_i hb;simp only[Option.some.injEq] at h;subst h;cases hx with
     | pt _ _ _ b sz hp hn =>
      refine⟨_,run _ hb.1 hb.2,?_⟩
      by_cases he:n=l
      ·have e1:hv - l=0:=by omega
       have e2:n - l=0:=by omega
       rw[e1,e2];exact .ra0 _ _ _ _ hn
      ·rw[if_neg he,Addr.add_mk,Nat.mul_one,Nat.add_assoc];exact .ra _ _ _ _ _ _ _ hp hn OM
     | ptd _ _ _ ad hp hn ha =>
      refine⟨_,run _ hb.1 hb.2,?_⟩
      refine .rad _ _ _ _ _ _ hp hn OM fun _=>⟨_,rfl,?_⟩;split
      ·exact ha
      ·exact Addr.add_spot ha _
    ·cases h
   ·rename_i cs j;split at h
    ·rename_i hb;obtain⟨b1,b2,b3⟩:=hb;simp only[Option.some.injEq] at h;subst h;cases hx with
     | ip _ _ b off hb hd hx hh' =>
      refine⟨_,run _ b1 b2,?_⟩
      by_cases he:l=hv
      ·subst he;simp only[Nat.sub_self,List.take_zero,List.map_nil];exact .sl0 _ _
      ·have hc:n≠l:=by omega
       rw[if_neg hc,Addr.add_mk,Nat.mul_one];have hlen:(((cs.drop (j+l)).take (hv - l)).map fun v=>[v]).length=hv - l:=by simp;omega
       have hget:∀ (q k:Nat) e u,(((cs.drop (j+l)).take (hv - l)).map fun v=>[v])[q]?=some e→e[k]?=some u→k=0∧cs[j+l+q]?=some u:=by
        intro q k e u h1 h2;simp only[List.getElem?_map,List.getElem?_take,List.getElem?_drop,Option.map_eq_some_iff] at h1;obtain⟨u',h1,rfl⟩:=h1;split at h1
        ·cases k with
         | zero=>simp at h2;subst h2;exact⟨rfl,h1⟩
         | succ k=>simp at h2
        ·cases h1
       suffices hs:Rep c (.sl (((cs.drop (j+l)).take (hv - l)).map fun v=>[v])) (.slice (some ⟨b,off+j+l,none⟩) (((cs.drop (j+l)).take (hv - l)).map fun v=>[v]).length (n - l)) by
        rw[hlen] at hs;exact hs
       refine .sl _ _ _ 1 (n - l) (fun h0=>?_) OM (by rw[hlen];omega) hb (fun e he'=>?_) (fun q k e u h1 h2=>hd _ _ (hget q k e u h1 h2).2) (fun q k e u h1 h2=>?_) (fun q k e u y h1 h2 h3=>?_)
       ·rw[h0] at hlen;simp at hlen;omega
       ·simp only[List.mem_map] at he';obtain⟨_,_,rfl⟩:=he';rfl
       ·obtain⟨rfl,h4⟩:=hget q k e u h1 h2;obtain⟨y,hy,hy1⟩:=hx _ _ h4
        exact⟨y,by rw[← hy];congr 1;omega,hy1⟩
       ·obtain⟨rfl,h4⟩:=hget q k e u h1 h2;refine hh' _ _ _ h4 ?_;rw[← h3];congr 1;omega
    ·cases h
end
def X8:∀ (off:Nat) (vs z:List V),off+vs.length≤z.length→(splice off vs z).length=z.length:=by
 intro off;induction off with
 | zero =>
  intro vs;induction vs with
  | nil=>intro z _;cases z<;>rfl
  | cons v vs ih =>
   intro z h;cases z with
   | nil=>simp at h
   | cons y z=>simp only[splice,List.length_cons];rw[ih z (by simp at h;omega)]
 | succ off ih =>
  intro vs z h;cases z with
  | nil=>simp at h
  | cons y z=>simp only[splice,List.length_cons];rw[ih vs z (by simp at h;omega)]
def Jh:∀ (off:Nat) (vs z:List V),off+vs.length≤z.length→∀ k,(splice off vs z)[k]?=if off≤k∧k < off+vs.length then vs[k - off]? else z[k]?:=by
 intro off;induction off with
 | zero =>
  intro vs;induction vs with
  | nil=>intro z _ k;cases z<;>simp [splice]
  | cons v vs ih =>
   intro z h k;cases z with
   | nil=>simp at h
   | cons y z =>
    simp only[splice];cases k with
    | zero=>simp
    | succ k =>
     simp only[List.getElem?_cons_succ];rw[ih z (by simp at h;omega)];by_cases hk:k < vs.length
     ·rw[if_pos OM,if_pos (by simp;omega)];simp
     ·rw[if_neg OM,if_neg (by simp;omega)]
 | succ off ih =>
  intro vs z h k;cases z with
  | nil=>simp at h
  | cons y z =>
   simp only[splice];cases k with
   | zero=>simp
   | succ k =>
    simp only[List.getElem?_cons_succ];rw[ih vs z (by simp at h;omega)];by_cases hk:off≤k∧k < off+vs.length
    ·rw[if_pos hk,if_pos OM];congr 1;omega
    ·rw[if_neg hk,if_neg OM]
def Xt (off:Nat) (l:List Value) (n:Nat) (cells:Array Value):Array Value :=
 (l.zipIdx n).foldl (fun cs p=>cs.setIfInBounds (off+p.2) p.1) cells
def Kd (off:Nat):∀ (l:List Value) (n:Nat) (cells:Array Value),(Xt off l n cells).size=cells.size:=by
 intro l;induction l with
 | nil=>intro n cells;rfl
 | cons v l ih =>
  intro n cells;show (Xt off l (n+1) (cells.setIfInBounds (off+n) v)).size=_;rw[ih];simp
def XC (off:Nat):∀ (l:List Value) (n:Nat) (cells:Array Value),off+n+l.length≤cells.size →
  ∀ k,(Xt off l n cells)[k]?=if off+n≤k∧k < off+n+l.length then l[k - (off+n)]? else cells[k]?:=by
 intro l;induction l with
 | nil=>intro n cells _ k;rw[if_neg SM];rfl
 | cons v l ih =>
  intro n cells h k;show (Xt off l (n+1) (cells.setIfInBounds (off+n) v))[k]?=_;rw[ih (n+1) _ (by simp at h ⊢;omega)];simp only[List.length_cons] at h ⊢;by_cases h1:off+(n+1)≤k∧k < off+(n+1)+l.length
  ·rw[if_pos h1,if_pos OM];rw[show k - (off+n)=(k - (off+(n+1)))+1 by omega];simp
  ·rw[if_neg h1];by_cases h2:k=off+n
   ·subst h2;rw[if_pos OM,Array.getElem?_setIfInBounds_self_of_lt OM];simp
   ·rw[if_neg OM,Array.getElem?_setIfInBounds_ne OM]
theorem Reps.splice {c:Cx} {z vs:List V} {zc xs:List Value} {off:Nat} (hz:Reps c z zc) (hv:Reps c vs xs) (hle:off+vs.length≤z.length) (cells:Array Value) (hc:cells.toList=zc) :
  Reps c (splice off vs z) (Xt off xs 0 cells).toList:=by
 have e1:=hz.len;have e2:=hv.len;have e3:cells.size=z.length:=by rw[← Array.length_toList,hc,e1]
 refine⟨by simp [Kd,X8 off vs z hle,e3],fun j v x h1 h2=>?_⟩
 rw[Jh off vs z hle] at h1;rw[Array.getElem?_toList,XC off xs 0 cells OM] at h2;by_cases hj:off≤j∧j < off+vs.length
 ·rw[if_pos hj] at h1;rw[if_pos OM] at h2;exact hv.rep (j - off) v x h1 h2
 ·rw[if_neg hj] at h1;rw[if_neg OM,← Array.getElem?_toList,hc] at h2;exact hz.rep j v x h1 h2
def Qid {c:Cx} (hg:GlAt c.heap c.im) (hr:∀ t,Rep c (e t) (a.tmps.getD t undef)) {place:Nat→Option (Nat × Nat)} {l:List (Nat × Nat)} (hp:∀ j x,l[j]?=some x→place j=some x) :
  ∀ (ps:List (Nat × Operand)) (qs:List (Nat × Nat × Od)) (z cs:List V) (zc:Array Value),Vv l ps=some qs→Reps c z zc.toList→(∀ (j:Nat) y,zc[j]?=some y→oneC y=true)→J3 e qs z=some cs →
   ∃ xs,Instr.fill place zc (ps.map fun p=>(p.1,a.eval p.2))=some xs∧Reps c cs xs.toList∧(∀ (j:Nat) y,xs[j]?=some y→oneC y=true):=by
 intro ps;induction ps with
 | nil =>
  intro qs z cs zc hb hz h1 hf;simp only[Vv,Option.some.injEq] at hb;subst hb;simp only[J3,Option.some.injEq] at hf;subst hf
  exact⟨zc,rfl,hz,h1⟩
 | cons p ps ih =>
  obtain⟨j,x⟩:=p;intro qs z cs zc hb hz h1 hf;simp only[Vv] at hb;split at hb
  ·rename_i off sz r hl hbr;split at hb
   ·rename_i hpos;simp only[Option.some.injEq] at hb;subst hb;simp only[J3] at hf;split at hf
    ·rename_i hc;obtain⟨c1,c2⟩:=hc;have hx:=(YQ hg hr x).cells (fun h0=>by rw[h0] at c1;simp at c1;omega);have hsz:(a.eval x).cells.size=sz:=by rw[← Array.length_toList,hx.1.len,c1]
     have hzl:zc.size=z.length:=by rw[← Array.length_toList,hz.len]
     simp only[List.map_cons,Instr.fill,hp j _ hl];rw[if_neg (by simp [hsz];omega)];have ef:(a.eval x).cells.zipIdx.foldl (fun cs (c,j)=>cs.setIfInBounds (off+j) c) zc=Xt off (a.eval x).cells.toList 0 zc:=by
      unfold Xt;rw[← Array.foldl_toList,Array.toList_zipIdx]
     rw[ef];refine ih r _ cs _ hbr (hz.splice hx.1 OM zc rfl) (fun k y hk=>?_) hf;rw[XC off _ 0 zc (by simp [hsz];omega)] at hk;split at hk
     ·rw[Array.getElem?_toList] at hk;exact hx.2.1 _ _ hk
     ·exact h1 _ _ hk
    ·cases hf
   ·cases hb
  ·cases hb
def Yt (c:Cx) {z:List V} (h:Yx P t=some z) (w:World):∃ v,(zeroValue t).run P w=.ok v w∧Reps c z v.cells.toList∧(∀ (j:Nat) y,v.cells[j]?=some y→oneC y=true):=by
 unfold Yx at h;cases hi:P.info? t with
 | none=>simp [hi] at h
 | some i =>
  cases hz:i.zero with
  | none=>simp [hi,hz] at h
  | some v =>
   simp only[hi,hz] at h;split at h
   ·rename_i h1;simp only[Option.some.injEq] at h;subst h
    refine⟨v,?_,⟨SM,fun j u x hu hx=>?_⟩,fun j y hy=>?_⟩
    ·simp [zeroValue,run_typeInfo w hi,hz]
    ·simp only[List.getElem?_map,hx,Option.map_some,Option.some.injEq] at hu;subst hu;exact Vm c x
    ·rw[← Array.getElem?_toList] at hy;exact List.all_eq_true.1 h1 y (List.mem_of_getElem? hy)
   ·cases h
def Xl (w:World):∀ (fs:List Field),(∀ f∈fs,(P.info? f.type).isSome=true) →
  (fs.mapM fun f=>(do pure (f.offset,← sizeOf f.type):Sem (Nat × Nat))).run P w=.ok (fs.map fun f=>(f.offset,P.cellsOf f.type)) w:=by
 intro fs;induction fs with
 | nil=>intro _;rfl
 | cons f fs ih =>
  intro h;obtain⟨i,hi⟩:=Option.isSome_iff_exists.1 (h f SM)
  have:=ih (fun g hg=>h g (by simp [hg]))
  rw[List.mapM_cons];simp only[Sem.run_bind,run_sizeOf w hi,Result.andThen_ok,Sem.run_pure,this,List.map_cons]
section
variable {P:Program} {c:Cx} (w:World)
def HO (hg:GlAt c.heap c.im) (hr:∀ t,Rep c (e t) (a.tmps.getD t undef)) {ps:Array (Nat × Operand)} {z:List V} {l:List (Nat × Nat)} {qs:List (Nat × Nat × Od)} {v:V}
  (hz:Yx P t=some z) (hb:Vv l ps.toList=some qs)
  (ht:(∃ fs,P.underlying t=some (.struct fs)∧l=J1 P fs∧(fs.all fun f=>(P.info? f.type).isSome)=true) ∨
   (∃ n el,P.underlying t=some (.array n el)∧l=(List.range n).map (fun j=>(j*P.cellsOf el,P.cellsOf el))∧okT P el=true))
  (h:(J3 e qs z).map V.ag=some v):∃ r,(Instr.build t (ps.map fun (i,x)=>(i,a.eval x))).run P w=.ok r w∧Rep c v r:=by
 simp only[Option.map_eq_some_iff] at h;obtain⟨cs,hf,rfl⟩:=h;obtain⟨zv,hzr,hz1,hz2⟩:=Yt c hz w;have key:∀ place:Nat→Option (Nat × Nat),(∀ j x,l[j]?=some x→place j=some x)→∃ xs,Instr.fill place zv.cells (ps.map fun (i,x)=>(i,a.eval x)).toList=some xs∧Rep c (.ag cs) (.agg xs):=by
  intro place hp;obtain⟨xs,h1,h2,h3⟩:=Qid hg hr hp ps.toList qs z cs zv.cells hb hz1 hz2 hf
  refine⟨xs,by rw[← h1];simp,.ag _ _ (by rw[← Array.length_toList];exact h2.len) h3 fun j v x hv hx=>h2.rep j v x hv (by rw[Array.getElem?_toList];exact hx)⟩
 rcases ht with⟨fs,hu,rfl,hall⟩|⟨n,el,hu,rfl,hok⟩
 ·obtain⟨xs,h1,h2⟩:=key (fun i=>(fs.map fun f=>(f.offset,P.cellsOf f.type))[i]?) (fun j x hx=>by
   show (fs.map fun f=>(f.offset,P.cellsOf f.type))[j]?=some x;rw[← hx,J1,← Array.toList_map,Array.getElem?_toList])
  refine⟨_,?_,h2⟩
  unfold Instr.build;simp only[Sem.run_bind,hzr,Result.andThen_ok,run_underlying hu];rw[Array.mapM_eq_mapM_toList];simp only[Sem.run_map,Xl w fs.toList (fun f hf=>Array.all_eq_true_iff_forall_mem.1 hall f (Array.mem_toList_iff.1 hf)),Result.andThen_ok];have e1:(fs.toList.map fun f=>(f.offset,P.cellsOf f.type)).toArray=fs.map fun f=>(f.offset,P.cellsOf f.type):=by rw[← Array.toList_map,Array.toArray_toList]
  rw[e1,h1];rfl
 ·obtain⟨_,_,i,hi⟩:=QM hok;obtain⟨xs,h1,h2⟩:=key (fun i=>some (i*P.cellsOf el,P.cellsOf el)) (fun j x hx=>by
   simp only[List.getElem?_map,Option.map_eq_some_iff] at hx;obtain⟨k,hk,rfl⟩:=hx;rw[List.getElem?_range] at hk
   ·cases hk;rfl
   ·rcases Nat.lt_or_ge j n with h|h
    ·exact h
    ·rw[List.getElem?_eq_none (by simpa using h)] at hk;cases hk)
  refine⟨_,?_,h2⟩
  unfold Instr.build;simp only[Sem.run_bind,hzr,Result.andThen_ok,run_underlying hu];have h1':Instr.fill (fun i=>some (i*P.cellsOf el,P.cellsOf el)) zv.cells (Array.map (fun x=>(x.fst,a.eval x.snd)) ps).toList=some xs:=h1;simp only[run_sizeOf w hi,Result.andThen_ok,h1',Sem.run_pure]
end
def v_ok {s:Sem Value} {r:Value} {w w':World} (h:s.run P w=.ok r w'):(do pure (.value (← s)):Sem Next).run P w=.ok (.value r) w':=by
 simp only[Sem.run_bind,h,Result.andThen_ok,Sem.run_pure]
def q_ok {c:Cx} (w:World) (hg:GlAt c.heap c.im) (hr:∀ t,Rep c (e t) (a.tmps.getD t undef)) {im:Bool} {o:Oper} {v:V} (hn:QhY q=false) (hs:cop P im o=.q q) (hv:qv e q=some v) :
  ∃ r,(execOp a.eval o).run P w=.ok (.value r) w∧Rep c v r:=by
 have R:=fun x=>YQ hg hr x;obtain⟨dst,op,type,pos,after,guard⟩:=o;have V1:∀ {s:Sem Value},execOp a.eval ⟨dst,op,type,pos,after,guard⟩=(do pure (.value (← s)))→(∃ r,s.run P w=.ok r w∧Rep c v r) →
   ∃ r,(execOp a.eval ⟨dst,op,type,pos,after,guard⟩).run P w=.ok (.value r) w∧Rep c v r:=by
  intro s he ⟨r,h1,h2⟩
  exact⟨r,by rw[he];exact v_ok h1,h2⟩
 cases op<;>simp only[cop] at hs<;>(first|(cases hs;done)|skip)
 case move x=>cases hs;cases hv;exact⟨_,rfl,R x⟩
 case assign x=>cases hs;cases hv;exact⟨_,rfl,R x⟩
 case pick p x y =>
  cases hs;have hp:=R p;simp only[qv] at hv;cases hc:(cO p).ev e<;>rw[hc] at hv hp<;>(first|(cases hv;done)|skip);rename_i b;generalize hz:a.eval p=z at hp;cases hp;cases b
  ·cases hv;exact⟨a.eval y,by simp [execOp,hz,asBool],R y⟩
  ·cases hv;exact⟨a.eval x,by simp [execOp,hz,asBool],R x⟩
 case alloc t =>
  split at hs
  ·have:=(Zh hs).2;cases this
  ·cases hs
 case build t ps =>
  split at hs
  ·rename_i fs z hu hz;split at hs
   ·rename_i l hl;obtain⟨h1,h2⟩:=Zh hs;cases h2;exact V1 rfl (HO w hg hr hz hl (.inl ⟨fs,hu,rfl,h1⟩) hv)
   ·cases hs
  ·rename_i n el z hu hz;split at hs
   ·rename_i l hl;obtain⟨h1,h2⟩:=Zh hs;cases h2;exact V1 rfl (HO w hg hr hz hl (.inr ⟨n,el,hu,rfl,h1⟩) hv)
   ·cases hs
  ·cases hs
 case buildSlice t n ps =>
  split at hs
  ·split at hs
   ·have:=(Zh hs).2;split at this<;>(first|(cases this;done)|(cases this;cases hn))
   ·cases hs
  ·cases hs
 case load t x=>have:=(Zh hs).2;cases this
 case store t x y=>have:=(Zh hs).2;cases this
 case nilCheck x=>cases hs;exact QhG w (R x) hv _ x a rfl rfl
 case binOp op t x y yt =>
  unfold QdE at hs;split at hs
  ·rename_i hu;cases hs;exact V1 rfl (by have:=Qby (P:=P) w false t x y hu (R x) (R y) hv;exact this)
  ·rename_i hu;cases hs;exact V1 rfl (by have:=Qby (P:=P) w true t x y hu (R x) (R y) hv;exact this)
  ·rename_i hu;split at hs
   ·rename_i ks hl;obtain⟨h1,h2⟩:=Zh hs;cases h2;exact V1 rfl (by have:=KD (P:=P) w false t x y hl (by simp [isA,hu]) (by simpa using h1) (R x) (R y) hv;exact this)
   ·cases hs
  ·rename_i hu;split at hs
   ·rename_i ks hl;obtain⟨h1,h2⟩:=Zh hs;cases h2;exact V1 rfl (by have:=KD (P:=P) w true t x y hl (by simp [isA,hu]) (by simpa using h1) (R x) (R y) hv;exact this)
   ·cases hs
  ·rename_i hu;split at hs
   ·rename_i ks hl;obtain⟨h1,h2⟩:=Zh hs;cases h2;exact V1 rfl (by have:=KD (P:=P) w false t x y hl (by simp [isA,hu]) (by simpa using h1) (R x) (R y) hv;exact this)
   ·cases hs
  ·rename_i hu;split at hs
   ·rename_i ks hl;obtain⟨h1,h2⟩:=Zh hs;cases h2;exact V1 rfl (by have:=KD (P:=P) w true t x y hl (by simp [isA,hu]) (by simpa using h1) (R x) (R y) hv;exact this)
   ·cases hs
  ·have:=(Zh hs).2;cases this
  ·have:=(Zh hs).2;cases this
  ·have:=(Zh hs).2;cases this
  ·have:=(Zh hs).2;cases this
  ·have:=(Zh hs).2;cases this
  ·have:=(Zh hs).2;cases this
  ·cases hs;exact V1 rfl (Qcf w _ t x y (R x) (R y) hv)
  ·cases hs;exact V1 rfl (Qcf w _ t x y (R x) (R y) hv)
  ·cases hs
 case unOp op t x=>cases hs;exact V1 rfl (Qj1 w op (R x) hv)
 case convert s d x =>
  split at hs
  ·rename_i k0 k h1 h2;cases hs;refine V1 rfl ?_;have hx:=R x;simp only[qv] at hv;generalize a.eval x=z at hx;cases hc:(cO x).ev e<;>rw[hc] at hv hx<;>(first|(cases hv;done)|skip);cases hv;cases hx
   exact⟨_,by simp only[convert,Sem.run_bind,run_underlying h1,run_underlying h2,Result.andThen_ok];rfl,.i _ _⟩
  ·cases hs
 case makeFunc fn first cs =>
  cases fn<;>(first|(cases hs;done)|skip);rename_i g;obtain⟨h1,h2⟩:=Zh hs;cases h2;simp only[qv,Option.some.injEq] at hv;subst hv;refine V1 rfl ⟨.func (.func g) (first.map a.eval) (cs.map a.eval),rfl,?_⟩;have hf:first.map a.eval=#[]:=by
   have:first=#[]:=by simpa using h1
   rw[this];simp
  rw[hf];refine .fn _ _ _ SM fun j v x hv hx=>?_;simp only[List.map_map,List.getElem?_map,Option.map_eq_some_iff,Array.getElem?_toList] at hv;obtain⟨y,hy,rfl⟩:=hv;simp only[Array.getElem?_map,hy,Option.map_some,Option.some.injEq] at hx;subst hx;exact R y
 case makeMap t r=>cases r<;>cases hs
 case makeSlice t l cc =>
  split at hs
  ·split at hs
   ·have:=(Zh hs).2;cases this
   ·cases hs
  ·cases hs
 case slice t x lo hi mx =>
  split at hs
  ·rename_i hu;obtain⟨h1,h2⟩:=Zh hs;cases h2;have hm:mx=none:=by simpa using h1
   subst hm;exact V1 rfl (QgN w hg hr hu hv)
  ·rename_i el hu;obtain⟨h1,h2⟩:=Zh hs;cases h2;simp only[Bool.and_eq_true,Bool.or_eq_true] at h1;refine V1 rfl (QgU w hg hr hu h1.1 (fun hm=>?_) hv);rcases h1.2 with h|h
   ·cases mx<;>simp at hm h
   ·exact h
  ·rename_i n el hu;obtain⟨h1,h2⟩:=Zh hs;cases h2;simp only[Bool.and_eq_true,beq_iff_eq] at h1;have hm:mx=none:=by simpa using h1.2
   subst hm;exact V1 rfl (Qht w hg hr hu h1.1 hv)
  ·cases hs
 case fieldAddr t x j =>
  split at hs
  ·rename_i fs hu;split at hs
   ·rename_i f hf;obtain⟨h1,h2⟩:=Zh hs;cases h2;exact V1 rfl (VU w hu hf h1 (R x) hv)
   ·cases hs
  ·cases hs
 case field t x j =>
  split at hs
  ·rename_i fs hu;split at hs
   ·rename_i f hf;obtain⟨h1,h2⟩:=Zh hs;cases h2;exact V1 rfl (QcD w hu hf h1 (R x) hv)
   ·cases hs
  ·cases hs
 case indexAddr t x j =>
  split at hs
  ·rename_i n el hu;obtain⟨h1,h2⟩:=Zh hs;cases h2;exact V1 rfl (Xj w hu h1 (R x) (R j) hv)
  ·rename_i el hu;obtain⟨h1,h2⟩:=Zh hs;cases h2;exact V1 rfl (XP w hu h1 (R x) (R j) hv)
  ·cases hs
 case index t x j =>
  split at hs
  ·rename_i n el hu;obtain⟨h1,h2⟩:=Zh hs;cases h2;exact V1 rfl (Ks w hu h1 (R x) (R j) hv)
  ·rename_i hu;cases hs;exact V1 rfl (Ha w hu (R x) (R j) hv)
  ·cases hs
 case lookup t m k ok =>
  split at hs
  ·split at hs<;>cases hs
  ·cases hs
 case mapUpdate t m k y =>
  split at hs
  ·split at hs<;>cases hs
  ·cases hs
 case mapEntry t m k =>
  split at hs
  ·split at hs<;>cases hs
  ·cases hs
 case range t x=>split at hs<;>cases hs
 case next x b=>cases b<;>cases hs
 case extract x j=>cases hs;exact V1 rfl (VP w (R x) hv)
 case call cc =>
  unfold VX at hs;split at hs
  ·have:=(Zh hs).2;split at this<;>cases this
  ·split at hs<;>cases hs
  ·cases hs
  ·rename_i b hb;have hcall:execOp a.eval ⟨dst,.call cc,type,pos,after,guard⟩ =
     (do let d ← resolve a.eval cc type;invoke d.target d.args):=rfl
   have hres:∀ b',b=b'→(do let d ← resolve a.eval cc type;invoke d.target d.args)=builtin b' cc.argTypes type (cc.args.map fun|.const _=>true|_=>false) (cc.args.map a.eval):=by
    rintro b' rfl;unfold resolve;rw[hb];rfl
   have A1:∀ x:Operand,cc.args.toList=[x]→cc.args.map a.eval=#[a.eval x]:=fun x h=>by
    have ha:cc.args=#[x]:=by rw[← Array.toArray_toList (xs:=cc.args),h]
    rw[ha];simp
   have A2:∀ x y:Operand,cc.args.toList=[x,y]→cc.args.map a.eval=#[a.eval x,a.eval y]:=fun x y h=>by
    have ha:cc.args=#[x,y]:=by rw[← Array.toArray_toList (xs:=cc.args),h]
    rw[ha];simp
   have T1:∀ (t:TypeId) ts,cc.argTypes.toList=t::ts→cc.argTypes[0]?=some t:=fun t ts h=>by rw[← Array.getElem?_toList,h];rfl
   split at hs
   ·
    rename_i x t ts hargs hts;have hL:execOp a.eval ⟨dst,.call cc,type,pos,after,guard⟩=(do pure (.value (← Builtin.len_ cc.argTypes type #[a.eval x]))):=by
     rw[hcall,hres _ rfl,A1 x hargs];rfl
    refine V1 hL ?_;unfold Builtin.len_;simp only[T1 t ts hts];have hx:=R x;generalize a.eval x=z at hx;split at hs
    ·rename_i hu;cases hs;simp only[qv] at hv;cases hc:(cO x).ev e<;>rw[hc] at hv hx<;>(first|(cases hv;done)|skip);cases hv;cases hx
     exact⟨_,by simp only[List.getElem?_toArray,List.getElem?_cons_zero,Sem.run_bind,run_underlying hu,Result.andThen_ok];rfl,.i _ _⟩
    ·rename_i el hu;cases hs;simp only[qv] at hv;have hl:∃ n,lenV ((cO x).ev e)=some n∧v=.i .i64 (n:Nat)∧∀ y,(cO x).ev e≠.s y:=by
      cases hc:(cO x).ev e<;>rw[hc] at hv<;>simp only[JZ,reduceCtorEq,Option.some.injEq] at hv<;>subst hv<;>exact⟨_,rfl,rfl,fun y hy=>by cases hy⟩
     obtain⟨n,hn,rfl,hns⟩:=hl;rcases DN hx hn with⟨ad,cap,rfl,_⟩|⟨s,rfl,_⟩
     ·exact⟨_,by simp only[List.getElem?_toArray,List.getElem?_cons_zero,Sem.run_bind,run_underlying hu,Result.andThen_ok];rfl,.i _ _⟩
     ·cases hc:(cO x).ev e<;>rw[hc] at hx hn<;>(first|(cases hx;done)|skip)
      ·simp [lenV] at hn
      ·exact absurd hc (hns _)
    ·cases hs
    ·rename_i n el hu;cases hs;cases hv
     exact⟨_,by simp only[List.getElem?_toArray,List.getElem?_cons_zero,Sem.run_bind,run_underlying hu,Result.andThen_ok];rfl,.i _ _⟩
    ·rename_i t2 hu;split at hs
     ·rename_i n el hu2;cases hs;cases hv
      exact⟨_,by simp only[List.getElem?_toArray,List.getElem?_cons_zero,Sem.run_bind,run_underlying hu,run_underlying hu2,Result.andThen_ok];rfl,.i _ _⟩
     ·cases hs
    ·cases hs
   ·
    rename_i x t ts hargs hts;have hL:execOp a.eval ⟨dst,.call cc,type,pos,after,guard⟩=(do pure (.value (← Builtin.cap_ cc.argTypes type #[a.eval x]))):=by
     rw[hcall,hres _ rfl,A1 x hargs];rfl
    refine V1 hL ?_;unfold Builtin.cap_;simp only[T1 t ts hts];have hx:=R x;generalize a.eval x=z at hx;split at hs
    ·rename_i el hu;cases hs;simp only[qv] at hv;cases hc:(cO x).ev e<;>rw[hc] at hv hx<;>(first|(cases hv;done)|skip);cases hv;cases hx
     exact⟨_,by simp only[List.getElem?_toArray,List.getElem?_cons_zero,Sem.run_bind,run_underlying hu,Result.andThen_ok];rfl,.i _ _⟩
    ·cases hs
   ·
    split at hs
    ·split at hs
     ·split at hs
      ·have:=(Zh hs).2;cases this
      ·cases hs
     ·have:=(Zh hs).2;cases this
     ·cases hs
    ·cases hs
   ·split at hs
    ·have:=(Zh hs).2;cases this
    ·cases hs
   ·split at hs
    ·split at hs
     ·have:=(Zh hs).2;cases this
     ·cases hs
    ·cases hs
   ·split at hs
    ·split at hs<;>cases hs
    ·cases hs
   ·rename_i x y hargs;cases hs;have hL:execOp a.eval ⟨dst,.call cc,type,pos,after,guard⟩=(do pure (.value (← Builtin.max_ cc.argTypes type #[a.eval x,a.eval y]))):=by
     rw[hcall,hres _ rfl,A2 x y hargs];rfl
    refine V1 hL ?_;obtain⟨r,h1,h2⟩:=Qds (P:=P) w (R x) (R y) true hv
    refine⟨r,?_,h2⟩
    simp only[if_true] at h1;simp [Builtin.max_,h1]
   ·rename_i x y hargs;cases hs;have hL:execOp a.eval ⟨dst,.call cc,type,pos,after,guard⟩=(do pure (.value (← Builtin.min_ cc.argTypes type #[a.eval x,a.eval y]))):=by
     rw[hcall,hres _ rfl,A2 x y hargs];rfl
    refine V1 hL ?_;obtain⟨r,h1,h2⟩:=Qds (P:=P) w (R x) (R y) false hv
    refine⟨r,?_,h2⟩
    simp only[Bool.false_eq_true,if_false] at h1;simp [Builtin.min_,h1]
   ·cases hs
end Go.Proofs.YtklbhcjmaeedhaaGreatDoor
