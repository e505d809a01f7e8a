import Derived.Test.YtklbhcjmaeedhaaGreatDoorMa
import Derived.Deep.AppendSrc
import Derived.Laws.CopyRow
import Derived.Laws.AppendOwn
import Derived.Deep.Upon
import Derived.MapKept
import Derived.Laws.Strings
import Derived.Orders

namespace Go.Proofs.YtklbhcjmaeedhaaGreatDoor
set_option linter.all false
variable {w w':World} {o:O} {x y xm xk xv xx xy:Value} {cs z vc as:List V} {j b clock p m sz s cap len n g dl dc sl sc:Nat} {P:Program} {t kt et tx e' ty el:TypeId} {ks:List Lf} {k k' u:V} {es ys:List (List V)} {d:Addr} {r:Option Nat} {kg draw:Bool} {zs arr xs:Array Value} {K:V→O→Prop} {l vs news:List Value} {e:E} {i:TypeInfo} {a:Act} {cl:Qg} {Y M:Od} {ps:Array (Nat × Operand)} {f:Nat→Stp} {k2:IntKind} {ops:Array Oper} {α:Type}
structure Ot (w w':World):Prop where
 output:w'.output=w.output
 tape:w'.tape=w.tape
 drawn:w.drawn≤w'.drawn
theorem Ot.trans {w w1 w2:World} (h1:Ot w w1) (h2:Ot w1 w2):Ot w w2:=⟨h2.output.trans h1.output,h2.tape.trans h1.tape,Nat.le_trans h1.drawn h2.drawn⟩
def Ot.refl (w:World):Ot w w:=⟨rfl,rfl,Nat.le_refl _⟩
def Ot.le {w1:World} (n:Nat) (h1:w1.output=w.output) (h2:w1.tape=w.tape) (h3:w1.drawn=w.drawn+n):Ot w w1:=⟨h1,h2,by rw[h3];exact Nat.le_add_right _ _⟩
structure Mem (c:Cx) (o:O) (w0 w:World):Prop where
 hp:c.heap=w.heap
 os:w.os=w0.os
 out:Ot w0 w
 inv:Inv c o
def KS (v:Value):oneC v=v.oneCell':=by cases v<;>rfl
theorem cell?_eq (w:World) (b off:Nat):w.cell? ⟨b,off,none⟩=Qo w.heap b off:=by
 unfold World.cell? Qo;cases w.heap[b]? with
 | none=>rfl
 | some o=>cases o<;>rfl
def QcZ {c:Cx} (hi:Inv c o) {vx:V} (hx:Rep c vx x) (h:Qz o vx=some (cs,j)) :
  ∃ b off,x=.pointer (some ⟨b,off+j,none⟩)∧∀ (k:Nat) v,cs[k]?=some v→∃ y,Qo c.heap b (off+k)=some y∧oneC y=true∧Rep c v y:=by
 cases vx<;>simp only[Qz,reduceCtorEq] at h
 case pt id i j' =>
  cases ho:o id with
  | none=>simp [ho] at h
  | some ob =>
   cases ob<;>simp only[ho,reduceCtorEq] at h;rename_i s es;obtain⟨b,sz,hp,h1,h2,h3,arr,t,h4,h5,h6⟩:=hi.ob id _ ho;cases hcs:es[i]? with
   | none=>simp [hcs] at h
   | some cc =>
    simp only[hcs,Option.some.injEq,Prod.mk.injEq] at h;obtain⟨rfl,rfl⟩:=h;cases hx with
    | ptd _ _ _ _ hn=>rw[hp] at hn;cases hn
    | pt _ _ _ b2 sz2 hp2 hn =>
     rw[hp] at hp2;cases hp2
     refine⟨b,i*sz,rfl,fun k v hk=>?_⟩
     obtain⟨y,hy,hy1,hy2⟩:=h6 i k cc v hcs hk
     exact⟨y,by simp only[Qo,h4];exact hy,hy1,hy2⟩
 case ip cs' j' =>
  simp only[Option.some.injEq,Prod.mk.injEq] at h;obtain⟨rfl,rfl⟩:=h;cases hx with
  | ip _ _ b off hb hd hx hh =>
   refine⟨b,off,rfl,fun k v hk=>?_⟩
   obtain⟨y,hy,hy1⟩:=hx k v hk
   exact⟨y,hy,hy1,hh k v y hk hy⟩
def WY {c:Cx} (hp:c.heap=w.heap) (hok:okT P t=true) {off:Nat} (hc:∀ (k:Nat) v,cs[k]?=some v→∃ y,Qo c.heap b (off+k)=some y∧oneC y=true∧Rep c v y) {v:V} (h:prt (isA P t) j (P.cellsOf t) cs=some v) :
  ∃ r,(loadVar t ⟨b,off+j,none⟩).run P w=.ok r w∧Rep c v r:=by
 obtain⟨hpos,⟨d,hu⟩,i,hi⟩:=QM hok;unfold loadVar;simp only[Sem.run_bind,WX P w hu,Result.andThen_ok];unfold prt at h;split at h
 ·rename_i ha;split at h
  ·rename_i hle;simp only[Option.some.injEq] at h;subst h;simp only[ha,if_true,Sem.run_bind,run_sizeOf w hi,Result.andThen_ok];have hget:∀ k,k < P.cellsOf t→∃ v,cs[j+k]?=some v:=fun k hk=>⟨cs[j+k],List.getElem?_eq_getElem OM⟩
   let f:Nat→Value:=fun k=>(Qo c.heap b (off+(j+k))).getD undef
   have hl:=run_loadCells (P:=P) w ⟨b,off+j,none⟩ (P.cellsOf t) f (fun k hk=>by
    obtain⟨v,hv⟩:=hget k hk;obtain⟨y,hy,_,_⟩:=hc _ v hv;rw[Addr.add_mk,cell?_eq,← hp,Nat.add_assoc,hy];simp [f,hy])
   rw[hl];simp only[Result.andThen_ok,Sem.run_pure];have hx:∀ (k:Nat) x,((List.range (P.cellsOf t)).map f).toArray[k]?=some x→k < P.cellsOf t∧x=f k:=by
    intro k x hx;simp only[List.getElem?_toArray,List.getElem?_map,Option.map_eq_some_iff] at hx;obtain⟨m,hm,rfl⟩:=hx;rcases Nat.lt_or_ge k (P.cellsOf t) with hk|hk
    ·rw[List.getElem?_range hk] at hm;cases hm;exact⟨hk,rfl⟩
    ·rw[List.getElem?_eq_none (by simpa using hk)] at hm;cases hm
   refine⟨_,rfl,.ag _ _ (by simp;omega) (fun k x hk=>?_) (fun k u x hu hk=>?_)⟩
   ·obtain⟨hk',rfl⟩:=hx k x hk;obtain⟨v,hv⟩:=hget k hk';obtain⟨y,hy,hy1,_⟩:=hc _ v hv;simp [f,hy,hy1]
   ·obtain⟨hk',rfl⟩:=hx k x hk;simp only[List.getElem?_take,if_pos hk',List.getElem?_drop] at hu;obtain⟨y,hy,hy1,hy2⟩:=hc _ u hu;simp only[f,hy,Option.getD_some];exact hy2
  ·cases h
 ·rename_i ha;have ha:isA P t=false:=by simpa using ha
  obtain⟨y,hy,hy1,hy2⟩:=hc j v h
  refine⟨y,?_,hy2⟩
  rw[ha];simp only[Bool.false_eq_true,if_false,run_load]
  have:w.cell? ⟨b,off+j,none⟩=some y:=by rw[cell?_eq,← hp];exact hy
  rw[this]
def XD {c:Cx} (hi:Inv c o) {id:Nat} (hx:Rep c (.mp id) x) {ents:List (Nat × V × V)} (ho:o id=some (.map ents clock)) :
  ∃ b,x=.map (some b)∧c.ph id=some (b,0)∧RepO c b 0 (.map ents clock):=by
 obtain⟨b,sz,hp,hr⟩:=hi.ob id _ ho;obtain rfl:sz=0:=hr.1;cases hx with
 | mp _ b2 hp2=>rw[hp] at hp2;cases hp2;exact⟨b,rfl,hp,hr⟩
 | mpd _ _ hn=>rw[hp] at hn;cases hn
def QfU (h:lfs P LD t=some ks) (ha:isA P t=false):ks≠[]:=by
 intro h0;have:=YL h ha;rw[h0] at this;simp at this
def Rep.sh {c:Cx} {v:V} (h:Rep c v x) (ha:v.isAg=isA P t) (hne:v.isAg=false→v.cells≠[]):Sh P t x∧Reps c v.cells x.cells.toList:=by
 cases hv:v.isAg with
 | true =>
  cases v<;>simp [V.isAg] at hv;cases h with
  | ag cs xs hl h1 h =>
   refine⟨?_,⟨by simp [Value.cells,V.cells,hl],fun j u y hu hy=>?_⟩⟩
   ·unfold Sh;rw[if_pos (by rw[← ha];rfl)];exact⟨xs,rfl,h1⟩
   ·simp only[V.cells,Value.cells,Array.getElem?_toList] at hu hy;exact h j u y hu hy
 | false =>
  obtain⟨h1,h2,h3,h4⟩:=h.cells (hne hv)
  refine⟨?_,h1⟩
  unfold Sh;rw[if_neg (by rw[← ha,hv];simp)];exact h4 hv
def Qcx {c:Cx} (hl:lfs P LD t=some ks) (hx:Rep c k x) (hy:Rep c k' y) {p:Bool} (h:eqV (isA P t) ks k k'=some p) (w:World) :
  (Op.equal t x y).run P w=.ok p w∧Sh P t x∧x.cells.size=ks.length:=by
 unfold eqV at h;split at h
 ·rename_i hc;have ne:∀ u:V,u.isAg=isA P t→(eqps ks k.cells k'.cells=some p→u=k∨u=k')→u.isAg=false→u.cells≠[]:=by
   intro u hu hor hf h0;have hks:=QfU hl (by rw[← hu];exact hf);rcases hor h with rfl|rfl
   ·rw[h0] at h;cases ks with
    | nil=>exact hks rfl
    | cons=>simp [eqps] at h
   ·rw[h0] at h;cases ks with
    | nil=>exact hks rfl
    | cons=>cases k.cells<;>simp [eqps] at h
  obtain⟨sx,rx⟩:=hx.sh (P:=P) (t:=t) hc.1 (ne k hc.1 (fun _=>.inl rfl));obtain⟨sy,ry⟩:=hy.sh (P:=P) (t:=t) hc.2 (ne k' hc.2 (fun _=>.inr rfl));have hv:=WW rx ry h
  have:=XT (P:=P) LD t ks hl (10000 - LD) w x y p sx sy hv
  refine⟨this,sx,?_⟩
  have:=(JD hv).1
  simpa using this
 ·cases h
def Ents (c:Cx) (ents:List (Nat × V × V)) (es:List MapEntry):Prop :=
 es.length=ents.length∧∀ (j:Nat) en,ents[j]?=some en→∃ x:MapEntry,es[j]?=some x∧x.born=en.1∧Rep c en.2.1 x.key∧Rep c en.2.2 x.val
def Ents.tail {c:Cx} {en:Nat × V × V} {ents:List (Nat × V × V)} {x:MapEntry} {es:List MapEntry} (h:Ents c (en::ents) (x::es)):Ents c ents es :=
 ⟨by have:=h.1;simpa using this,fun j en hj=>by have:=h.2 (j+1) en (by simpa using hj);simpa using this⟩
def KE {c:Cx} (hl:lfs P LD kt=some ks) (hx:Rep c k x) (w:World) :
  ∀ (ents:List (Nat × V × V)) (es:List MapEntry) (i:Nat) (r:Option Nat),Ents c ents es→QN (isA P kt) ks k ents=some r →
   (Instr.findAsking kt x es i).run P w=.ok (r.bind fun j=>(es[j]?).map fun y=>(i+j,y.val)) w:=by
 intro ents;induction ents with
 | nil =>
  intro es i r he hf
  have:es=[]:=List.eq_nil_of_length_eq_zero he.1
  subst this;simp only[QN] at hf;split at hf
  ·cases hf;rfl
  ·cases hf
 | cons en ents ih =>
  intro es i r he hf;obtain⟨st,k',v'⟩:=en;cases es with
  | nil=>have:=he.1;simp at this
  | cons y es =>
   obtain⟨y',hy,hb,hk,hv⟩:=he.2 0 (st,k',v') rfl;simp only[List.getElem?_cons_zero,Option.some.injEq] at hy;subst hy;simp only[QN] at hf;cases hq:eqV (isA P kt) ks k k' with
   | none=>simp [hq] at hf
   | some p =>
    have hrun:=(Qcx hl hx hk hq w).1;simp only[Instr.findAsking,Sem.run_bind,hrun,Result.andThen_ok];rw[hq] at hf;cases p with
    | true =>
     simp only[Option.some.injEq] at hf;subst hf;simp
    | false =>
     simp only at hf;cases hr:QN (isA P kt) ks k ents with
     | none=>simp [hr] at hf
     | some r' =>
      have:=ih es (i+1) r' he.tail hr
      simp only[Bool.false_eq_true,if_false,this];rw[hr] at hf;cases r' with
      | none=>simp only[Option.some.injEq] at hf;subst hf;simp
      | some j =>
       simp only[Option.some.injEq] at hf;subst hf;simp only[Option.bind_some,List.getElem?_cons_succ];congr 2;funext z
       simp;omega
def Qbd {c:Cx} (hl:lfs P LD kt=some ks) {d:TypeDesc} (hu:P.underlying kt=some d) (ha:isA P kt=false) (hx:Rep c k x) :
  ∀ (ents:List (Nat × V × V)) (es:List MapEntry) (i:Nat) (r:Option Nat),Ents c ents es→QN (isA P kt) ks k ents=some r →
   Instr.findNow d x es i=some (r.bind fun j=>(es[j]?).map fun y=>(i+j,y.val)):=by
 intro ents;induction ents with
 | nil =>
  intro es i r he hf
  have:es=[]:=List.eq_nil_of_length_eq_zero he.1
  subst this;simp only[QN] at hf;split at hf
  ·cases hf;rfl
  ·cases hf
 | cons en ents ih =>
  intro es i r he hf;obtain⟨st,k',v'⟩:=en;cases es with
  | nil=>have:=he.1;simp at this
  | cons y es =>
   obtain⟨y',hy,hb,hk,hv⟩:=he.2 0 (st,k',v') rfl;simp only[List.getElem?_cons_zero,Option.some.injEq] at hy;subst hy;simp only[QN] at hf;cases hq:eqV (isA P kt) ks k k' with
   | none=>simp [hq] at hf
   | some p =>
    have same:Instr.sameNow d x y.key=some p:=by
     unfold eqV at hq;split at hq
     ·rename_i hc;rw[ha] at hc;have hks:ks.length=1:=YL hl ha;have ne1:k.cells≠[]:=fun h0=>by rw[h0] at hq;cases ks<;>simp [eqps] at hq hks
      have ne2:k'.cells≠[]:=fun h0=>by rw[h0] at hq;cases ks<;>cases k.cells<;>simp [eqps] at hq hks
      obtain⟨a1,a2,a3,a4⟩:=hx.cells ne1;obtain⟨b1,b2,b3,b4⟩:=hk.cells ne2;have hv:=WW a1 b1 hq;rw[ZS (a4 hc.1),ZS (b4 hc.2)] at hv;cases ks with
      | nil=>simp at hks
      | cons l ks =>
       simp at hks;subst hks;simp only[vEqs] at hv;cases hp:vEq l x y.key with
       | none=>simp [hp] at hv
       | some q =>
        simp [hp] at hv;subst hv;unfold LD at hl;simp only[lfs,hu] at hl;cases d<;>simp [isA,hu] at ha<;>simp at hl
        ·subst hl;obtain⟨p,q,h1,h2,rfl⟩:=QkA hp;rw[h1,h2];rfl
        ·subst hl;obtain⟨p,q,h1,h2,rfl⟩:=QlC hp;rw[h1,h2];simp [Instr.sameNow]
        ·subst hl;obtain⟨p,q,h1,h2,rfl⟩:=Qjz hp;rw[h1,h2];simp only[Instr.sameNow];rw[beq_toListBytes]
     ·cases hq
    simp only[Instr.findNow,same];rw[hq] at hf;cases p with
    | true =>
     simp only[Option.some.injEq] at hf;subst hf;simp
    | false =>
     simp only at hf;cases hr:QN (isA P kt) ks k ents with
     | none=>simp [hr] at hf
     | some r' =>
      have:=ih es (i+1) r' he.tail hr
      simp only[this];rw[hr] at hf;cases r' with
      | none=>simp only[Option.some.injEq] at hf;subst hf;simp
      | some j =>
       simp only[Option.some.injEq] at hf;subst hf;simp only[Option.bind_some,List.getElem?_cons_succ];congr 2;funext z
       simp;omega
def Yl {c:Cx} (hl:lfs P LD kt=some ks) (hx:Rep c k x) (w:World) {ents:List (Nat × V × V)} {es:List MapEntry} (he:Ents c ents es)
  (hf:QN (isA P kt) ks k ents=some r):(Instr.findKey kt x es).run P w=.ok (r.bind fun j=>(es[j]?).map fun y=>(j,y.val)) w:=by
 obtain⟨d,hu⟩:=JQ hl;have ha:=KE hl hx w ents es 0 r he hf;simp only[Nat.zero_add] at ha;unfold Instr.findKey;simp only[Sem.run_bind,run_underlying hu,Result.andThen_ok];cases hn:Instr.findNow d x es 0 with
 | none=>exact ha
 | some q =>
  cases hA:isA P kt with
  | false =>
   have:=Qbd hl hu hA hx ents es 0 r he hf
   simp only[Nat.zero_add] at this;rw[hn] at this;cases this;rfl
  | true =>
   have hes:es=[]:=by
    cases es with
    | nil=>rfl
    | cons y es =>
     unfold isA at hA;rw[hu] at hA;cases d<;>simp at hA<;>simp [Instr.findNow,Instr.sameNow] at hn
   subst hes;simp only[Instr.findNow,Option.some.injEq] at hn;subst hn;cases r<;>rfl
theorem RepO.ents {c:Cx} {b:Nat} {ents:List (Nat × V × V)} {clock:Nat} (h:RepO c b 0 (.map ents clock)):∃ es:Array MapEntry,c.heap[b]?=some (.map es clock)∧Ents c ents es.toList:=by
 obtain⟨_,es,h1,h2,h3,_⟩:=h
 exact⟨es,h1,by rw[Array.length_toList,h2],fun j en hj=>by obtain⟨x,hx,hh⟩:=h3 j en hj;exact⟨x,by rw[Array.getElem?_toList];exact hx,hh⟩⟩
def D3:∀ {ents:List (Nat × V × V)} {j:Nat},QN kg ks k ents=some (some j)→j < ents.length:=by
 intro ents;induction ents with
 | nil=>intro j h;simp only[QN] at h;split at h<;>cases h
 | cons en ents ih =>
  intro j h;obtain⟨st,k',v'⟩:=en;simp only[QN] at h;split at h
  ·cases h;simp
  ·split at h
   ·rename_i hh;cases h;have:=ih hh;simp;omega
   ·cases h
   ·cases h
  ·cases h
def JR {c:Cx} (hl:lfs P LD kt=some ks) (hx:Rep c k x) {ents:List (Nat × V × V)} {es:List MapEntry} (he:Ents c ents es) (hf:QN (isA P kt) ks k ents=some r) (w:World) (em:Bool):(Instr.checkKey em 10000 kt x).run P w=.ok () w:=by
 have key:Sh P kt x→x.cells.size=ks.length→(Instr.checkKey em 10000 kt x).run P w=.ok () w:=by
  intro h1 h2
  have:=VY (P:=P) em LD kt ks hl 9988
  rw[show 9988+LD=10000 by decide] at this;exact this w x h1 h2
 cases ents with
 | nil =>
  simp only[QN] at hf;split at hf
  ·rename_i hc;have ne:k.isAg=false→k.cells≠[]:=by
    intro hf h0
    have:=YL hl (by rw[← hc.1];exact hf)
    rw[h0] at hc;simp at hc;omega
   obtain⟨h1,h2⟩:=hx.sh (P:=P) (t:=kt) hc.1 ne;refine key h1 ?_;rw[← Array.length_toList,h2.len];exact hc.2
  ·cases hf
 | cons en ents =>
  obtain⟨st,k',v'⟩:=en;simp only[QN] at hf;cases es with
  | nil=>have:=he.1;simp at this
  | cons y es =>
   obtain⟨y',hy,hb,hk,hv⟩:=he.2 0 (st,k',v') rfl;cases hq:eqV (isA P kt) ks k k' with
   | none=>simp [hq] at hf
   | some p =>
    obtain⟨_,h1,h2⟩:=Qcx hl hx hk hq w;exact key h1 h2
def HG (c:Cx) {z:V} (h:Qa8 P t=some z) (w:World):∃ v,(zeroValue t).run P w=.ok v w∧Rep c z v:=by
 unfold Qa8 at h;cases hi:P.info? t with
 | none=>simp [hi] at h
 | some i =>
  cases hz:i.zero with
  | none=>simp [hi,hz] at h
  | some v =>
   simp only[hi,hz,Option.some.injEq] at h;subst h
   exact⟨v,by simp [zeroValue,run_typeInfo w hi,hz],QbG c v⟩
def QaS {c:Cx} (w:World) (hp:c.heap=w.heap) (hi:Inv c o) (hu:P.underlying t=some (.map kt et)) (hl:lfs P LD kt=some ks) {z:V} (hz:Qa8 P et=some z)
  {m v:V} (hm:Rep c m xm) (hk:Rep c k xk) (ok:Bool) (h:lkpV o (isA P kt) ks z ok m k=some v):∃ r,(Instr.lookup t xm xk ok).run P w=.ok r w∧Rep c v r:=by
 obtain⟨zv,hzr,hz2⟩:=HG c hz w;unfold lkpV at h;cases m<;>simp only[reduceCtorEq] at h
 case nm =>
  cases hm;cases hf:QN (isA P kt) ks k [] with
  | none=>simp [hf] at h
  | some r =>
   have hE:Ents c [] []:=⟨rfl,fun j en hj=>by simp at hj⟩;have hck:=JR hl hk hE hf w true;have hfk:=Yl hl hk w hE hf;unfold Instr.lookup;have he:((#[]:Array MapEntry)).isEmpty=true:=rfl;simp only[Sem.run_bind,run_underlying hu,Result.andThen_ok,Sem.run_pure,he,hck,hfk];rw[hf] at h;simp only[Option.some.injEq] at h;subst h
   have:(r.bind fun j=>(([]:List MapEntry)[j]?).map fun y=>(j,y.val))=none:=by cases r<;>simp
   simp only[this,Sem.run_bind,hzr,Result.andThen_ok,Sem.run_pure];cases ok
   ·exact⟨_,rfl,hz2⟩
   ·refine⟨_,rfl,.tp _ _ rfl fun j v x hv hx=>?_⟩
    match j with
    | 0=>simp at hv hx;subst hv;subst hx;exact hz2
    | 1=>simp at hv hx;subst hv;subst hx;exact .bo _
    | j+2=>simp at hv
 case mp id =>
  cases ho:o id with
  | none=>simp [ho] at h
  | some ob =>
   cases ob<;>simp only[ho,reduceCtorEq] at h;rename_i ents clock;obtain⟨b,rfl,hph,hrep⟩:=XD hi hm ho;obtain⟨es,hes,hE⟩:=hrep.ents;have hw:w.heap[b]?=some (.map es clock):=by rw[← hp];exact hes
   have hget:(getObj b).run P w=.ok (.map es clock) w:=by simp [getObj,Sem.run,hw]
   cases hf:QN (isA P kt) ks k ents with
   | none=>simp [hf] at h
   | some r =>
    have hck:=JR hl hk hE hf w es.isEmpty;have hfk:=Yl hl hk w hE hf;unfold Instr.lookup;simp only[Sem.run_bind,run_underlying hu,Result.andThen_ok,hget,Sem.run_pure,hck,hfk];rw[hf] at h;cases r with
    | none =>
     simp only[Option.some.injEq] at h;subst h;simp only[Option.bind_none,Sem.run_bind,hzr,Result.andThen_ok,Sem.run_pure];cases ok
     ·exact⟨_,rfl,hz2⟩
     ·refine⟨_,rfl,.tp _ _ rfl fun j v x hv hx=>?_⟩
      match j with
      | 0=>simp at hv hx;subst hv;subst hx;exact hz2
      | 1=>simp at hv hx;subst hv;subst hx;exact .bo _
      | j+2=>simp at hv
    | some j =>
     have hlt:=D3 hf;obtain⟨x,hx,hb,hkx,hvx⟩:=hE.2 j _ (List.getElem?_eq_getElem hlt);simp only[List.getElem?_eq_getElem hlt,Option.map_some,Option.some.injEq] at h;subst h;simp only[Option.bind_some,hx,Option.map_some];cases ok
     ·exact⟨_,rfl,hvx⟩
     ·refine⟨_,rfl,.tp _ _ rfl fun j v x hv hx=>?_⟩
      match j with
      | 0=>simp at hv hx;subst hv;subst hx;exact hvx
      | 1=>simp at hv hx;subst hv;subst hx;exact .bo _
      | j+2=>simp at hv
structure After (c:Cx) (w:World) (c':Cx) (v:V) (o':O) (x:Value) (w':World):Prop where
 ext:Ext c c'
 hp:c'.heap=w'.heap
 os:w'.os=w.os
 out:Ot w w'
 inv:Inv c' o'
 rep:Rep c' v x
def Eff (P:Program) (c:Cx) (w:World) (s:Sem Value) (K:V→O→Prop):Prop :=
 ∃ x w' c' v o',s.run P w=.ok x w'∧After c w c' v o' x w'∧K v o'
def After.same {c:Cx} (hp:c.heap=w.heap) (hi:Inv c o) {v:V} (hr:Rep c v x) (h1:w'.heap=w.heap) (h2:w'.os=w.os) (h3:Ot w w'):After c w c v o x w' :=
 ⟨Ext.refl c,by rw[h1];exact hp,h2,h3,hi,hr⟩
theorem Eff.alloc {P:Program} {c:Cx} {o:O} {w w1:World} (hp:c.heap=w.heap) (hi:Inv c o) {s:Sem Value} {ob:Obj} {sz:Nat} {x:Ob} {f:Nat→V} {val:Nat→Value} {K:V→O→Prop}
  (h1:w1.heap=w.heap) (h2:w1.os=w.os) (h3:Ot w w1)
  (hs:s.run P w=.ok (val w.heap.size) { w1 with heap:=w1.heap.push ob }) (hx:RepO (c.alloc ob sz) c.heap.size sz x) (hv:Rep (c.alloc ob sz) (f c.n) (val c.heap.size))
  (hK:∀ id,o id=none→K (f id) (upd o id (some x))):Eff P c w s K :=
 ⟨_,_,c.alloc ob sz,f c.n,upd o c.n (some x),hs,⟨QT hi ob sz,by simp [Cx.alloc,hp,h1],h2,⟨h3.output,h3.tape,h3.drawn⟩,Qcz hi hx,by rw[← hp];exact hv⟩,hK _ hi.free⟩
def QO (c:Cx) (ob:Obj) (sz:Nat):(c.alloc ob sz).heap[c.heap.size]?=some ob:=by simp [Cx.alloc]
def ZN (c:Cx) (ob:Obj) (sz:Nat):(c.alloc ob sz).ph c.n=some (c.heap.size,sz):=by simp [Cx.alloc,upd]
def Yf (c:Cx) (ob:Obj) (sz:Nat):c.n < (c.alloc ob sz).n:=by simp [Cx.alloc]
def Qbw {c:Cx} (hne:z≠[]) (hz:Reps c z zs.toList) (h1:∀ (j:Nat) y,zs[j]?=some y→oneC y=true) (hb:c.heap[b]?=some (.cells zs t (0,0))):RepO c b z.length (.row z.length [z]):=by
 have hl:zs.size=z.length:=by rw[← Array.length_toList,hz.len]
 refine⟨rfl,List.length_pos_iff.2 hne,SM,zs,t,hb,by simp [hl],fun j k e v he hv=>?_⟩
 cases j with
 | succ j=>simp at he
 | zero =>
  simp at he;subst he;have hk:k < zs.size:=by
   rw[hl];rcases Nat.lt_or_ge k z.length with h|h
   ·exact h
   ·rw[List.getElem?_eq_none h] at hv;cases hv
  refine⟨zs[k],by simp [hk],h1 k _ (Array.getElem?_eq_getElem hk),hz.rep k v _ hv ?_⟩
  rw[Array.getElem?_toList];exact Array.getElem?_eq_getElem hk
section
variable {P:Program} {c:Cx} {o:O} {w:World}
def QcN (hp:c.heap=w.heap) (hi:Inv c o) (hz:Yx P t=some z) (hne:z≠[]) (hK:∀ id,o id=none→K (.pt id 0 0) (upd o id (some (.row z.length [z])))) :
  Eff P c w (Instr.alloc t true (.tuple #[])) K:=by
 obtain⟨zv,h1,h2,h3⟩:=Yt c hz w;refine Eff.alloc (w1:=w) (ob:=.cells zv.cells t) (sz:=z.length) (x:=.row z.length [z]) (f:=fun id=>.pt id 0 0) (val:=fun b=>.pointer (some ⟨b,0,none⟩)) hp hi rfl rfl (⟨rfl,rfl,by first|exact Nat.le_refl _|exact Nat.le_add_right _ _⟩) ?_ ?_ ?_ hK
 ·simp [Instr.alloc,h1,newVar,newRow]
 ·obtain⟨zv',h1',h2',h3'⟩:=Yt (c.alloc (.cells zv.cells t) z.length) hz w;rw[h1] at h1';cases h1';exact Qbw hne h2' h3' (QO _ _ _)
 ·have:=Rep.pt (c:=c.alloc (.cells zv.cells t) z.length) c.n 0 0 _ _ (ZN _ _ _) (Yf _ _ _)
  simpa using this
def QiH (hp:c.heap=w.heap) (hi:Inv c o) {v:V} (hx:Rep c v x) (hne:v.cells≠[]) (hK:∀ id,o id=none→K (.pt id 0 0) (upd o id (some (.row v.cells.length [v.cells])))) :
  Eff P c w (Instr.box t x) K:=by
 obtain⟨h2,h3,_⟩:=hx.cells hne;refine Eff.alloc (w1:=w) (ob:=.cells x.cells t) (sz:=v.cells.length) (x:=.row v.cells.length [v.cells]) (f:=fun id=>.pt id 0 0) (val:=fun b=>.pointer (some ⟨b,0,none⟩)) hp hi rfl rfl (⟨rfl,rfl,by first|exact Nat.le_refl _|exact Nat.le_add_right _ _⟩) ?_ ?_ ?_ hK
 ·simp [Instr.box,newVar,newRow]
 ·exact Qbw hne (h2.ext (QT hi _ _) hi.sep) h3 (QO _ _ _)
 ·have:=Rep.pt (c:=c.alloc (.cells x.cells t) v.cells.length) c.n 0 0 _ _ (ZN _ _ _) (Yf _ _ _)
  simpa using this
def zget (zs:Array Value) (n k:Nat) (hk:k < n) (hz:0 < zs.size):((Array.range n).map (zs[· % zs.size]!))[k]?=some (zs[k % zs.size]'(Nat.mod_lt _ hz)):=by
 have:(Array.range n)[k]?=some k:=by simp [hk]
 rw[Array.getElem?_map,this,Option.map_some,getElem!_pos zs (k % zs.size) (Nat.mod_lt _ hz)]
def Qco {c:Cx} (hne:z≠[]) (hz:Reps c z zs.toList) (h1:∀ (j:Nat) y,zs[j]?=some y→oneC y=true) {l:Nat} (hlm:l≤m)
  (hb:c.heap[b]?=some (.cells ((Array.range (m*z.length)).map (zs[· % zs.size]!)) t (0,0))):RepO c b z.length (.row z.length (List.replicate l z)):=by
 have hl:zs.size=z.length:=by rw[← Array.length_toList,hz.len]
 have hpos:=List.length_pos_iff.2 hne
 refine⟨rfl,hpos,fun e he=>by rw[List.eq_of_mem_replicate he],_,t,hb,by simpa using Nat.mul_le_mul_right _ hlm,fun j k e v he hv=>?_⟩
 obtain⟨hj,rfl⟩:j < l∧e=z:=by
  rcases Nat.lt_or_ge j l with h|h
  ·rw[List.getElem?_replicate_of_lt h] at he;cases he;exact⟨h,rfl⟩
  ·rw[List.getElem?_eq_none (by simpa using h)] at he;cases he
 have hk:k < e.length:=by
  rcases Nat.lt_or_ge k e.length with h|h
  ·exact h
  ·rw[List.getElem?_eq_none h] at hv;cases hv
 have hlt:j*e.length+k < m*e.length:=by
  have:(j+1)*e.length≤m*e.length:=Nat.mul_le_mul_right _ OM
  rw[Nat.add_mul] at this;omega
 have hmod:(j*e.length+k) % zs.size=k:=by
  rw[hl,Nat.mul_comm,Nat.mul_add_mod];exact Nat.mod_eq_of_lt hk
 refine⟨zs[k]'(by omega),?_,h1 k _ (Array.getElem?_eq_getElem _),hz.rep k v _ hv ?_⟩
 ·rw[zget zs _ _ hlt OM];simp only[hmod]
 ·rw[Array.getElem?_toList];exact Array.getElem?_eq_getElem _
def Kx (hp:c.heap=w.heap) (hi:Inv c o) {e:TypeId} (hu:P.underlying t=some (.slice e)) (hok:okT P e=true) (hz:Yx P e=some z) (hzl:z.length=P.cellsOf e) (hbyt:P.bytesOf e≤65536)
  {vl vc:V} {l cc:Nat} {xl xc:Value} (hl:Rep c vl xl) (hl':natV vl=some l) (hc:Rep c vc xc) (hc':natV vc=some cc) (hle:l≤cc) (hsz:Zl cc (P.bytesOf e)) (hK:∀ id,o id=none→K (.rw id (P.cellsOf e) 0 l) (upd o id (some (.row (P.cellsOf e) (List.replicate l z))))):Eff P c w (Instr.makeSlice t xl xc) K:=by
 obtain⟨k1,rfl⟩:=WO hl hl';obtain⟨k2,rfl⟩:=WO hc hc';obtain⟨hpos,⟨d,hud⟩,i,hinf⟩:=QM hok;obtain⟨zv,h1,h2,h3⟩:=Yt c hz w;have hb:P.bytesOf e=i.bytes:=by simp [Program.bytesOf,hinf]
 have hne:z≠[]:=fun h0=>by rw[h0] at hzl;simp at hzl;omega
 obtain⟨s1,s2⟩:=hsz;have wl:∀ n:Nat,n≤2147483648→IntKind.i64.wrap (n:Int)=n:=by
  intro n hn;have h1:((n:Int) % 2 ^ 64)=n:=Int.emod_eq_of_lt OM OM;simp only[IntKind.wrap,IntKind.bits,IntKind.signed];simp only[h1];rw[if_neg];simp;omega
 have hbm:i.bytes*cc≤140737488355328:=by
  have:=Nat.mul_le_mul (show i.bytes≤65536 by omega) s1
  omega
 refine Eff.alloc (w1:=w) (ob:=.cells ((Array.range (cc*P.cellsOf e)).map (zv.cells[· % zv.cells.size]!)) e) (sz:=P.cellsOf e) (x:=.row (P.cellsOf e) (List.replicate l z)) (f:=fun id=>.rw id (P.cellsOf e) 0 l) (val:=fun b=>.slice (some ⟨b,0,none⟩) l cc) hp hi rfl rfl (⟨rfl,rfl,by first|exact Nat.le_refl _|exact Nat.le_add_right _ _⟩) ?_ ?_ ?_ hK
 ·unfold Instr.makeSlice;simp only[Sem.run_bind,run_underlying hu,Result.andThen_ok,asInt,asIntOf,Sem.run_pure,run_typeInfo w hinf,wl l OM,wl cc s1];have t1:∀ n:Nat,n≤cc→(decide ((n:Int) < 0)||decide ((i.bytes:Int)*(n:Int) > 2 ^ 48))=false:=by
   intro n hn
   have:i.bytes*n≤i.bytes*cc:=Nat.mul_le_mul_left _ hn
   simp only[Bool.or_eq_false_iff,decide_eq_false_iff_not]
   refine⟨OM,?_⟩
   have e1:((i.bytes:Int)*(n:Int))=((i.bytes*n:Nat):Int):=by simp
   rw[e1];omega
  have t2:decide ((l:Int) < 0)=false:=by simp
  have t3:decide ((l:Int) > (cc:Int))=false:=by simp;omega
  simp only[t1 cc (Nat.le_refl _),t2,t3,Bool.or_self,Bool.false_eq_true,if_false,Sem.run_bind,run_askRoom,Result.andThen_ok,run_sizeOf w hinf,Int.toNat_natCast];split
  ·rename_i h0
   have:cc=0:=by
    rcases Nat.mul_eq_zero.1 h0 with h|h
    ·exact h
    ·omega
   subst this;have hl0:l=0:=by omega
   subst hl0;have r0:∀ f:Nat→Value,Array.map f (Array.range 0)=#[]:=fun f=>by simp
   simp [newRow,r0]
  ·simp [h1,newRow]
 ·have h4:Reps (c.alloc (.cells ((Array.range (cc*P.cellsOf e)).map (zv.cells[· % zv.cells.size]!)) e) (P.cellsOf e)) z zv.cells.toList:=h2.ext (QT hi _ _) hi.sep
  have:=Qco (b:=c.heap.size) (t:=e) (l:=l) (m:=cc) hne h4 h3 hle (by rw[hzl];exact QO c _ (P.cellsOf e))
  rw[hzl] at this;exact this
 ·have:=Rep.rw (c:=c.alloc (.cells ((Array.range (cc*P.cellsOf e)).map (zv.cells[· % zv.cells.size]!)) e) (P.cellsOf e)) c.n (P.cellsOf e) 0 l _ cc (ZN _ _ _) (Yf _ _ _) hle ⟨_,_,QO _ _ _,by simp [hzl]⟩
  simpa using this
def Vy (hp:c.heap=w.heap) (hi:Inv c o) (hK:∀ id,o id=none→K (.mp id) (upd o id (some (.map [] 0)))):Eff P c w (Instr.makeMap t none) K:=by
 refine Eff.alloc (w1:=w) (ob:=.map #[] 0) (sz:=0) (x:=.map [] 0) (f:=fun id=>.mp id) (val:=fun b=>.map (some b)) hp hi rfl rfl (⟨rfl,rfl,by first|exact Nat.le_refl _|exact Nat.le_add_right _ _⟩) ?_ ?_ ?_ hK
 ·simp [Instr.makeMap]
 ·exact⟨rfl,#[],QO _ _ _,rfl,fun j en hj=>by simp at hj,SM,SM⟩
 ·exact .mp _ _ (ZN _ _ _) (Yf _ _ _)
end
def Cz (c:Cx) (sz:Nat) (es:List (List V)) (l:List Value):Prop :=
 es.length*sz≤l.length∧∀ (j k:Nat) e v,es[j]?=some e→e[k]?=some v→∃ u,l[j*sz+k]?=some u∧oneC u=true∧Rep c v u
def QF {c:Cx}:RepO c b sz (.row s es)↔s=sz∧0 < sz∧(∀ e∈es,e.length=sz)∧∃ arr t,c.heap[b]?=some (.cells arr t (0,0))∧Cz c sz es arr.toList:=by
 constructor
 ·rintro⟨h1,h2,h3,arr,t,h4,h5,h6⟩
  refine⟨h1,h2,h3,arr,t,h4,by simpa using h5,fun j k e v he hv=>?_⟩
  obtain⟨x,hx,hh⟩:=h6 j k e v he hv
  exact⟨x,by rw[Array.getElem?_toList];exact hx,hh⟩
 ·rintro⟨h1,h2,h3,arr,t,h4,h5,h6⟩
  refine⟨h1,h2,h3,arr,t,h4,by simpa using h5,fun j k e v he hv=>?_⟩
  obtain⟨x,hx,hh⟩:=h6 j k e v he hv
  exact⟨x,by rw[← Array.getElem?_toList];exact hx,hh⟩
theorem Cz.ext {c c':Cx} (h:Ext c c') (hs:Sep c) {sz:Nat} {es:List (List V)} {l:List Value} (hz:Cz c sz es l):Cz c' sz es l :=
 ⟨hz.1,fun j k e v he hv=>by obtain⟨u,h1,h2,h3⟩:=hz.2 j k e v he hv;exact⟨u,h1,h2,h3.ext h hs⟩⟩
def Cz.append {c:Cx} {m:List Value} (h1:Cz c sz es l) (hl:l.length=es.length*sz) (h2:Cz c sz ys m):Cz c sz (es++ys) (l++m):=by
 refine⟨by simp [Nat.add_mul];have:=h2.1;omega,fun j k e v he hv=>?_⟩
 rcases Nat.lt_or_ge j es.length with hj|hj
 ·rw[List.getElem?_append_left hj] at he;obtain⟨u,hu,hh⟩:=h1.2 j k e v he hv
  refine⟨u,?_,hh⟩
  rw[List.getElem?_append_left]
  ·exact hu
  ·exact (List.getElem?_eq_some_iff.1 hu).1
 ·rw[List.getElem?_append_right hj] at he;obtain⟨u,hu,hh⟩:=h2.2 _ k e v he hv
  refine⟨u,?_,hh⟩
  have e1:j*sz+k=l.length+((j - es.length)*sz+k):=by
   rw[hl,← Nat.add_assoc,← Nat.add_mul,Nat.add_sub_cancel' hj]
  rw[e1,List.getElem?_append_right OM,Nat.add_sub_cancel_left];exact hu
def Cz.longer {c:Cx} (h:Cz c sz es l) (m:List Value):Cz c sz es (l++m) :=
 ⟨by have:=h.1;simp;omega,fun j k e v he hv=>by
  obtain⟨u,hu,hh⟩:=h.2 j k e v he hv
  exact⟨u,by rw[List.getElem?_append_left (List.getElem?_eq_some_iff.1 hu).1];exact hu,hh⟩⟩
def wr (l vs:List Value) (p:Nat):List Value:=l.take p++vs++l.drop (p+vs.length)
def Xa (h:p+vs.length≤l.length):(wr l vs p).length=l.length:=by
 simp [wr];omega
def Qcv (h:p+vs.length≤l.length) (m:Nat):(wr l vs p)[m]?=if p≤m∧m < p+vs.length then vs[m - p]? else l[m]?:=by
 unfold wr;have e1:(l.take p).length=p:=by simp;omega
 rcases Nat.lt_or_ge m p with hm|hm
 ·rw[if_neg OM,List.append_assoc,List.getElem?_append_left OM,List.getElem?_take_of_lt hm]
 ·rcases Nat.lt_or_ge m (p+vs.length) with hn|hn
  ·rw[if_pos ⟨hm,hn⟩,List.getElem?_append_left (by simp;omega),List.getElem?_append_right OM,e1]
  ·rw[if_neg OM,List.getElem?_append_right (by simp;omega),List.getElem?_drop];congr 1;simp;omega
def ZT {old cs:Array Value} (h:w.heap[b]?=some (.cells old t (0,0))):(w.setRow b cs).heap=w.heap.setIfInBounds b (.cells cs t (0,0)):=by
 apply Array.ext_getElem?;intro i;by_cases hi:i=b
 ·subst hi;rw[setRow_heap w i old cs t _ h,Array.getElem?_setIfInBounds_self_of_lt (Array.getElem?_eq_some_iff.1 h).1]
 ·rw[setRow_other w b i cs hi,Array.getElem?_setIfInBounds_ne (Ne.symm hi)]
def HD {o:Nat} (h:w.heap[b]?=some (.cells arr t (0,0))) (hl:o+vs.length≤arr.size) (h1:∀ v∈vs,oneC v=true) :
  (storeCells ⟨b,o,none⟩ vs).run P w=.ok () (w.setRow b (wr arr.toList vs o).toArray):=by
 have:=run_storeCells_at (P:=P) b o t vs 0 arr w h (by simpa using hl) (fun v hv=>by rw[← KS];exact h1 v hv)
 simpa [wr] using this
def EffU (P:Program) (c:Cx) (w:World) (s:Sem Unit) (K:V→O→Prop):Prop :=
 ∃ w' c' o',s.run P w=.ok () w'∧After c w c' .jk o' undef w'∧K .jk o'
def Cz.store {c:Cx} (h:Cz c sz es l) (hlen:∀ e∈es,e.length=sz) {i:Nat} (hi:es[i]?=some cs) (hj:j+vc.length≤cs.length) (hv:Reps c vc vs) (h1:∀ v∈vs,oneC v=true):i*sz+j+vs.length≤l.length∧Cz c sz (es.set i (splice j vc cs)) (wr l vs (i*sz+j))∧∀ e∈es.set i (splice j vc cs),e.length=sz:=by
 have hcs:=hlen cs (List.mem_of_getElem? hi);have hil:i < es.length:=(List.getElem?_eq_some_iff.1 hi).1;have hvl:=hv.len;have hle:i*sz+j+vs.length≤l.length:=by
  have:(i+1)*sz≤es.length*sz:=Nat.mul_le_mul_right _ hil
  rw[Nat.add_mul] at this
  have:=h.1
  omega
 have hsp:=X8 j vc cs hj
 refine⟨hle,⟨by rw[Xa hle,List.length_set];exact h.1,fun a k e v he hk=>?_⟩,fun e he=>?_⟩
 ·rw[Qcv hle];rw[List.getElem?_set] at he;split at he
  ·rename_i hia;subst hia
   try rw[if_pos hil] at he
   cases he;rw[Jh j vc cs hj] at hk;split at hk
   ·rename_i hc;rw[if_pos OM];have hx:k - j < vs.length:=by omega
    refine⟨vs[k - j],?_,h1 _ (List.getElem_mem _),hv.rep _ v _ hk (List.getElem?_eq_getElem _)⟩
    rw[show i*sz+k - (i*sz+j)=k - j by omega];exact List.getElem?_eq_getElem _
   ·rename_i hc;rw[if_neg OM];exact h.2 i k cs v hi hk
  ·rename_i hia;have hk':k < sz:=by
    rw[← hlen e (List.mem_of_getElem? he)];exact (List.getElem?_eq_some_iff.1 hk).1
   rw[if_neg]
   ·exact h.2 a k e v he hk
   ·rcases Nat.lt_or_gt_of_ne hia with hlt|hgt
    ·have:(i+1)*sz≤a*sz:=Nat.mul_le_mul_right _ hlt
     rw[Nat.add_mul] at this;omega
    ·have:(a+1)*sz≤i*sz:=Nat.mul_le_mul_right _ hgt
     rw[Nat.add_mul] at this;omega
 ·rcases List.mem_or_eq_of_mem_set he with he|he
  ·exact hlen e he
  ·rw[he,hsp];exact hcs
section
variable {P:Program} {c:Cx} {o:O} {w:World}
def QdM (hp:c.heap=w.heap) (hi:Inv c o) (hok:okT P t=true) {id i:Nat} {xa:Value} {vv:V} (ha:Rep c (.pt id i j) xa) (hv:Rep c vv xv) (ho:o id=some (.row s es)) (hcs:es[i]?=some cs)
  (hsz:vv.cells.length=P.cellsOf t) (hj:j+P.cellsOf t≤cs.length) (hK:K .jk (upd o id (some (.row s (es.set i (splice j vv.cells cs)))))):EffU P c w (Instr.storeAt t xa xv) K:=by
 obtain⟨hpos,⟨d,hu⟩,ii,hinf⟩:=QM hok;obtain⟨b,sz,hph,hr⟩:=hi.ob id _ ho;obtain⟨rfl,hs0,hlen,arr,ty,hb,hz⟩:=QF.1 hr;have hne:vv.cells≠[]:=fun h0=>by rw[h0] at hsz;simp at hsz;omega
 obtain⟨h2,h3,_⟩:=hv.cells hne;have hcl:xv.cells.toList.length=vv.cells.length:=h2.len;have h3':∀ v∈xv.cells.toList,oneC v=true:=fun v hm=>by
  obtain⟨k,hk⟩:=List.getElem?_of_mem hm;exact h3 k v (by rw[← Array.getElem?_toList];exact hk)
 obtain⟨q1,q2,q3⟩:=hz.store hlen hcs (by rw[hsz];exact hj) h2 h3';cases ha with
 | ptd _ _ _ _ hn=>rw[hph] at hn;cases hn
 | pt _ _ _ b2 sz2 hp2 hn =>
  rw[hph] at hp2;cases hp2;have hbw:w.heap[b]?=some (.cells arr ty (0,0)):=by rw[← hp];exact hb
  have hst:=HD (P:=P) hbw (o:=i*s+j) (vs:=xv.cells.toList) (by simpa using q1) h3';have hsame:∀ arr1 t1 fz,c.heap[b]?=some (Obj.cells arr1 t1 fz)→∃ arr',Obj.cells (wr arr.toList xv.cells.toList (i*s+j)).toArray ty (0,0)=Obj.cells arr' t1 fz∧arr'.size=arr1.size:=by
   intro arr1 t1 fz h;rw[hb] at h;cases h
   exact⟨_,rfl,by simp [Xa q1]⟩
  have hblt:b < c.heap.size:=(hi.lt _ _ _ hph).2.1
  refine⟨w.setRow b (wr arr.toList xv.cells.toList (i*s+j)).toArray,c.set b (.cells (wr arr.toList xv.cells.toList (i*s+j)).toArray ty (0,0)),_,?_,⟨Zi hi hph hsame,?_,rfl,⟨rfl,rfl,by first|exact Nat.le_refl _|exact Nat.le_add_right _ _⟩,Js hi hph hsame ?_,.jk _⟩,hK⟩
  ·have hsize:¬ (xv.cells.size≠P.cellsOf t):=by
    rw[← Array.length_toList,hcl,hsz];simp
   simp only[Instr.storeAt,Instr.sureAddr,Sem.run_bind,Sem.run_pure,Result.andThen_ok,storeVar,run_sizeOf w hinf,if_neg hsize,hst]
  ·rw[ZT hbw];simp [Cx.set,hp]
  ·refine QF.2 ⟨rfl,hs0,q3,_,ty,by simp only[Cx.set];rw[Array.getElem?_setIfInBounds_self_of_lt hblt],?_⟩;exact Cz.ext (Zi hi hph hsame) hi.sep (by simpa using q2)
end
def Lies (c:Cx) (b off sz:Nat) (ys:List (List V)):Prop :=
 ∀ (j k:Nat) e v,ys[j]?=some e→e[k]?=some v→∃ y,Qo c.heap b (off+(j*sz+k))=some y∧oneC y=true∧Rep c v y
def Lies.list {c:Cx} {off:Nat} (h:Lies c b off sz ys) (hlen:∀ e∈ys,e.length=sz) (hs:0 < sz) :
  ∃ news:List Value,news.length=ys.length*sz∧Cz c sz ys news∧(∀ u∈news,oneC u=true)∧∀ (m:Nat) u,news[m]?=some u→Qo c.heap b (off+m)=some u:=by
 have key:∀ m,m < ys.length*sz→∃ y,Qo c.heap b (off+m)=some y∧oneC y=true:=by
  intro m hm;have hj:m / sz < ys.length:=Nat.div_lt_of_lt_mul (by rw[Nat.mul_comm];exact hm);have he:=hlen _ (List.getElem_mem hj);have hk:m % sz < (ys[m / sz]).length:=by rw[he];exact Nat.mod_lt _ hs
  obtain⟨y,h1,h2,_⟩:=h (m / sz) (m % sz) _ _ (List.getElem?_eq_getElem hj) (List.getElem?_eq_getElem hk);rw[Nat.mul_comm,Nat.div_add_mod] at h1
  exact⟨y,h1,h2⟩
 let f:Nat→Value:=fun m=>(Qo c.heap b (off+m)).getD undef
 have get:∀ m,m < ys.length*sz→((List.range (ys.length*sz)).map f)[m]?=some (f m):=fun m hm=>by simp [hm]
 refine⟨(List.range (ys.length*sz)).map f,SM,⟨SM,fun j k e v he hv=>?_⟩,fun u hu=>?_,fun m u hm=>?_⟩
 ·obtain⟨y,h1,h2,h3⟩:=h j k e v he hv;have hj:=(List.getElem?_eq_some_iff.1 he).1;have hk:=(List.getElem?_eq_some_iff.1 hv).1;rw[hlen e (List.mem_of_getElem? he)] at hk;have hm:j*sz+k < ys.length*sz:=by
   have:(j+1)*sz≤ys.length*sz:=Nat.mul_le_mul_right _ hj
   rw[Nat.add_mul] at this;omega
  exact⟨y,by rw[get _ hm];simp [f,h1],h2,h3⟩
 ·obtain⟨m,hm,rfl⟩:=List.mem_map.1 hu;obtain⟨y,h1,h2⟩:=key m (by simpa using hm);simp [f,h1,h2]
 ·have hlt:m < ys.length*sz:=by
   have:=(List.getElem?_eq_some_iff.1 hm).1
   simpa using this
  rw[get m hlt] at hm;cases hm;obtain⟨y,h1,_⟩:=key m hlt;simp [f,h1]
def Qf4 {c:Cx} (hi:Inv c o) {v:V} (hx:Rep c v x) (h:src o v=some ys) (hlen:∀ e∈ys,e.length=sz) :
  ∃ a cp,x=.slice a ys.length cp∧(ys=[]∨∃ b off,a=some ⟨b,off,none⟩∧Lies c b off sz ys):=by
 cases v<;>simp only[src,reduceCtorEq] at h
 case nil =>
  cases h;cases hx with
  | nil a=>exact⟨a,0,rfl,.inl rfl⟩
 case sl es =>
  cases h;cases hx with
  | sl0 a n=>exact⟨a,n,rfl,.inl rfl⟩
  | sl _ b off sz' n hne hsz hn hb hl hd hx hh =>
   have:sz'=sz:=by
    cases hy:ys with
    | nil=>exact absurd hy hne
    | cons e l=>rw[← hl e (by simp [hy]),← hlen e (by simp [hy])]
   subst this
   refine⟨_,n,rfl,.inr ⟨b,off,rfl,fun j k e v h1 h2=>?_⟩⟩
   obtain⟨y,hy,hy1⟩:=hx j k e v h1 h2;rw[← Nat.add_assoc]
   exact⟨y,hy,hy1,hh j k e v y h1 h2 hy⟩
 case rw id sz' off len =>
  cases ho:o id with
  | none=>simp [ho] at h
  | some ob =>
   cases ob<;>simp only[ho,reduceCtorEq] at h;rename_i s es;split at h
   ·rename_i hle;simp only[Option.some.injEq] at h;subst h;have hl:((es.drop off).take len).length=len:=by simp;omega
    obtain⟨b,sz2,hp,hr⟩:=hi.ob id _ ho;obtain⟨rfl,hs0,hl2,arr,ty,hb,hz⟩:=QF.1 hr;rw[hl];cases hx with
    | rw0 _ _ _ a hn=>exact⟨a,0,rfl,.inl SM⟩
    | rwd _ _ _ _ _ _ hn=>rw[hp] at hn;cases hn
    | rw _ _ _ _ b2 cap hp2 hn hc hf =>
     rw[hp] at hp2;cases hp2
     refine⟨_,cap,rfl,?_⟩
     cases hy:(es.drop off).take len with
     | nil=>exact .inl rfl
     | cons e0 l0 =>
      right
      have hm:e0∈(es.drop off).take len:=by rw[hy];simp
      have hse:sz'=sz:=by rw[← hl2 e0 (List.mem_of_mem_drop (List.mem_of_mem_take hm)),← hlen e0 (by rw[← hy] at *;exact hm)]
      subst hse
      refine⟨b,off*sz',rfl,?_⟩
      rw[← hy];intro j k e v h1 h2;have hj:j < len:=by
       have:=(List.getElem?_eq_some_iff.1 h1).1
       rw[hl] at this;exact this
      rw[List.getElem?_take_of_lt hj,List.getElem?_drop] at h1;obtain⟨u,hu,hh⟩:=hz.2 _ k e v h1 h2
      refine⟨u,?_,hh⟩
      simp only[Qo,hb];rw[← Array.getElem?_toList,← Nat.add_assoc,← Nat.add_mul];exact hu
   ·cases h
 case ra id i j len =>
  cases ho:o id with
  | none=>simp [ho] at h
  | some ob =>
   cases ob<;>simp only[ho,reduceCtorEq] at h;rename_i s es;cases hcs:es[i]? with
   | none=>simp [hcs] at h
   | some cs =>
    simp only[hcs] at h;split at h
    ·rename_i hle;simp only[Option.some.injEq] at h;subst h;have hl:(((cs.drop j).take len).map fun v=>[v]).length=len:=by simp;omega
     obtain⟨b,sz2,hp,hr⟩:=hi.ob id _ ho;obtain⟨rfl,hs0,hl2,arr,ty,hb,hz⟩:=QF.1 hr;rw[hl];cases hx with
     | ra0 _ _ _ a hn=>exact⟨a,0,rfl,.inl SM⟩
     | rad _ _ _ _ _ _ hn=>rw[hp] at hn;cases hn
     | ra _ _ _ _ b2 sz2 cap hp2 hn hc =>
      rw[hp] at hp2;cases hp2
      refine⟨_,cap,rfl,?_⟩
      cases hy:((cs.drop j).take len).map fun v=>[v] with
      | nil=>exact .inl rfl
      | cons e0 l0 =>
       right
       have hse:sz=1:=by
        have hm:e0∈((cs.drop j).take len).map fun v=>[v]:=by rw[hy];simp
        obtain⟨v0,_,rfl⟩:=List.mem_map.1 hm;exact (hlen _ hm).symm
       subst hse
       refine⟨b,i*s+j,rfl,?_⟩
       rw[← hy];intro a k e v h1 h2;have ha:a < len:=by
        have:=(List.getElem?_eq_some_iff.1 h1).1
        rw[hl] at this;exact this
       rw[List.getElem?_map,List.getElem?_take_of_lt ha,List.getElem?_drop] at h1;cases hv:cs[j+a]? with
       | none=>simp [hv] at h1
       | some v1 =>
        simp only[hv,Option.map_some,Option.some.injEq] at h1;subst h1;cases k with
        | succ k=>simp at h2
        | zero =>
         simp at h2;subst h2;obtain⟨u,hu,hh⟩:=hz.2 i (j+a) cs v1 hcs hv
         refine⟨u,?_,hh⟩
         simp only[Qo,hb];rw[← Array.getElem?_toList,show i*s+j+(a*1+0)=i*s+(j+a) by omega];exact hu
    ·cases h
section
variable {P:Program} {c:Cx} {o:O} {w:World}
def Qlb (hp:c.heap=w.heap) (hi:Inv c o) {v:V} (hx:Rep c v x) (h:src o v=some ys) (hs:0 < sz) (hlen:∀ e∈ys,e.length=sz) (hu:P.underlying tx=some (.slice e')) :
  ∃ news,Src P sz tx x ys.length news w∧Cz c sz ys news:=by
 obtain⟨a,cp,rfl,hh⟩:=Qf4 hi hx h hlen;rcases hh with rfl|⟨b,off,rfl,hL⟩
 ·refine⟨[],?_,SM,fun j k e v h=>by simp at h⟩
  cases a with
  | none=>exact Src.ofNil w hu cp
  | some a=>exact Src.ofSlice w hu a 0 cp [] SM (fun j u h=>by simp at h) (fun u h=>by cases h)
 ·obtain⟨news,h1,h2,h3,h4⟩:=hL.list hlen hs
  refine⟨news,Src.ofSlice w hu _ _ cp news h1 (fun j u hj=>?_) (fun u hm=>?_),h2⟩
  ·have:=h4 j u hj
   rw[hp] at this;rw[← cell?_eq] at this;simpa [Addr.add_lit] using this
  ·rw[← KS];exact h3 u hm
def QbR {need byt:Nat} (h:cap < need) (hs:Zl need byt):Builtin.nextslicecap need cap*byt≤281474976710656:=by
 refine growslice_fits h ?_;obtain⟨h1,h2⟩:=hs
 have:=Nat.mul_le_mul h1 h2
 omega
def Qat {c:Cx} (h:Cz c sz es l) (m:Array Value):Cz c sz es (l.toArray++m).toList:=by
 have:=h.longer m.toList
 simpa using this
def Jx {z:Value} (ht:P.underlying t=some (.slice el)) (hinf:P.info? el=some i) (hz:i.zero=some z) {a:Option Addr} {olds:List Value}
  (hold:(Builtin.firstCells i.size len (.slice a len cap)).run P w.drew=.ok olds.toArray w.drew) (hs:Src P i.size tx x n news w) (hg:cap < len+n) (hsz:Zl (len+n) i.bytes) :
  ∃ m,len+n≤m∧(Builtin.append_ #[t,tx] ty #[.slice a len cap,x]).run P w=.ok (.slice (some ⟨w.heap.size,0,none⟩) (len+n) m)
   { w.drew with heap:=w.drew.heap.push (.cells ((olds++news).toArray++Builtin.zeroCells z.cells (m - (len+n))) el) } :=
 ⟨_,grownCap_ge w _ _ _,run_append_grow_src w t tx ty el i z ht hinf hz a len cap olds hold x n news hs hg (by obtain⟨h1,_⟩:=hsz;omega) (QbR hg hsz)⟩
def Yz (h:Yx P el=some z):∃ i zv,P.info? el=some i∧i.zero=some zv∧z=zv.cells.toList.map zV∧zv.cells.toList.all oneC=true:=by
 unfold Yx at h;cases hi:P.info? el with
 | none=>simp [hi] at h
 | some i =>
  cases hz:i.zero with
  | none=>simp [hi,hz] at h
  | some v =>
   simp only[hi,hz] at h;split at h
   ·rename_i hc;cases h
    exact⟨i,v,rfl,hz,rfl,hc⟩
   ·cases h
def DQ (c:Cx) (id sz:Nat) (ob:Obj):(c.grow id sz ob).heap[c.heap.size]?=some ob:=by simp [Cx.grow]
def Qim (c:Cx) (id sz:Nat) (ob:Obj):(c.grow id sz ob).ph c.n=some (c.heap.size,sz):=by simp [Cx.grow,upd]
def QjS (c:Cx) (id sz:Nat) (ob:Obj):c.n < (c.grow id sz ob).n:=by simp [Cx.grow]
theorem Cz.take {c:Cx} {sz:Nat} {es:List (List V)} {l:List Value} (h:Cz c sz es l) (hlen:∀ e∈es,e.length=sz) {len:Nat} (hle:len≤es.length):Cz c sz (es.take len) (l.take (len*sz))∧(l.take (len*sz)).length=len*sz:=by
 have h0:len*sz≤l.length:=Nat.le_trans (Nat.mul_le_mul_right _ hle) h.1;have hl:(l.take (len*sz)).length=len*sz:=by simp [h0]
 refine⟨⟨by rw[hl,List.length_take,Nat.min_eq_left hle];exact Nat.le_refl _,fun j k e v he hv=>?_⟩,hl⟩
 have hj:j < len:=by
  have:=(List.getElem?_eq_some_iff.1 he).1
  simp at this;omega
 rw[List.getElem?_take_of_lt hj] at he;have hk:k < sz:=by
  rw[← hlen e (List.mem_of_getElem? he)];exact (List.getElem?_eq_some_iff.1 hv).1
 have:(j+1)*sz≤len*sz:=Nat.mul_le_mul_right _ hj
 rw[Nat.add_mul] at this;rw[List.getElem?_take_of_lt OM];exact h.2 j k e v he hv
def Cz.room {c:Cx} (h:Cz c sz es l) (hlen:∀ e∈es,e.length=sz) (hle:len≤es.length) (hC:Cz c sz ys news):Cz c sz (es.take len++ys) (wr l news (len*sz)):=by
 obtain⟨h1,h2⟩:=h.take hlen hle;exact (h1.append (by rw[h2,List.length_take,Nat.min_eq_left hle]) hC).longer _
def HF {id:Nat} (hi:Inv c o):upd o id none c.n=none:=by
 simp only[upd];split
 ·rfl
 ·exact hi.free
def QaY {ev:E} {X:Od} (hp:c.heap=w.heap) (hi:Inv c o) (ht:P.underlying t=some (.slice el)) (hu:P.underlying tx=some (.slice e')) (hok:okT P el=true) (hzc:Yx P el=some z) (hzl:z.length=P.cellsOf el) (hx:Rep c (X.ev ev) xx) (hy:Rep c (Y.ev ev) xy) (h:W cl ev o K (.app (P.cellsOf el) (P.bytesOf el) X Y)):Eff P c w (Builtin.append_ #[t,tx] ty #[xx,xy]) K:=by
 obtain⟨i,zv,hinf,hz,hzz,_⟩:=Yz hzc;obtain⟨hs0,_,_,_⟩:=QM hok;have esz:P.cellsOf el=i.size:=by simp [Program.cellsOf,hinf]
 have eby:P.bytesOf el=i.bytes:=by simp [Program.bytesOf,hinf]
 simp only[W] at h;rw[esz] at hs0;rw[esz,eby] at h;have e2:zv.cells.size=i.size:=by rw[← esz,← hzl,hzz];simp
 cases hsrc:src o (Y.ev ev) with
 | none=>simp [hsrc] at h
 | some ys =>
  simp only[hsrc] at h;obtain⟨hlen,h⟩:=h;obtain⟨news,hS,hC⟩:=Qlb hp hi hy hsrc hs0 hlen hu;cases hX:X.ev ev<;>simp only[hX] at h
  case nil =>
   obtain⟨hso,h0,h1⟩:=h;rw[hX] at hx;cases hx with
   | nil a =>
    by_cases hy0:ys=[]
    ·subst hy0;have hn:news=[]:=by have:=hS.newsLen;simpa using this
     subst hn
     refine⟨_,w,c,.nil,o,run_append_nothing w t tx ty el i ht hinf a 0 0 (Nat.le_refl _) xy hS,After.same hp hi (.nil a) rfl rfl (⟨rfl,rfl,by first|exact Nat.le_refl _|exact Nat.le_add_right _ _⟩),h0 rfl⟩
    ·have hpos:0 < ys.length:=List.length_pos_iff.2 hy0;have hold:(Builtin.firstCells i.size 0 (.slice a 0 0)).run P w.drew=.ok ([]:List Value).toArray w.drew:=by
      cases a with
      | none=>exact run_firstCells_none w.drew _ _ _ _
      | some a=>exact run_firstCells_some w.drew _ _ _ _ _ [] SM (fun j v h=>by simp at h)
     obtain⟨m,hm,hrun⟩:=Jx (P:=P) (w:=w) (ty:=ty) ht hinf hz hold hS OM (by simpa using hso);simp only[Nat.zero_add] at hm hrun;refine Eff.alloc (w1:=w.drew) (sz:=i.size) (x:=.row i.size ys) (f:=fun id=>.rw id i.size 0 ys.length) (val:=fun b=>.slice (some ⟨b,0,none⟩) ys.length m) hp hi rfl rfl (⟨rfl,rfl,by first|exact Nat.le_refl _|exact Nat.le_add_right _ _⟩) hrun ?_ ?_ (h1 hy0)
     ·refine QF.2 ⟨rfl,hs0,hlen,_,el,QO _ _ _,?_⟩;exact Qat (Cz.ext (QT hi _ _) hi.sep (by simpa using hC)) _
     ·have:=Rep.rw (c:=c.alloc (.cells (([]++news).toArray++Builtin.zeroCells zv.cells (m - ys.length)) el) i.size) c.n i.size 0 ys.length _ m (ZN _ _ _) (Yf _ _ _) hm ⟨_,_,QO _ _ _,by
       have e1:=hS.newsLen;simp [Builtin.zeroCells,e1,e2,← Nat.add_mul];rw[Nat.add_sub_cancel' hm];exact Nat.le_refl _⟩
      simpa using this
  case rw id sz' off len =>
   obtain⟨rfl,rfl,h⟩:=h;cases ho:o id with
   | none=>simp [ho] at h
   | some ob =>
    cases ob<;>simp only[ho] at h;rename_i s es;obtain⟨hle,hso,h0,h1⟩:=h;obtain⟨b,sz,hph,hr⟩:=hi.ob id _ ho;obtain⟨rfl,hs1,hl2,arr,ty2,hb,hz2⟩:=QF.1 hr;rw[hX] at hx;have grown:∀ (a:Option Addr) (cap:Nat) (olds:List Value),ys≠[]→cap < len+ys.length→xx=.slice a len cap→(∀ e∈es.take len,e.length=i.size)→(Builtin.firstCells i.size len (.slice a len cap)).run P w.drew=.ok olds.toArray w.drew →
      olds.length=len*i.size→Cz c i.size (es.take len) olds→Eff P c w (Builtin.append_ #[t,tx] ty #[xx,xy]) K:=by
     intro a cap olds hy0 hlt hxx hss hold hol hco;subst hxx;obtain⟨m,hm,hrun⟩:=Jx (P:=P) (w:=w) (ty:=ty) ht hinf hz hold hS hlt hso;have hrep:Cz c i.size (es.take len++ys) (olds++news):=hco.append (by rw[hol];simp [Nat.min_eq_left hle]) hC
     refine⟨_,_,c.grow id i.size (.cells ((olds++news).toArray++Builtin.zeroCells zv.cells (m - (len+ys.length))) el),.rw c.n i.size 0 (len+ys.length),_,hrun,⟨WH hi _ _ _,by simp only[Cx.grow,hp];rfl,rfl,⟨rfl,rfl,by first|exact Nat.le_refl _|exact Nat.le_add_right _ _⟩,Qe4 (x:=.row i.size (es.take len++ys)) hi ?_,?_⟩,h1 hy0 _ (HF hi)⟩
     ·refine QF.2 ⟨rfl,hs0,fun e he=>?_,_,el,DQ _ _ _ _,?_⟩
      ·rcases List.mem_append.1 he with he|he
       ·exact hss e he
       ·exact hlen e he
      ·exact Qat (Cz.ext (WH hi _ _ _) hi.sep hrep) _
     ·have:=Rep.rw (c:=c.grow id i.size (.cells ((olds++news).toArray++Builtin.zeroCells zv.cells (m - (len+ys.length))) el)) c.n i.size 0 (len+ys.length) c.heap.size m (Qim _ _ _ _) (QjS _ _ _ _) hm ⟨_,el,DQ _ _ _ _,by
       have e1:=hS.newsLen;simp only[Builtin.zeroCells,Array.size_append,List.size_toArray,List.length_append,Array.size_map,Array.size_range,e1,e2,hol,Nat.zero_add,← Nat.add_mul];rw[Nat.add_sub_cancel' hm];exact Nat.le_refl _⟩
      simpa [← hp] using this
    have nothing:∀ (a:Option Addr) (cap:Nat),ys=[]→len≤cap→xx=.slice a len cap→Rep c (.rw id i.size 0 len) xx→Eff P c w (Builtin.append_ #[t,tx] ty #[xx,xy]) K:=by
     intro a cap hy0 hcap hxx hrx;subst hy0 hxx;have hn:news=[]:=by have:=hS.newsLen;simpa using this
     subst hn
     exact⟨_,w,c,.rw id i.size 0 len,o,run_append_nothing w t tx ty el i ht hinf a len cap hcap xy hS,After.same hp hi hrx rfl rfl (⟨rfl,rfl,by first|exact Nat.le_refl _|exact Nat.le_add_right _ _⟩),h0 rfl⟩
    cases hx with
    | rw0 _ _ _ a hn =>
     by_cases hy0:ys=[]
     ·exact nothing a 0 hy0 (Nat.le_refl _) rfl (.rw0 _ _ _ a hn)
     ·have hpos:0 < ys.length:=List.length_pos_iff.2 hy0;have hold:(Builtin.firstCells i.size 0 (.slice a 0 0)).run P w.drew=.ok ([]:List Value).toArray w.drew:=by
       cases a with
       | none=>exact run_firstCells_none w.drew _ _ _ _
       | some a=>exact run_firstCells_some w.drew _ _ _ _ _ [] SM (fun j v h=>by simp at h)
      exact grown a 0 [] hy0 OM rfl SM hold SM ⟨SM,fun j k e v h=>by simp at h⟩
    | rwd _ _ _ _ _ _ hn=>rw[hph] at hn;cases hn
    | rw _ _ _ _ b2 cap hp2 hn hc hf =>
     rw[hph] at hp2;cases hp2;by_cases hy0:ys=[]
     ·exact nothing _ cap hy0 hc rfl (.rw _ _ _ _ _ _ hph hn hc hf)
     ·have hbw:w.heap[b]?=some (.cells arr ty2 (0,0)):=by rw[← hp];exact hb
      obtain⟨arr1,t1,hb1,hcap⟩:=hf;rw[hb] at hb1;cases hb1;by_cases hroom:len+ys.length≤cap
      ·have hnl:=hS.newsLen;have hle2:len*i.size+news.length≤arr.size:=by
        have:(len+ys.length)*i.size≤cap*i.size:=Nat.mul_le_mul_right _ hroom
        rw[Nat.add_mul,← hnl] at this;rw[Nat.zero_add] at hcap;omega
       have h1c:∀ u∈news,oneC u=true:=fun u hu=>by rw[KS];exact hS.one u hu
       have hst:=HD (P:=P) hbw hle2 h1c;have hwl:(wr arr.toList news (len*i.size)).length=arr.toList.length:=Xa (by simpa using hle2);have hsame:∀ arr1 t1 fz,c.heap[b]?=some (Obj.cells arr1 t1 fz)→∃ arr',Obj.cells (wr arr.toList news (len*i.size)).toArray ty2 (0,0)=Obj.cells arr' t1 fz∧arr'.size=arr1.size:=by
        intro arr1 t1 fz h;rw[hb] at h;cases h
        exact⟨_,rfl,by simp [hwl]⟩
       have hblt:b < c.heap.size:=(hi.lt _ _ _ hph).2.1;have hget:(c.move id b i.size (.cells (wr arr.toList news (len*i.size)).toArray ty2 (0,0))).heap[b]?=some (.cells (wr arr.toList news (len*i.size)).toArray ty2 (0,0)):=by
        simp only[Cx.move];rw[Array.getElem?_setIfInBounds_self_of_lt hblt]
       refine⟨.slice (some ⟨b,0*i.size,none⟩) (len+ys.length) cap,w.setRow b (wr arr.toList news (len*i.size)).toArray,c.move id b i.size (.cells (wr arr.toList news (len*i.size)).toArray ty2 (0,0)),.rw c.n i.size 0 (len+ys.length),_,?_,
        ⟨WR hi hph hsame,by rw[ZT hbw];simp only[Cx.move,hp],rfl,⟨rfl,rfl,by first|exact Nat.le_refl _|exact Nat.le_add_right _ _⟩,Qd9 (x:=.row i.size (es.take len++ys)) hi hph hsame ?_,?_⟩,h1 hy0 _ (HF hi)⟩
       ·rcases hS.kind with⟨e',hk⟩|hk<;>simp [Builtin.append_,run_underlying ht,run_underlying hk,sizeOf,typeInfo,hinf,hS.len,hroom,hS.cells,Addr.add_lit,hst]
       ·refine QF.2 ⟨rfl,hs0,fun e he=>?_,_,ty2,hget,?_⟩
        ·rcases List.mem_append.1 he with he|he
         ·exact hl2 e (List.mem_of_mem_take he)
         ·exact hlen e he
        ·exact Cz.ext (WR hi hph hsame) hi.sep (by simpa using hz2.room hl2 hle hC)
       ·refine .rw _ _ _ _ _ _ (by simp [Cx.move,upd]) (by simp [Cx.move]) hroom ⟨_,_,hget,?_⟩;rw[List.size_toArray,hwl];simpa using hcap
      ·have hL:Lies c b 0 i.size (es.take len):=by
        intro j k e v h1 h2;have hj:j < len:=by
         have:=(List.getElem?_eq_some_iff.1 h1).1
         simp at this;omega
        rw[List.getElem?_take_of_lt hj] at h1;obtain⟨u,hu,hh⟩:=hz2.2 _ k e v h1 h2
        refine⟨u,?_,hh⟩
        simp only[Qo,hb];rw[← Array.getElem?_toList,Nat.zero_add];exact hu
       obtain⟨olds,q1,q2,q3,q4⟩:=hL.list (fun e he=>hl2 e (List.mem_of_mem_take he)) hs0;rw[List.length_take,Nat.min_eq_left hle] at q1;refine grown _ cap olds hy0 OM rfl (fun e he=>hl2 e (List.mem_of_mem_take he)) ?_ q1 q2;refine run_firstCells_some w.drew _ _ _ _ _ olds q1 (fun j u hj=>?_)
       have:=q4 j u hj
       rw[hp,← cell?_eq] at this;simpa [Addr.add_lit] using this
end
def Qee (h:p+vs.length≤arr.size):(Xt p vs 0 arr).toList=wr arr.toList vs p:=by
 apply List.ext_getElem?;intro k;rw[Array.getElem?_toList,XC p vs 0 arr OM,Qcv (by simpa using h),Array.getElem?_toList];simp
def Wb (h:vc.length=cs.length):splice 0 vc cs=vc:=by
 apply List.ext_getElem?;intro k;rw[Jh 0 vc cs OM];split
 ·simp
 ·rw[List.getElem?_eq_none OM,List.getElem?_eq_none OM]
def Da {c:Cx} (hg:GlAt c.heap c.im) (hr:∀ t,Rep c (e t) (a.tmps.getD t undef)) (hs:0 < sz) :
  ∀ (ps:List (Nat × Operand)) (es rs:List (List V)) (arr:Array Value),Cz c sz es arr.toList→(∀ x∈es,x.length=sz)→Yd e sz (ps.map fun p=>(p.1,cO p.2)) es=some rs →
   ∃ xs,Instr.fill (fun i=>some (i*sz,sz)) arr (ps.map fun p=>(p.1,a.eval p.2))=some xs∧Cz c sz rs xs.toList∧(∀ x∈rs,x.length=sz)∧rs.length=es.length∧xs.size=arr.size:=by
 intro ps;induction ps with
 | nil =>
  intro es rs arr hz hl h;simp only[List.map_nil,Yd,Option.some.injEq] at h;subst h
  exact⟨arr,rfl,hz,hl,rfl,rfl⟩
 | cons p ps ih =>
  obtain⟨i,x⟩:=p;intro es rs arr hz hl h;simp only[List.map_cons,Yd] at h;split at h
  ·rename_i hc;obtain⟨c1,c2⟩:=hc;obtain⟨h2,h3,_⟩:=(YQ hg hr x).cells (fun h0=>by rw[h0] at c1;simp at c1;omega);have h3':∀ v∈(a.eval x).cells.toList,oneC v=true:=fun v hm=>by
    obtain⟨k,hk⟩:=List.getElem?_of_mem hm;exact h3 k v (by rw[← Array.getElem?_toList];exact hk)
   have hcs:=hl _ (List.getElem_mem c2);have hsz:(a.eval x).cells.size=sz:=by rw[← Array.length_toList,h2.len,c1]
   obtain⟨q1,q2,q3⟩:=hz.store hl (List.getElem?_eq_getElem c2) (j:=0) (by rw[c1,hcs];omega) h2 h3';rw[Wb (by rw[c1,hcs])] at q2 q3;simp only[Nat.add_zero] at q1 q2;have q1':i*sz+sz≤arr.size:=by simpa [hsz] using q1
   simp only[List.map_cons,Instr.fill];rw[if_neg (by simp [hsz];omega)];have ef:(a.eval x).cells.zipIdx.foldl (fun cs (c,j)=>cs.setIfInBounds (i*sz+j) c) arr=Xt (i*sz) (a.eval x).cells.toList 0 arr:=by
    unfold Xt;rw[← Array.foldl_toList,Array.toList_zipIdx]
   rw[ef];obtain⟨xs,r1,r2,r3,r4,r5⟩:=ih _ rs (Xt (i*sz) (a.eval x).cells.toList 0 arr) (by rw[Qee (by simpa using q1)];exact q2) q3 h
   exact⟨xs,r1,r2,r3,by rw[r4];simp,by rw[r5,Kd]⟩
  ·cases h
def KT {c:Cx} (hne:z≠[]) (hz:Reps c z zs.toList) (h1:∀ (j:Nat) y,zs[j]?=some y→oneC y=true) {l:Nat} (hlm:l≤m) :
  Cz c z.length (List.replicate l z) ((Array.range (m*z.length)).map (zs[· % zs.size]!)).toList:=by
 have hl:zs.size=z.length:=by rw[← Array.length_toList,hz.len]
 have hpos:=List.length_pos_iff.2 hne
 refine⟨by simpa using Nat.mul_le_mul_right _ hlm,fun j k e v he hv=>?_⟩
 obtain⟨hj,rfl⟩:j < l∧e=z:=by
  rcases Nat.lt_or_ge j l with h|h
  ·rw[List.getElem?_replicate_of_lt h] at he;cases he;exact⟨h,rfl⟩
  ·rw[List.getElem?_eq_none (by simpa using h)] at he;cases he
 have hk:k < e.length:=by
  rcases Nat.lt_or_ge k e.length with h|h
  ·exact h
  ·rw[List.getElem?_eq_none h] at hv;cases hv
 have hlt:j*e.length+k < m*e.length:=by
  have:(j+1)*e.length≤m*e.length:=Nat.mul_le_mul_right _ OM
  rw[Nat.add_mul] at this;omega
 have hmod:(j*e.length+k) % zs.size=k:=by
  rw[hl,Nat.mul_comm,Nat.mul_add_mod];exact Nat.mod_eq_of_lt hk
 refine⟨zs[k]'(by omega),?_,h1 k _ (Array.getElem?_eq_getElem _),hz.rep k v _ hv ?_⟩
 ·rw[Array.getElem?_toList,zget zs _ _ hlt OM];simp only[hmod]
 ·rw[Array.getElem?_toList];exact Array.getElem?_eq_getElem _
def Cx.junk (c:Cx) (ob:Obj):Cx:={ c with heap:=c.heap.push ob }
def JP {c:Cx} (h:Inv c o) (ob:Obj):Ext c (c.junk ob) where
 size:=(QT h ob 0).size
 keep:=(QT h ob 0).keep
 shape:=(QT h ob 0).shape
 im _ hb:=hb
 imn _ _ hb:=.inl hb
 ph _ _ hp:=.inl hp
 phn _ _ _ hp:=.inl hp
 n:=Nat.le_refl _
def KH {c:Cx} (h:Inv c o) (ob:Obj):Inv (c.junk ob) o where
 dom:=h.dom
 ob id x ho:=by
  obtain⟨b,sz,hp,hr⟩:=h.ob id x ho
  refine⟨b,sz,hp,hr.ext (JP h ob) h.sep ?_⟩
  have hb:=(h.lt _ _ _ hp).2.1;simp only[Cx.junk];rw[Array.getElem?_push_lt hb,Array.getElem?_eq_getElem hb]
 lt id b sz hp:=by
  obtain⟨h1,h2,h3⟩:=h.lt id b sz hp
  exact⟨h1,by simp only[Cx.junk,Array.size_push];omega,h3⟩
 inj:=h.inj
 im b hb:=by
  have:=h.im b hb
  simp only[Cx.junk,Array.size_push];omega
 gl:=h.gl.ext (JP h ob) h.sep
section
variable {P:Program} {c:Cx} {o:O} {w:World}
def XL {ev:E} (hr:∀ t,Rep c (ev t) (a.tmps.getD t undef)) (hp:c.heap=w.heap) (hi:Inv c o) (ht:P.underlying t=some (.slice el)) (hok:okT P el=true) (hzc:Yx P el=some z) (hzl:z.length=P.cellsOf el) (hn:n*P.cellsOf el≤16777216) (hps:n=0→ps.toList=[]) (h:W cl ev o K (.bsl (P.cellsOf el) n z (ps.toList.map fun p=>(p.1,cO p.2)))) :
  Eff P c w (Instr.buildSlice t n (ps.map fun (i,x)=>(i,a.eval x))) K:=by
 obtain⟨hs0,_,i,hinf⟩:=QM hok;obtain⟨zv,h1,h2,h3⟩:=Yt c hzc w;have hzs:zv.cells.size=P.cellsOf el:=by rw[← Array.length_toList,h2.len,hzl]
 have hne:z≠[]:=fun h0=>by rw[h0] at hzl;simp at hzl;omega
 simp only[W] at h;split at h
 ·rename_i hn0;subst hn0
  refine⟨.slice (some ⟨w.heap.size,0,none⟩) 0 0,{ w with heap:=w.heap.push (.cells ((Array.range 0).map ((#[]:Array Value)[· % 0]!)) el) },c.junk (.cells ((Array.range 0).map ((#[]:Array Value)[· % 0]!)) el),.nil,o,?_,⟨JP hi _,by simp [Cx.junk,hp],rfl,⟨rfl,rfl,by first|exact Nat.le_refl _|exact Nat.le_add_right _ _⟩,KH hi _,.nil _⟩,h⟩
  have e1:(ps.map fun (i,x)=>(i,a.eval x)).toList=[]:=by simp [hps rfl]
  have e2:¬ (0*P.cellsOf el > 2 ^ 24):=by omega
  have e3:((Array.range (0*P.cellsOf el)).map ((#[]:Array Value)[· % (#[]:Array Value).size]!))=(Array.range 0).map ((#[]:Array Value)[· % 0]!):=by simp
  simp only[Instr.buildSlice,Sem.run_bind,run_underlying ht,Result.andThen_ok,run_sizeOf w hinf,if_neg e2,Sem.run_pure,e1,Instr.fill,Nat.zero_mul,if_true];rfl
 ·rename_i hn0;cases hf:Yd ev (P.cellsOf el) (ps.toList.map fun p=>(p.1,cO p.2)) (List.replicate n z) with
  | none=>simp [hf] at h
  | some rs =>
   simp only[hf] at h;have hz0:Cz c (P.cellsOf el) (List.replicate n z) ((Array.range (n*P.cellsOf el)).map (zv.cells[· % zv.cells.size]!)).toList:=by
    have:=KT (l:=n) (m:=n) hne h2 h3 (Nat.le_refl _)
    rw[hzl] at this;exact this
   obtain⟨xs,r1,r2,r3,r4,r5⟩:=Da hi.gl hr hs0 ps.toList _ rs _ hz0 (fun x hx=>by rw[List.eq_of_mem_replicate hx,hzl]) hf;refine Eff.alloc (w1:=w) (ob:=.cells xs el) (sz:=P.cellsOf el) (x:=.row (P.cellsOf el) rs) (f:=fun id=>.rw id (P.cellsOf el) 0 n) (val:=fun b=>.slice (some ⟨b,0,none⟩) n n) hp hi rfl rfl (⟨rfl,rfl,by first|exact Nat.le_refl _|exact Nat.le_add_right _ _⟩) ?_ ?_ ?_ h
   ·have e1:(ps.map fun (i,x)=>(i,a.eval x)).toList=ps.toList.map fun p=>(p.1,a.eval p.2):=by simp
    have e2:¬ (n*P.cellsOf el > 2 ^ 24):=by omega
    have e3:¬ (n*P.cellsOf el=0):=fun h0=>by rcases Nat.mul_eq_zero.1 h0 with h0|h0<;>omega
    simp only[Instr.buildSlice,Sem.run_bind,run_underlying ht,Result.andThen_ok,run_sizeOf w hinf,if_neg e2,if_neg e3,Sem.run_pure,h1,e1,r1];rfl
   ·exact QF.2 ⟨rfl,hs0,r3,_,el,QO _ _ _,Cz.ext (QT hi _ _) hi.sep r2⟩
   ·have:=Rep.rw (c:=c.alloc (.cells xs el) (P.cellsOf el)) c.n (P.cellsOf el) 0 n _ n (ZN _ _ _) (Yf _ _ _) (Nat.le_refl _) ⟨_,_,QO _ _ _,by rw[r5];simp⟩
    simpa using this
def Qhr {ev:E} (hr:∀ t,Rep c (ev t) (a.tmps.getD t undef)) (hp:c.heap=w.heap) (hi:Inv c o) (ht:P.underlying t=some (.slice el)) (hok:okT P el=true) (hzc:Yx P el=some z) (hzl:z.length=P.cellsOf el) (hn:n*P.cellsOf el≤16777216) (h:W cl ev o K (.q (.lit (P.cellsOf el) n z (ps.toList.map fun p=>(p.1,cO p.2))))) :
  Eff P c w (Instr.buildSlice t n (ps.map fun (i,x)=>(i,a.eval x))) K:=by
 obtain⟨hs0,_,i,hinf⟩:=QM hok;obtain⟨zv,h1,h2,h3⟩:=Yt c hzc w;have hzs:zv.cells.size=P.cellsOf el:=by rw[← Array.length_toList,h2.len,hzl]
 have hne:z≠[]:=fun h0=>by rw[h0] at hzl;simp at hzl;omega
 simp only[W,rv,qv,litV] at h;cases hf:Yd ev (P.cellsOf el) (ps.toList.map fun p=>(p.1,cO p.2)) (List.replicate n z) with
 | none=>simp [hf] at h
 | some rs =>
  rw[hf] at h;simp only at h;split at h
  ·rename_i v hv;split at hv
   ·rename_i hc;cases hv;have hn0:=hc.1;have hz0:Cz c (P.cellsOf el) (List.replicate n z) ((Array.range (n*P.cellsOf el)).map (zv.cells[· % zv.cells.size]!)).toList:=by
     have:=KT (l:=n) (m:=n) hne h2 h3 (Nat.le_refl _)
     rw[hzl] at this;exact this
    obtain⟨xs,r1,r2,r3,r4,r5⟩:=Da hi.gl hr hs0 ps.toList _ rs _ hz0 (fun x hx=>by rw[List.eq_of_mem_replicate hx,hzl]) hf;have r4:rs.length=n:=by rw[r4];simp
    let ob:Obj:=.cells xs el
    let d:Cx:={ c.junk ob with im:=fun b=>c.im b∨b=c.heap.size }
    have hE:Ext c d:=by
     have hj:=JP hi ob
     exact⟨hj.size,hj.keep,hj.shape,fun b hb=>.inl hb,fun b hb hh=>by
      rcases hh with hh|hh
      ·exact .inl hh
      ·omega,hj.ph,hj.phn,hj.n⟩
    have hI:Inv d o:=by
     have hj:=KH hi ob
     refine⟨hj.dom,fun id x ho=>?_,fun id b sz hph=>?_,hj.inj,fun b hb=>?_,hi.gl.ext hE hi.sep⟩
     ·obtain⟨b,sz,g1,g2⟩:=hi.ob id x ho
      exact⟨b,sz,g1,g2.ext hE hi.sep (by
       have hb:=(hi.lt _ _ _ g1).2.1;show (c.heap.push ob)[b]?=_;rw[Array.getElem?_push_lt hb,Array.getElem?_eq_getElem hb])⟩
     ·obtain⟨g1,g2,g3⟩:=hj.lt id b sz hph;have hb:=(hi.lt _ _ _ hph).2.1
      exact⟨g1,g2,fun hh=>by
       rcases hh with hh|hh
       ·exact g3 hh
       ·omega⟩
     ·rcases hb with hb|hb
      ·exact hj.im b hb
      ·show b < (c.heap.push ob).size;rw[Array.size_push];omega
    have hsc:∀ (j k:Nat) ev v,rs[j]?=some ev→ev[k]?=some v→Qd8 v=true:=fun j k ev v e1 e2 =>
     List.all_eq_true.1 (List.all_eq_true.1 hc.2 ev (List.mem_of_getElem? e1)) v (List.mem_of_getElem? e2)
    have hcell:∀ off,Qo d.heap c.heap.size off=xs[off]?:=fun off=>by
     show Qo (c.heap.push ob) _ _=_;simp [Qo,ob]
    have hnl:∀ (j k:Nat) ev v,(rs.map fun c=>c.map nlD)[j]?=some ev→ev[k]?=some v→∃ ev0 v0,rs[j]?=some ev0∧ev0[k]?=some v0∧v=nlD v0:=fun j k ev v e1 e2=>by
     rw[List.getElem?_map,Option.map_eq_some_iff] at e1;obtain⟨ev0,e1,rfl⟩:=e1;rw[List.getElem?_map,Option.map_eq_some_iff] at e2;obtain⟨v0,e2,rfl⟩:=e2
     exact⟨ev0,v0,e1,e2,rfl⟩
    refine⟨.slice (some ⟨w.heap.size,0,none⟩) n n,{ w with heap:=w.heap.push ob },d,.sl (rs.map fun c=>c.map nlD),o,?_,⟨hE,by show c.heap.push ob=_;rw[hp],rfl,⟨rfl,rfl,Nat.le_refl _⟩,hI,?_⟩,h⟩
    ·have e1:(ps.map fun (i,x)=>(i,a.eval x)).toList=ps.toList.map fun p=>(p.1,a.eval p.2):=by simp
     have e2:¬ (n*P.cellsOf el > 2 ^ 24):=by omega
     have e3:¬ (n*P.cellsOf el=0):=fun h0=>by rcases Nat.mul_eq_zero.1 h0 with h0|h0<;>omega
     simp only[Instr.buildSlice,Sem.run_bind,run_underlying ht,Result.andThen_ok,run_sizeOf w hinf,if_neg e2,if_neg e3,Sem.run_pure,h1,e1,r1];rfl
    ·rw[← hp]
     have:=Rep.sl (c:=d) (rs.map fun c=>c.map nlD) c.heap.size 0 (P.cellsOf el) n (fun h0=>by rw[List.map_eq_nil_iff] at h0;rw[h0] at r4;simp at r4;omega) hs0 (by rw[List.length_map];omega) (.inr rfl) (fun e he=>by obtain⟨e0,h0,rfl⟩:=List.mem_map.1 he;rw[List.length_map];exact r3 e0 h0) (fun j k ev v e1 e2=>by
       obtain⟨ev0,v0,f1,f2,rfl⟩:=hnl j k ev v e1 e2;have h1:=hsc j k ev0 v0 f1 f2;obtain⟨u,g1,g2,g3⟩:=r2.2 j k ev0 v0 f1 f2;cases v0<;>first|exact .bo _|exact .i _ _|exact .s _|exact g3.idf_sl|(cases h1;done)|(exact .sl _ fun j k e v h=>by simp at h)) (fun j k ev v e1 e2=>by
       obtain⟨ev0,v0,f1,f2,rfl⟩:=hnl j k ev v e1 e2;obtain⟨u,g1,g2,g3⟩:=r2.2 j k ev0 v0 f1 f2
       refine⟨u,?_,g2⟩
       rw[hcell,Nat.zero_add];rw[Array.getElem?_toList] at g1;exact g1) (fun j k ev v x e1 e2 e3=>by
       obtain⟨ev0,v0,f1,f2,rfl⟩:=hnl j k ev v e1 e2;obtain⟨u,g1,g2,g3⟩:=r2.2 j k ev0 v0 f1 f2;rw[hcell,Nat.zero_add] at e3;rw[Array.getElem?_toList,e3] at g1;cases g1;have g4:=g3.ext hE hi.sep;cases v0<;>first|exact g4|(cases g4;exact .sl0 _ _))
     rw[List.length_map] at this;rw[r4] at this;exact this
   ·cases hv
  ·exact h.elim
end
def Snd (P:Program):Qg:=fun g as o K =>
 ZZ P g=true∧∀ (c:Cx) (w:World) (xs:Array Value),c.heap=w.heap→Inv c o→Reps c as xs.toList →
  Calls P g xs w (fun e w'=>∃ x c' v o',e=.returned x∧After c w c' v o' x w'∧K v o')
def EffC (P:Program) (c:Cx) (w:World) (g:Nat) (xs:Array Value) (K:V→O→Prop):Prop :=
 Calls P g xs w (fun e w'=>∃ x c' v o',e=.returned x∧After c w c' v o' x w'∧K v o')
def QgZ {vs ws:List V} (h:fzs o vs=some ws):ws.length=vs.length∧∀ (j:Nat) y,ws[j]?=some y→∃ v,vs[j]?=some v∧fz o v=some y:=QJ h
section
variable {P:Program} {c:Cx} {o:O} {w:World}
def QjC (hp:c.heap=w.heap) (hi:Inv c o) {vs:List V} (hx:Reps c vs xs.toList) {r:V} (hK:K r o) (h:XK (Snd P) o g vs r):ZZ P g=true∧EffC P c w g xs K:=by
 obtain⟨ws,hfz,⟨hb,hs⟩,hc⟩:=h
 refine⟨hb,?_⟩
 obtain⟨hl,hg⟩:=QgZ hfz;simp only[Bool.or_eq_true] at hc;rcases hc with hc|hc
 ·have hws:Reps c.bare ws xs.toList:=by
   refine⟨by rw[hx.len,hl],fun j v x hv hxj=>?_⟩
   obtain⟨u,hu,hf⟩:=hg j v hv;exact QhX hi.sep _ FZ u x v (hx.rep j u x hu hxj) (List.all_eq_true.1 hc u (List.mem_of_getElem? hu)) hf
  refine (hs c.bare w xs hp (Qd7 hi) hws).mono fun e w' h=>?_;obtain⟨x,c',v,o',he,hA,hf⟩:=h
  let d:Cx:={ heap:=c'.heap,ph:=c.ph,im:=c'.all.im,n:=c'.n }
  have him:∀ b,b < c.heap.size→d.im b→c.im b:=by
   intro b hb h;rcases h with h|⟨id,sz,h⟩
   ·rcases hA.ext.imn b hb h with h|⟨_,_,h⟩
    ·exact h
    ·cases h
   ·rcases hA.ext.phn id b sz h with h|⟨_,⟨_,_,h⟩|h⟩
    ·cases h
    ·cases h
    ·exact absurd h (Nat.not_le.2 hb)
  have hkeep:∀ b:Nat,b < c.heap.size→c'.heap[b]?=c.heap[b]?:=fun b hb=>hA.ext.keep b hb (fun _ _ h=>by cases h);have hE:Ext c d:=⟨hA.ext.size,fun b hb _=>hkeep b hb,hA.ext.shape,fun b hb=>.inl (hA.ext.im b hb),fun b hb h=>.inl (him b hb h),fun _ _ h=>.inl h,fun _ _ _ h=>.inl h,hA.ext.n⟩
  refine⟨x,d,r,o,he,⟨hE,hA.hp,hA.os,hA.out,⟨hi.dom,fun id y ho=>?_,fun id b sz h=>?_,hi.inj,fun b h=>?_,hi.gl.ext hE hi.sep⟩,?_⟩,hK⟩
  ·obtain⟨b,sz,h1,h2⟩:=hi.ob id y ho
   exact⟨b,sz,h1,h2.ext hE hi.sep (hkeep b (hi.lt _ _ _ h1).2.1)⟩
  ·obtain⟨h1,h2,h3⟩:=hi.lt id b sz h
   exact⟨Nat.lt_of_lt_of_le h1 hA.ext.n,Nat.lt_of_lt_of_le h2 hA.ext.size,fun hh=>h3 (him b h2 hh)⟩
  ·rcases h with h|⟨id,sz,h⟩
   ·exact hA.inv.im b h
   ·exact (hA.inv.lt id b sz h).2.1
  ·exact Rep.idf (c:=c'.all) (c':=d) rfl (fun _ h=>h) (Vu hA.inv _ _ _ _ hA.rep hf) (Qh3 hA.inv hA.rep hf)
 ·have hws:Reps c.all ws xs.toList:=by
   refine⟨by rw[hx.len,hl],fun j v x hv hxj=>?_⟩
   obtain⟨u,hu,hf⟩:=hg j v hv;exact Vu hi _ u x v (hx.rep j u x hu hxj) hf
  refine (hs c.all w xs hp (Qgs hi) hws).mono fun e w' h=>?_;obtain⟨x,c',v,o',he,hA,hf⟩:=h
  let d:Cx:={ heap:=c'.heap,ph:=c.ph,im:=c.im,n:=c'.n }
  have hkeep:∀ b:Nat,b < c.heap.size→c'.heap[b]?=c.heap[b]?:=fun b hb=>hA.ext.keep b hb (fun _ _ h=>by cases h);have hE:Ext c d:=⟨hA.ext.size,fun b hb _=>hkeep b hb,hA.ext.shape,fun b hb=>hb,fun b hb h=>.inl h,fun _ _ h=>.inl h,fun _ _ _ h=>.inl h,hA.ext.n⟩
  refine⟨x,d,r,o,he,⟨hE,hA.hp,hA.os,hA.out,⟨hi.dom,fun id y ho=>?_,fun id b sz h=>?_,hi.inj,fun b h=>?_,hi.gl.ext hE hi.sep⟩,?_⟩,hK⟩
  ·obtain⟨b,sz,h1,h2⟩:=hi.ob id y ho
   exact⟨b,sz,h1,h2.ext hE hi.sep (hkeep b (hi.lt _ _ _ h1).2.1)⟩
  ·obtain⟨h1,h2,h3⟩:=hi.lt id b sz h
   exact⟨Nat.lt_of_lt_of_le h1 hA.ext.n,Nat.lt_of_lt_of_le h2 hA.ext.size,h3⟩
  ·exact Nat.lt_of_lt_of_le (hi.im b h) hA.ext.size
  ·exact Qfk _ _ _ hc (Vu hA.inv _ _ _ _ hA.rep hf)
def KJ (hb:ZZ P g=true):(callFunc g xs).run P w=.ok (.enter g xs) w:=by
 unfold ZZ at hb;cases hf:P.funcs[g]? with
 | none=>simp [hf] at hb
 | some fn =>
  simp only[hf,Bool.and_eq_true,bne_iff_ne,ne_eq] at hb;have h1:fn.body≠none:=fun h=>by rw[h] at hb;simp at hb
  simp [callFunc,program,Sem.run,hf,h1,hb.2]
def QV {p:Bool} {i j:I} (h:cod p j=i):(p=true∧i=j)∨i=.bad:=by
 unfold cod at h;cases p
 ·exact .inr (by simpa using h.symm)
 ·exact .inl ⟨rfl,by simpa using h.symm⟩
def D8 (hg:GlAt c.heap c.im) (hr:∀ t,Rep c (e t) (a.tmps.getD t undef)) (l:Array Operand):Reps c ((l.toList.map cO).map (Od.ev e)) (l.map a.eval).toList:=by
 refine⟨SM,fun j v x hv hx=>?_⟩
 simp only[List.map_map,List.getElem?_map,Option.map_eq_some_iff,Array.toList_map] at hv hx;obtain⟨y,hy,rfl⟩:=hv;obtain⟨z,hz,rfl⟩:=hx;rw[hy] at hz;cases hz;exact YQ hg hr y
def Reps.append {bs:List V} {xs ys:List Value} (h1:Reps c as xs) (h2:Reps c bs ys):Reps c (as++bs) (xs++ys):=by
 refine⟨by simp [h1.len,h2.len],fun j v x hv hx=>?_⟩
 have hl:=h1.len;rcases Nat.lt_or_ge j as.length with h|h
 ·rw[List.getElem?_append_left h] at hv;rw[List.getElem?_append_left OM] at hx;exact h1.rep j v x hv hx
 ·rw[List.getElem?_append_right h] at hv;rw[List.getElem?_append_right OM,hl] at hx;exact h2.rep _ v x hv hx
structure OpR (P:Program) (c:Cx) (w:World) (a:Act) (o:Oper) (K:V→O→Prop):Prop where
 wp:∀ (nxt:Act→World→Prop) (Q:Exit→Act→World→Prop),(∀ x w' c' v o',After c w c' v o' x w'→K v o'→nxt (a.put o.dst x) w')→o.wp P a w nxt Q
def OpR.val {o:Oper} {s:Sem Value} (he:execOp a.eval o=(do pure (.value (← s)))) (h:Eff P c w s K):OpR P c w a o K:=by
 obtain⟨x,w',c',v,o',h1,h2,h3⟩:=h
 refine⟨fun nxt Q hn=>?_⟩
 unfold Oper.wp;rw[he,v_ok h1];exact hn x w' c' v o' h2 h3
def OpR.uni {o:Oper} {s:Sem Unit} (he:execOp a.eval o=(do s;pure .skip)) (h:EffU P c w s K):OpR P c w a o K:=by
 obtain⟨w',c',o',h1,h2,h3⟩:=h
 refine⟨fun nxt Q hn=>?_⟩
 unfold Oper.wp;rw[he];simp only[Sem.run_bind,h1,Result.andThen_ok,Sem.run_pure];exact hn undef w' c' .jk o' h2 h3
def OpR.call {o:Oper} (he:(execOp a.eval o).run P w=.ok (.enter g xs) w) (h:EffC P c w g xs K):OpR P c w a o K:=by
 refine⟨fun nxt Q hn=>?_⟩
 unfold Oper.wp;rw[he];refine Calls.mono h fun e w' h=>?_;obtain⟨x,c',v,o',rfl,h2,h3⟩:=h;exact hn x w' c' v o' h2 h3
def Qcr (h:zlen P el=true):∃ z,Yx P el=some z∧z.length=P.cellsOf el:=by
 unfold zlen at h;split at h
 ·rename_i z hz;exact⟨z,hz,by simpa using h⟩
 ·cases h
def QK {s:Sem Value} {v:V} (hp:c.heap=w.heap) (hi:Inv c o) (h1:s.run P w=.ok x w) (h2:Rep c v x) (hK:K v o):Eff P c w s K :=
 ⟨x,w,c,v,o,h1,After.same hp hi h2 rfl rfl (⟨rfl,rfl,by first|exact Nat.le_refl _|exact Nat.le_add_right _ _⟩),hK⟩
end
def Cz.over {c:Cx} (h:Cz c sz es l) (hlen:∀ e∈es,e.length=sz) (hC:Cz c sz ys news) (hl:∀ e∈ys,e.length=sz) (hn:news.length=ys.length*sz) {off:Nat} (hle:off+ys.length≤es.length) :
  off*sz+news.length≤l.length∧Cz c sz (es.take off++ys++es.drop (off+ys.length)) (wr l news (off*sz)):=by
 have hm:(off+ys.length)*sz≤es.length*sz:=Nat.mul_le_mul_right _ hle;have h1:=h.1;have hfit:off*sz+news.length≤l.length:=by rw[Nat.add_mul] at hm;omega
 refine⟨hfit,⟨by rw[Xa hfit];simp only[List.length_append,List.length_take,List.length_drop];rw[show min off es.length+ys.length+(es.length - (off+ys.length))=es.length by omega];exact h1,fun j k e v he hk=>?_⟩⟩
 have e1:(es.take off).length=off:=by simp;omega
 rw[Qcv hfit,hn];rcases Nat.lt_or_ge j off with hj|hj
 ·rw[List.append_assoc,List.getElem?_append_left OM,List.getElem?_take_of_lt hj] at he;have hk':k < sz:=by rw[← hlen e (List.mem_of_getElem? he)];exact (List.getElem?_eq_some_iff.1 hk).1
  have:(j+1)*sz≤off*sz:=Nat.mul_le_mul_right _ hj
  rw[Nat.add_mul] at this;rw[if_neg OM];exact h.2 j k e v he hk
 ·rcases Nat.lt_or_ge j (off+ys.length) with hj2|hj2
  ·rw[List.getElem?_append_left (by simp;omega),List.getElem?_append_right OM,e1] at he;have hk':k < sz:=by rw[← hl e (List.mem_of_getElem? he)];exact (List.getElem?_eq_some_iff.1 hk).1
   have e2:j*sz=off*sz+(j - off)*sz:=by rw[← Nat.add_mul];congr 1;omega
   have e3:(j - off+1)*sz≤ys.length*sz:=Nat.mul_le_mul_right _ OM;rw[Nat.add_mul] at e3;rw[if_pos OM,show j*sz+k - off*sz=(j - off)*sz+k by omega];exact hC.2 (j - off) k e v he hk
  ·rw[List.getElem?_append_right (by simp;omega),List.getElem?_drop] at he;have e4:off+ys.length+(j - (es.take off++ys).length)=j:=by simp;omega
   rw[e4] at he
   have:(off+ys.length)*sz≤j*sz:=Nat.mul_le_mul_right _ hj2
   rw[Nat.add_mul] at this;rw[if_neg OM];exact h.2 j k e v he hk
def ZV (ht:P.underlying t=some (.slice el)) (hq:P.info? el=some i) {a:Option Addr} (hn:n=Nat.min sl dl)
  (hl:(Builtin.firstCells (P.cellsOf el) n (.slice a sl sc)).run P w=.ok news.toArray w) (hst:(storeCells d news).run P w=.ok () w'):(Builtin.copy_ #[t,tx] ty #[.slice (some d) dl dc,.slice a sl sc]).run P w=.ok (goInt n) w':=by
 subst hn;simp only[Builtin.copy_,List.getElem?_toArray,List.getElem?_cons_zero,List.getElem?_cons_succ,Sem.run_bind,run_underlying ht,Result.andThen_ok,Builtin.lenOf,Sem.run_pure,run_sizeOf w hq,hl,hst]
def Jn (ht:P.underlying t=some (.slice el)) (hq:P.info? el=some i) {a:Option Addr} (hn:n=Nat.min sl dl)
  (hl:(Builtin.firstCells (P.cellsOf el) n (.slice a sl sc)).run P w=.ok news.toArray w):(Builtin.copy_ #[t,tx] ty #[.slice none dl dc,.slice a sl sc]).run P w=.ok (goInt n) w:=by
 subst hn;simp only[Builtin.copy_,List.getElem?_toArray,List.getElem?_cons_zero,List.getElem?_cons_succ,Sem.run_bind,run_underlying ht,Result.andThen_ok,Builtin.lenOf,Sem.run_pure,run_sizeOf w hq,hl]
theorem QgQ:∀ (ys:List (List V)),(∀ e∈ys,e.length=1)→ys.flatten.length=ys.length∧∀ (k:Nat) v,ys.flatten[k]?=some v→∃ e,ys[k]?=some e∧e[0]?=some v
 | [],_=>⟨rfl,fun k v h=>by simp at h⟩
 | e::ys,hl=>by
  obtain⟨h1,h2⟩:=QgQ ys fun e he=>hl e (by simp [he])
  match e,hl e SM with
  | [u],_ =>
   refine⟨by simp [h1],fun k v h=>?_⟩
   cases k with
   | zero=>exact⟨[u],rfl,by simpa using h⟩
   | succ k=>exact h2 k v (by simpa using h)
def Cz.flat {c:Cx} (h:Cz c 1 ys l) (hl:∀ e∈ys,e.length=1) (hn:l.length=ys.length):Reps c ys.flatten l:=by
 obtain⟨h1,h2⟩:=QgQ ys hl
 refine⟨by rw[hn,h1],fun k v x hv hx=>?_⟩
 obtain⟨e,he,h0⟩:=h2 k v hv;obtain⟨u,g1,_,g3⟩:=h.2 k 0 e v he h0;rw[Nat.mul_one,Nat.add_zero,hx] at g1;cases g1;exact g3
section
variable {P:Program} {c:Cx} {o:O} {w:World}
def KA (hp:c.heap=w.heap) (hi:Inv c o) {v:V} (hx:Rep c v x) (h:src o v=some ys) (hs:0 < sz) (hlen:∀ e∈ys,e.length=sz) (hn:n≤ys.length) :
  ∃ a cp news,x=.slice a ys.length cp∧(Builtin.firstCells sz n x).run P w=.ok news.toArray w∧news.length=n*sz∧Cz c sz (ys.take n) news∧∀ u∈news,oneC u=true:=by
 obtain⟨a,cp,rfl,hh⟩:=Qf4 hi hx h hlen;have none:n=0→∃ a' cp' news,(.slice a ys.length cp:Value)=.slice a' ys.length cp'∧(Builtin.firstCells sz n (.slice a ys.length cp)).run P w=.ok news.toArray w∧news.length=n*sz∧Cz c sz (ys.take n) news∧∀ u∈news,oneC u=true:=by
  intro h0;subst h0
  refine⟨a,cp,[],rfl,?_,SM,⟨SM,fun j k e v h=>by simp at h⟩,SM⟩
  cases a with
  | none=>exact run_firstCells_none w _ _ _ _
  | some a=>exact run_firstCells_some w _ _ _ _ _ [] SM (fun j v h=>by simp at h)
 rcases hh with rfl|⟨b,off,rfl,hL⟩
 ·exact none (by simpa using hn)
 ·have hL2:Lies c b off sz (ys.take n):=fun j k e v he hv=>by
   rw[List.getElem?_take] at he;split at he
   ·exact hL j k e v he hv
   ·cases he
  obtain⟨news,h1,h2,h3,h4⟩:=hL2.list (fun e he=>hlen e (List.mem_of_mem_take he)) hs;rw[List.length_take,Nat.min_eq_left hn] at h1
  refine⟨_,cp,news,rfl,run_firstCells_some w _ _ _ _ _ news h1 (fun j u hj=>?_),h1,h2,h3⟩
  have:=h4 j u hj
  rw[hp] at this;rw[← cell?_eq] at this;simpa [Addr.add_lit] using this
def Qec {ev:E} {X:Od} (hp:c.heap=w.heap) (hi:Inv c o) (ht:P.underlying t=some (.slice el)) (hok:okT P el=true) (hx:Rep c (X.ev ev) xx) (hy:Rep c (Y.ev ev) xy) (h:W cl ev o K (.cpy (P.cellsOf el) X Y)):Eff P c w (Builtin.copy_ #[t,tx] ty #[xx,xy]) K:=by
 obtain⟨hs0,_,i,hinf⟩:=QM hok;simp only[W] at h;cases hsrc:src o (Y.ev ev) with
 | none=>simp [hsrc] at h
 | some ys =>
  simp only[hsrc] at h;obtain⟨hlen,h⟩:=h;cases hX:X.ev ev<;>simp only[hX] at h
  case nil =>
   rw[hX] at hx;cases hx with
   | nil a =>
    obtain⟨a2,cp,news,rfl,h1,h2,h3,h4⟩:=KA (P:=P) hp hi hy hsrc hs0 hlen (n:=0) (Nat.zero_le _);have hn:news=[]:=by simpa using h2
    subst hn;have hm:0=Nat.min ys.length 0:=by simp
    cases a with
    | none=>exact QK hp hi (Jn ht hinf hm h1) (.i _ _) h
    | some d=>exact QK hp hi (ZV ht hinf hm h1 rfl) (.i _ _) h
  case rw id sz' off len =>
   obtain⟨rfl,h⟩:=h;cases ho:o id with
   | none=>simp [ho] at h
   | some ob =>
    cases ob<;>simp only[ho] at h;rename_i s es;obtain⟨hle,hK⟩:=h;obtain⟨b,sz,hph,hr⟩:=hi.ob id _ ho;obtain⟨rfl,hs1,hl2,arr,ty2,hb,hz2⟩:=QF.1 hr;rw[hX] at hx;obtain⟨a2,cp,news,rfl,h1,h2,h3,h4⟩:=KA (P:=P) hp hi hy hsrc hs0 hlen (n:=min ys.length len) (Nat.min_le_left _ _);cases hx with
    | rw0 _ _ _ a hn =>
     have hn:news=[]:=by simpa using h2
     subst hn;have hm:min ys.length 0=Nat.min ys.length 0:=rfl;have hK2:K (.i .i64 ((min ys.length 0:Nat):Int)) o:=by
      have:es.take off++ys.take 0++es.drop (off+min ys.length 0)=es:=by simp
      rw[this] at hK;have e2:upd o id (some (.row s es))=o:=by
       funext j
       by_cases hj:j=id
       ·subst hj;simp [upd,ho]
       ·simp [upd,hj]
      rw[e2] at hK;exact hK
     cases a with
     | none=>exact QK hp hi (Jn ht hinf hm h1) (.i _ _) hK2
     | some d=>exact QK hp hi (ZV ht hinf hm h1 rfl) (.i _ _) hK2
    | rwd _ _ _ _ _ _ hn=>rw[hph] at hn;cases hn
    | rw _ _ _ _ b2 cap hp2 hn hc hf =>
     rw[hph] at hp2;cases hp2;have hyl:(ys.take len).length=min ys.length len:=by simp [Nat.min_comm]
     have hyt:ys.take (min ys.length len)=ys.take len:=by
      rw[Nat.min_def];split
      ·rw[List.take_of_length_le (Nat.le_refl _),List.take_of_length_le OM]
      ·rfl
     rw[hyt] at h3;obtain⟨q1,q2⟩:=hz2.over hl2 h3 (fun e he=>hlen e (List.mem_of_mem_take he)) (by rw[hyl];exact h2) (off:=off) (by rw[hyl];omega);rw[hyl] at q2;have hbw:w.heap[b]?=some (.cells arr ty2 (0,0)):=by rw[← hp];exact hb
     have hst:=HD (P:=P) hbw (o:=off*P.cellsOf el) (vs:=news) (by simpa using q1) h4;have hsame:∀ arr1 t1 fz,c.heap[b]?=some (Obj.cells arr1 t1 fz)→∃ arr',Obj.cells (wr arr.toList news (off*P.cellsOf el)).toArray ty2 (0,0)=Obj.cells arr' t1 fz∧arr'.size=arr1.size:=by
      intro arr1 t1 fz h;rw[hb] at h;cases h
      exact⟨_,rfl,by simp [Xa q1]⟩
     have hblt:b < c.heap.size:=(hi.lt _ _ _ hph).2.1
     refine⟨_,w.setRow b (wr arr.toList news (off*P.cellsOf el)).toArray,c.set b (.cells (wr arr.toList news (off*P.cellsOf el)).toArray ty2 (0,0)),_,_,ZV ht hinf rfl h1 hst,⟨Zi hi hph hsame,?_,rfl,⟨rfl,rfl,by first|exact Nat.le_refl _|exact Nat.le_add_right _ _⟩,Js hi hph hsame ?_,.i _ _⟩,hK⟩
     ·rw[ZT hbw];simp [Cx.set,hp]
     ·refine QF.2 ⟨rfl,hs1,fun e he=>?_,_,ty2,by simp only[Cx.set];rw[Array.getElem?_setIfInBounds_self_of_lt hblt],?_⟩
      ·rcases List.mem_append.1 he with he|he
       ·rcases List.mem_append.1 he with he|he
        ·exact hl2 e (List.mem_of_mem_take he)
        ·exact hlen e (List.mem_of_mem_take he)
       ·exact hl2 e (List.mem_of_mem_drop he)
      ·exact Cz.ext (Zi hi hph hsame) hi.sep (by simpa using q2)
  case ra id i2 j len =>
   obtain⟨h1z,h⟩:=h;cases ho:o id with
   | none=>simp [ho] at h
   | some ob =>
    cases ob<;>simp only[ho] at h;rename_i s es;cases hes:es[i2]? with
    | none=>simp [hes] at h
    | some cs =>
     simp only[hes] at h;obtain⟨hle,hK⟩:=h;obtain⟨b,sz,hph,hr⟩:=hi.ob id _ ho;obtain⟨rfl,hs1,hl2,arr,ty2,hb,hz2⟩:=QF.1 hr;rw[hX] at hx;obtain⟨a2,cp,news,rfl,h1,h2,h3,h4⟩:=KA (P:=P) hp hi hy hsrc hs0 hlen (n:=min ys.length len) (Nat.min_le_left _ _);rw[h1z] at h2 h3 hlen;have hyl:(ys.take len).length=min ys.length len:=by simp [Nat.min_comm]
     have hyt:ys.take (min ys.length len)=ys.take len:=by
      rw[Nat.min_def];split
      ·rw[List.take_of_length_le (Nat.le_refl _),List.take_of_length_le OM]
      ·rfl
     rw[hyt] at h3;have hlt:∀ e∈ys.take len,e.length=1:=fun e he=>hlen e (List.mem_of_mem_take he);have hR:=h3.flat hlt (by rw[hyl];omega);have hfl:=(QgQ _ hlt).1;cases hx with
     | ra0 _ _ _ a hn =>
      have hn:news=[]:=by simpa using h2
      subst hn;have hm:min ys.length 0=Nat.min ys.length 0:=rfl;have hK2:K (.i .i64 ((min ys.length 0:Nat):Int)) o:=by
       have e1:splice j (ys.take 0).flatten cs=cs:=by
        apply List.ext_getElem?;intro k;rw[List.take_zero,List.flatten_nil,Jh j [] cs (by simpa using hle),if_neg SM]
       have e3:es.set i2 cs=es:=by rw[← (List.getElem?_eq_some_iff.1 hes).2,List.set_getElem_self]
       rw[e1,e3] at hK;have e2:upd o id (some (.row s es))=o:=by
        funext j
        by_cases hj:j=id
        ·subst hj;simp [upd,ho]
        ·simp [upd,hj]
       rw[e2] at hK;exact hK
      cases a with
      | none=>exact QK hp hi (Jn ht hinf hm h1) (.i _ _) hK2
      | some d=>exact QK hp hi (ZV ht hinf hm h1 rfl) (.i _ _) hK2
     | rad _ _ _ _ _ _ hn=>rw[hph] at hn;cases hn
     | ra _ _ _ _ b2 sz2 cap hp2 hn hc =>
      rw[hph] at hp2;cases hp2;obtain⟨q1,q2,q3⟩:=hz2.store hl2 hes (j:=j) (vc:=(ys.take len).flatten) (by rw[hfl,hyl];omega) hR h4;have hbw:w.heap[b]?=some (.cells arr ty2 (0,0)):=by rw[← hp];exact hb
      have hst:=HD (P:=P) hbw (o:=i2*s+j) (vs:=news) (by simpa using q1) h4;have hsame:∀ arr1 t1 fz,c.heap[b]?=some (Obj.cells arr1 t1 fz)→∃ arr',Obj.cells (wr arr.toList news (i2*s+j)).toArray ty2 (0,0)=Obj.cells arr' t1 fz∧arr'.size=arr1.size:=by
       intro arr1 t1 fz h;rw[hb] at h;cases h
       exact⟨_,rfl,by simp [Xa q1]⟩
      have hblt:b < c.heap.size:=(hi.lt _ _ _ hph).2.1
      refine⟨_,w.setRow b (wr arr.toList news (i2*s+j)).toArray,c.set b (.cells (wr arr.toList news (i2*s+j)).toArray ty2 (0,0)),_,_,ZV ht hinf rfl h1 hst,⟨Zi hi hph hsame,?_,rfl,⟨rfl,rfl,by first|exact Nat.le_refl _|exact Nat.le_add_right _ _⟩,Js hi hph hsame ?_,.i _ _⟩,hK⟩
      ·rw[ZT hbw];simp [Cx.set,hp]
      ·refine QF.2 ⟨rfl,hs1,q3,_,ty2,by simp only[Cx.set];rw[Array.getElem?_setIfInBounds_self_of_lt hblt],?_⟩;exact Cz.ext (Zi hi hph hsame) hi.sep (by simpa using q2)
end
def Qcw:Value→Bool
 | .bool _|.int _ _|.string _=>true
 | _=>false
def JH (h:Qcw x=true) (n:Nat):Instr.sameBits n x x=true:=by
 have hs:∀ s:ByteArray,(s==s)=true:=fun s=>by cases s;simp [BEq.beq,ByteArray.beq];exact Array.isEqv_self _
 cases x<;>simp [Qcw] at h<;>cases n<;>simp [Instr.sameBits,hs]
def HV (h:∀ x∈xs.toList,Qcw x=true) (n:Nat):Instr.sameBits (n+1) (.agg xs) (.agg xs)=true:=by
 rw[Instr.sameBits,Bool.and_eq_true]
 refine⟨SM,List.all_eq_true.2 fun p hp=>?_⟩
 obtain⟨a,b⟩:=p;have hab:a=b∧a∈xs.toList:=by
  generalize xs.toList=l at hp;clear h;induction l with
  | nil=>cases hp
  | cons z l ih =>
   rw[List.zip_cons_cons] at hp;rcases List.mem_cons.1 hp with hp|hp
   ·cases hp;exact⟨rfl,SM⟩
   ·obtain⟨h1,h2⟩:=ih hp;exact⟨h1,by simp [h2]⟩
 obtain⟨rfl,hm⟩:=hab;exact JH (h a hm) n
def Hl {c:Cx} {l:Lf} {v:V} (h:lfEq l u v=some true) (hx:Rep c u x) (hy:Rep c v y):x=y∧Qcw x=true:=by
 cases l<;>cases u<;>simp only[lfEq,reduceCtorEq] at h<;>cases v<;>simp only[lfEq,reduceCtorEq] at h
 ·cases hx;cases hy;simp at h;subst h;exact⟨rfl,rfl⟩
 ·cases hx;cases hy;split at h
  ·rename_i hc;obtain⟨rfl,rfl⟩:=hc;simp at h;subst h;exact⟨rfl,rfl⟩
  ·cases h
 ·cases hx;cases hy;rename_i a b;simp at h
  have:a=b:=by
   rw[ByteArray.toList_eq,ByteArray.toList_eq] at h;cases a;cases b;congr 1;simpa using h
  subst this;exact⟨rfl,rfl⟩
theorem Ho {c:Cx}:∀ {ks:List Lf} {us vs:List V} {xs ys:List Value},eqps ks us vs=some true→Reps c us xs→Reps c vs ys→xs=ys∧∀ x∈xs,Qcw x=true
 | [],[],[],xs,ys,_,hx,hy=>by
  have h1:=hx.len;have h2:=hy.len;simp at h1 h2;subst h1;subst h2;exact⟨rfl,SM⟩
 | l::ks,u::us,v::vs,[],ys,_,hx,_=>by have:=hx.len;simp at this
 | l::ks,u::us,v::vs,x::xs,[],_,_,hy=>by have:=hy.len;simp at this
 | l::ks,u::us,v::vs,x::xs,y::ys,h,hx,hy=>by
  simp only[eqps] at h;split at h
  ·rename_i p q hp hq;simp at h;obtain⟨rfl,rfl⟩:=h;obtain⟨rfl,h1⟩:=Hl hp (hx.rep 0 u x rfl rfl) (hy.rep 0 v y rfl rfl);obtain⟨rfl,h2⟩:=Ho hq ⟨by have:=hx.len;simpa using this,fun j v x hv hh=>hx.rep (j+1) v x (by simpa using hv) (by simpa using hh)⟩ ⟨by have:=hy.len;simpa using this,fun j v x hv hh=>hy.rep (j+1) v x (by simpa using hv) (by simpa using hh)⟩
   refine⟨rfl,fun z hz=>?_⟩
   rcases List.mem_cons.1 hz with rfl|hz
   ·exact h1
   ·exact h2 z hz
  ·cases h
def Qal {c:Cx} (hl:lfs P LD t=some ks) (h:eqV (isA P t) ks k k'=some true) (hx:Rep c k x) (hy:Rep c k' y):Instr.sameBits 10000 y x=true:=by
 unfold eqV at h;split at h
 ·rename_i hc;obtain⟨h1,h2⟩:=hc;cases hA:isA P t with
  | true =>
   rw[hA] at h1 h2;cases k<;>simp [V.isAg] at h1;cases k'<;>simp [V.isAg] at h2;cases hx with
   | ag _ xs hxl _ hxr =>
    cases hy with
    | ag _ ys hyl _ hyr =>
     obtain⟨e,ha⟩:=Ho h (xs:=xs.toList) (ys:=ys.toList) ⟨by simp [hxl,V.cells],fun j v x hv hh=>hxr j v x hv (by rw[← Array.getElem?_toList];exact hh)⟩ ⟨by simp [hyl,V.cells],fun j v x hv hh=>hyr j v x hv (by rw[← Array.getElem?_toList];exact hh)⟩;have e2:xs=ys:=Array.toList_inj.1 e;subst e2;exact HV ha 9999
  | false =>
   rw[hA] at h1 h2;have hks:=QfU hl hA;have one:∀ (u:V),u.isAg=false→u.cells=[]∨u.cells=[u]:=fun u hu=>by cases u<;>simp [V.isAg] at hu<;>simp [V.cells]
   have key:∃ l,lfEq l k k'=some true:=by
    rcases one k h1 with e1|e1<;>rcases one k' h2 with e2|e2<;>rw[e1,e2] at h
    ·cases ks with
     | nil=>exact absurd rfl hks
     | cons=>simp [eqps] at h
    ·cases ks<;>simp [eqps] at h
    ·cases ks<;>simp [eqps] at h
    ·match ks,h with
     | [l],h =>
      simp only[eqps] at h;split at h
      ·rename_i p q hp hq;simp at h
       exact⟨l,by rw[hp,h.1]⟩
      ·cases h
     | [],h=>simp [eqps] at h
     | _::_::_,h =>
      simp only[eqps] at h;split at h
      ·rename_i p q hp hq;cases hq
      ·cases h
   obtain⟨l,hl2⟩:=key;obtain⟨rfl,ha⟩:=Hl hl2 hx hy;exact JH ha 10000
 ·cases h
def QaG:∀ {ents:List (Nat × V × V)} {j:Nat},QN kg ks k ents=some (some j)→∃ en,ents[j]?=some en∧eqV kg ks k en.2.1=some true:=by
 intro ents;induction ents with
 | nil=>intro j h;simp only[QN] at h;split at h<;>cases h
 | cons en ents ih =>
  intro j h;obtain⟨st,k',v'⟩:=en;simp only[QN] at h;split at h
  ·rename_i hq;cases h;exact⟨_,rfl,hq⟩
  ·split at h
   ·rename_i hh;cases h;obtain⟨en,h1,h2⟩:=ih hh;exact⟨en,by simpa using h1,h2⟩
   ·cases h
   ·cases h
  ·cases h
section
variable {P:Program} {c:Cx} {o:O} {w:World}
def Z8 {es:Array MapEntry} (h:w.heap[b]?=some (.map es clock)):(getObj b).run P w=.ok (.map es clock) w:=by simp [getObj,Sem.run,h]
def Qeg {es:Array MapEntry} (ob:Obj) (h:w.heap[b]?=some (.map es clock)):(setObj b ob).run P w=.ok () { w with heap:=w.heap.setIfInBounds b ob }:=by simp [setObj,Sem.run,h]
def Jv (hp:c.heap=w.heap) (hi:Inv c o) {id:Nat} (hph:c.ph id=some (b,0)) {es:Array MapEntry} (hb:c.heap[b]?=some (.map es clock)) {ents':List (Nat × V × V)} {es':Array MapEntry} {clock':Nat} (hsz:es'.size=ents'.length)
  (hr:∀ (j:Nat) en,ents'[j]?=some en→∃ x:MapEntry,es'[j]?=some x∧x.born=en.1∧Rep c en.2.1 x.key∧Rep c en.2.2 x.val) (hs:(ents'.map (·.1)).Pairwise (· < ·)) (hc:∀ en∈ents',en.1 < clock') :
  ∃ w' c',(setObj b (.map es' clock')).run P w=.ok () w'∧Ext c c'∧c'.heap=w'.heap∧w'.os=w.os∧Ot w w'∧Inv c' (upd o id (some (.map ents' clock'))):=by
 have hbw:w.heap[b]?=some (.map es clock):=by rw[← hp];exact hb
 have hsame:∀ arr1 t1 fz,c.heap[b]?=some (Obj.cells arr1 t1 fz)→∃ arr',Obj.map es' clock'=Obj.cells arr' t1 fz∧arr'.size=arr1.size:=by
  intro arr1 t1 fz h;rw[hb] at h;cases h
 have hblt:b < c.heap.size:=(hi.lt _ _ _ hph).2.1;have hE:=Zi hi hph hsame
 refine⟨_,c.set b (.map es' clock'),Qeg _ hbw,hE,by simp [Cx.set,hp],rfl,⟨rfl,rfl,by first|exact Nat.le_refl _|exact Nat.le_add_right _ _⟩,Js hi hph hsame ⟨rfl,es',by simp only[Cx.set];rw[Array.getElem?_setIfInBounds_self_of_lt hblt],hsz,fun j en hj=>?_,hs,hc⟩⟩
 obtain⟨x,h1,h2,h3,h4⟩:=hr j en hj
 exact⟨x,h1,h2,h3.ext hE hi.sep,h4.ext hE hi.sep⟩
def YW (hi:Inv c o) {id:Nat} {ents:List (Nat × V × V)} (hr:RepO c b 0 (.map ents clock)):∃ es:Array MapEntry,c.heap[b]?=some (.map es clock)∧Ents c ents es.toList∧es.size=ents.length ∧
  (∀ (j:Nat) en,ents[j]?=some en→∃ x:MapEntry,es[j]?=some x∧x.born=en.1∧Rep c en.2.1 x.key∧Rep c en.2.2 x.val)∧(ents.map (·.1)).Pairwise (· < ·)∧∀ en∈ents,en.1 < clock:=by
 obtain⟨_,es,h1,h2,h3,h4,h5⟩:=hr
 exact⟨es,h1,⟨by rw[Array.length_toList,h2],fun j en hj=>by obtain⟨x,hx,hh⟩:=h3 j en hj;exact⟨x,by rw[Array.getElem?_toList];exact hx,hh⟩⟩,h2,h3,h4,h5⟩
def Qar {ents:List (Nat × V × V)} {x:V × V} (hs:(ents.map (·.1)).Pairwise (· < ·)) (hlt:∀ en∈ents,en.1 < clock):((ents++[(clock,x)]).map (·.1)).Pairwise (· < ·):=by
 rw[List.map_append,List.pairwise_append]
 refine⟨hs,SM,fun a ha b hb=>?_⟩
 obtain⟨en,hen,rfl⟩:=List.mem_map.1 ha;simp at hb;subst hb;exact hlt en hen
def Qbo {ents:List (Nat × V × V)} {x:V × V} (hlt:∀ en∈ents,en.1 < clock):∀ en∈ents++[(clock,x)],en.1 < clock+1:=by
 intro en hen;rcases List.mem_append.1 hen with hen|hen
 ·have:=hlt en hen;omega
 ·simp at hen;subst hen;exact Nat.lt_succ_self _
def VL {ents:List (Nat × V × V)} {st:Nat} {x y:V × V} (hs:(ents.map (·.1)).Pairwise (· < ·)) (hen:ents[j]?=some (st,x)):((ents.set j (st,y)).map (·.1)).Pairwise (· < ·):=by
 have:(ents.set j (st,y)).map (·.1)=ents.map (·.1):=by
  apply List.ext_getElem?;intro i;rw[List.getElem?_map,List.getElem?_map,List.getElem?_set];split
  ·rename_i hij;subst hij;rw[hen,if_pos (List.getElem?_eq_some_iff.1 hen).1];rfl
  ·rfl
 rw[this];exact hs
def QcX {ents:List (Nat × V × V)} {st:Nat} {x y:V × V} (hlt:∀ en∈ents,en.1 < clock) (hen:ents[j]?=some (st,x)):∀ en∈ents.set j (st,y),en.1 < clock:=by
 intro en he;rcases List.mem_or_eq_of_mem_set he with he|he
 ·exact hlt en he
 ·subst he;exact hlt (st,x) (List.mem_of_getElem? hen)
def QgB {ents:List (Nat × V × V)} {es:Array MapEntry} (hall:∀ (j:Nat) en,ents[j]?=some en→∃ x:MapEntry,es[j]?=some x∧x.born=en.1∧Rep c en.2.1 x.key∧Rep c en.2.2 x.val) {st:Nat} {x:V × V} (hen:ents[j]?=some (st,x)) {y:MapEntry} (hy:es[j]?=some y) (hyb:y.born=st)
  {v:V} (hk:Rep c k xk) (hv:Rep c v xv):∀ (i:Nat) en,(ents.set j (st,k,v))[i]?=some en→∃ x:MapEntry,(es.modify j fun e=>{ e with key:=xk,val:=xv })[i]?=some x∧x.born=en.1∧Rep c en.2.1 x.key∧Rep c en.2.2 x.val:=by
 intro i en hj;rw[List.getElem?_set] at hj;rw[Array.getElem?_modify];split at hj
 ·rename_i hij;subst hij;rw[if_pos (List.getElem?_eq_some_iff.1 hen).1] at hj;cases hj
  exact⟨{ y with key:=xk,val:=xv },by simp [hy],hyb,hk,hv⟩
 ·rename_i hij;obtain⟨x,hx,hh⟩:=hall i en hj
  exact⟨x,by rw[if_neg hij];exact hx,hh⟩
def Qgm {ev:E} {X:Od} (hp:c.heap=w.heap) (hi:Inv c o) (hu:P.underlying t=some (.map kt et)) (hl:lfs P LD kt=some ks) (hm:Rep c (M.ev ev) xm) (hk:Rep c (X.ev ev) xk) (hv:Rep c (Y.ev ev) xv) (h:W cl ev o K (.mup (isA P kt) ks M X Y)):EffU P c w (Instr.mapUpdate t xm xk xv) K:=by
 simp only[W] at h;cases hM:M.ev ev<;>simp only[hM] at h;rename_i id;cases ho:o id with
 | none=>simp [ho] at h
 | some ob =>
  cases ob<;>simp only[ho] at h;rename_i ents clock;rw[hM] at hm;obtain⟨b,rfl,hph,hrep⟩:=XD hi hm ho;obtain⟨es,hes,hE,hsz,hall,hsrt,hlt⟩:=YW (id:=id) hi hrep;have hw:w.heap[b]?=some (.map es clock):=by rw[← hp];exact hes
  have hget:=Z8 (P:=P) hw;unfold putE at h;cases hf:QN (isA P kt) ks (X.ev ev) ents with
  | none=>simp [hf] at h
  | some r =>
   have hck:=JR hl hk hE hf w false;have hfk:=Yl hl hk w hE hf;simp only[hf] at h;cases r with
   | none =>
    simp only at h;have hput:=Jv (P:=P) hp hi hph hes (ents':=ents++[(clock,X.ev ev,Y.ev ev)]) (es':=es.push ⟨xk,xv,clock⟩) (clock':=clock+1) (by simp [hsz]);have f1:∀ (j:Nat) en,(ents++[(clock,X.ev ev,Y.ev ev)])[j]?=some en→∃ x:MapEntry,(es.push ⟨xk,xv,clock⟩)[j]?=some x∧x.born=en.1∧Rep c en.2.1 x.key∧Rep c en.2.2 x.val:=fun j en hj=>by
     rcases Nat.lt_or_ge j ents.length with hjl|hjl
     ·rw[List.getElem?_append_left hjl] at hj;obtain⟨x,hx,hh⟩:=hall j en hj
      exact⟨x,by rw[Array.getElem?_push,if_neg OM];exact hx,hh⟩
     ·rw[List.getElem?_append_right hjl] at hj;have hj0:j=ents.length:=by
       have:=(List.getElem?_eq_some_iff.1 hj).1
       simp at this;omega
      subst hj0;simp at hj;subst hj
      exact⟨⟨xk,xv,clock⟩,by rw[← hsz];simp,rfl,hk,hv⟩
    obtain⟨w',c',h1,h2,h3,h4,h5,h6⟩:=hput f1 (Qar hsrt hlt) (Qbo hlt)
    refine⟨w',c',_,?_,⟨h2,h3,h4,h5,h6,.jk _⟩,h⟩
    unfold Instr.mapUpdate;simp only[Sem.run_bind,run_underlying hu,Result.andThen_ok,hget,hck,hfk,Option.bind_none];exact h1
   | some j =>
    obtain⟨en,hen,heq⟩:=QaG hf;obtain⟨st,k',v'⟩:=en;obtain⟨y,hy,hyb,hyk,hyv⟩:=hall j _ hen;simp only[hen,Option.map_some] at h;have hsb:=Qal hl heq hk hyk;have hjl:j < ents.length:=(List.getElem?_eq_some_iff.1 hen).1;have hput:=Jv (P:=P) hp hi hph hes (ents':=ents.set j (st,X.ev ev,Y.ev ev)) (es':=es.modify j fun e=>{ e with key:=xk,val:=xv }) (clock':=clock) (by simp [hsz]);obtain⟨w',c',h1,h2,h3,h4,h5,h6⟩:=hput (QgB hall hen hy hyb hk hv) (VL hsrt hen) (QcX hlt hen)
    refine⟨w',c',_,?_,⟨h2,h3,h4,h5,h6,.jk _⟩,h⟩
    have hyl:es.toList[j]?=some y:=by rw[Array.getElem?_toList];exact hy
    unfold Instr.mapUpdate;simp only[Sem.run_bind,run_underlying hu,Result.andThen_ok,hget,hck,hfk,Option.bind_some,hyl,Option.map_some,hy,Option.getD_some,Instr.keyThatStays,hsb,if_true,Sem.run_pure];exact h1
def Qan {ents:List (Nat × V × V)} {es:Array MapEntry} (hall:∀ (j:Nat) en,ents[j]?=some en→∃ x:MapEntry,es[j]?=some x∧x.born=en.1∧Rep c en.2.1 x.key∧Rep c en.2.2 x.val) {st:Nat} {x:V × V} (hen:ents[j]?=some (st,x)) {y:MapEntry} (hy:es[j]?=some y) {f:MapEntry→MapEntry}
  {v:V} (hyb:(f y).born=st) (hk:Rep c k (f y).key) (hv:Rep c v (f y).val):∀ (i:Nat) en,(ents.set j (st,k,v))[i]?=some en→∃ x:MapEntry,(es.modify j f)[i]?=some x∧x.born=en.1∧Rep c en.2.1 x.key∧Rep c en.2.2 x.val:=by
 intro i en hj;rw[List.getElem?_set] at hj;rw[Array.getElem?_modify];split at hj
 ·rename_i hij;subst hij;rw[if_pos (List.getElem?_eq_some_iff.1 hen).1] at hj;cases hj
  exact⟨f y,by simp [hy],hyb,hk,hv⟩
 ·rename_i hij;obtain⟨x,hx,hh⟩:=hall i en hj
  exact⟨x,by rw[if_neg hij];exact hx,hh⟩
def QdV {ents:List (Nat × V × V)} {es:Array MapEntry} (hsz:es.size=ents.length) (hall:∀ (j:Nat) en,ents[j]?=some en→∃ x:MapEntry,es[j]?=some x∧x.born=en.1∧Rep c en.2.1 x.key∧Rep c en.2.2 x.val) {v:V} (hk:Rep c k xk) (hv:Rep c v xv) :
  ∀ (j:Nat) en,(ents++[(clock,k,v)])[j]?=some en→∃ x:MapEntry,(es.push ⟨xk,xv,clock⟩)[j]?=some x∧x.born=en.1∧Rep c en.2.1 x.key∧Rep c en.2.2 x.val:=fun j en hj=>by
 rcases Nat.lt_or_ge j ents.length with hjl|hjl
 ·rw[List.getElem?_append_left hjl] at hj;obtain⟨x,hx,hh⟩:=hall j en hj
  exact⟨x,by rw[Array.getElem?_push,if_neg OM];exact hx,hh⟩
 ·rw[List.getElem?_append_right hjl] at hj;have hj0:j=ents.length:=by
   have:=(List.getElem?_eq_some_iff.1 hj).1
   simp at this;omega
  subst hj0;simp at hj;subst hj
  exact⟨⟨xk,xv,clock⟩,by rw[← hsz];simp,rfl,hk,hv⟩
def VT {c:Cx} {v:V} (hu:Rep c u x) (hv:Rep c v y):Rep c (.tp [u,v]) (.tuple #[x,y]):=by
 refine .tp _ _ rfl fun j a b ha hb=>?_
 match j with
 | 0=>simp at ha hb;subst ha;subst hb;exact hu
 | 1=>simp at ha hb;subst ha;subst hb;exact hv
 | j+2=>simp at ha
def QgT {ev:E} {X:Od} (hp:c.heap=w.heap) (hi:Inv c o) (hu:P.underlying t=some (.map kt et)) (hl:lfs P LD kt=some ks) {z:V} (hz:Qa8 P et=some z) (hm:Rep c (M.ev ev) xm) (hk:Rep c (X.ev ev) xk) (h:W cl ev o K (.men (isA P kt) ks z M X)):Eff P c w (Instr.mapEntry t xm xk) K:=by
 obtain⟨zv,hzr,hz2⟩:=HG c hz w;simp only[W] at h;cases hM:M.ev ev<;>simp only[hM] at h;rename_i id;cases ho:o id with
 | none=>simp [ho] at h
 | some ob =>
  cases ob<;>simp only[ho] at h;rename_i ents clock;rw[hM] at hm;obtain⟨b,rfl,hph,hrep⟩:=XD hi hm ho;obtain⟨es,hes,hE,hsz,hall,hsrt,hlt⟩:=YW (id:=id) hi hrep;have hw:w.heap[b]?=some (.map es clock):=by rw[← hp];exact hes
  have hget:=Z8 (P:=P) hw;cases hf:QN (isA P kt) ks (X.ev ev) ents with
  | none=>simp [hf] at h
  | some r =>
   have hck:=JR hl hk hE hf w false;have hfk:=Yl hl hk w hE hf;simp only[hf] at h;cases r with
   | none =>
    simp only at h;obtain⟨w',c',h1,h2,h3,h4,h5,h6⟩:=Jv (P:=P) hp hi hph hes (ents':=ents++[(clock,X.ev ev,z)]) (es':=es.push ⟨xk,zv,clock⟩) (clock':=clock+1) (by simp [hsz]) (QdV hsz hall hk hz2) (Qar hsrt hlt) (Qbo hlt)
    refine⟨_,w',c',_,_,?_,⟨h2,h3,h4,h5,h6,VT (hz2.ext h2 hi.sep) (.i .i64 clock)⟩,h⟩
    unfold Instr.mapEntry;simp only[Sem.run_bind,run_underlying hu,Result.andThen_ok,hget,hck,hfk,Option.bind_none,hzr,h1,Sem.run_pure];rfl
   | some j =>
    obtain⟨en,hen,heq⟩:=QaG hf;obtain⟨st,k',v'⟩:=en;obtain⟨y,hy,hyb,hyk,hyv⟩:=hall j _ hen;simp only[hen] at h;have hsb:=Qal hl heq hk hyk;obtain⟨w',c',h1,h2,h3,h4,h5,h6⟩:=Jv (P:=P) hp hi hph hes (ents':=ents.set j (st,X.ev ev,v')) (es':=es.modify j fun e=>{ e with key:=xk }) (clock':=clock) (by simp [hsz]) (Qan hall hen hy hyb hk hyv) (VL hsrt hen) (QcX hlt hen)
    refine⟨_,w',c',_,_,?_,⟨h2,h3,h4,h5,h6,VT (hyv.ext h2 hi.sep) (.i .i64 st)⟩,h⟩
    have hyl:es.toList[j]?=some y:=by rw[Array.getElem?_toList];exact hy
    unfold Instr.mapEntry;simp only[Sem.run_bind,run_underlying hu,Result.andThen_ok,hget,hck,hfk,Option.bind_some,hyl,Option.map_some,hy,Option.getD_some,Instr.keyThatStays,hsb,if_true,Sem.run_pure,h1];simp only[goInt,hyb]
def Qc3 {ents:List (Nat × V × V)} (hs:(ents.map (·.1)).Pairwise (· < ·)) {i:Nat} {a b:Nat × V × V} (ha:ents[i]?=some a) (hb:ents[j]?=some b) (h:a.1=b.1):i=j:=by
 have key:∀ (i j:Nat) (a b:Nat × V × V),i < j→ents[i]?=some a→ents[j]?=some b→a.1 < b.1:=by
  intro i j a b hij ha hb;have hil:=(List.getElem?_eq_some_iff.1 ha).1;have hjl:=(List.getElem?_eq_some_iff.1 hb).1
  have:(ents.map (·.1))[i]'(by simpa using hil) < (ents.map (·.1))[j]'(by simpa using hjl):=List.pairwise_iff_getElem.1 hs i j (by simpa using hil) (by simpa using hjl) hij
  simp only[List.getElem_map] at this;rw[(List.getElem?_eq_some_iff.1 ha).2,(List.getElem?_eq_some_iff.1 hb).2] at this;exact this
 rcases Nat.lt_trichotomy i j with hij|hij|hij
 ·have:=key i j a b hij ha hb;omega
 ·exact hij
 ·have:=key j i b a hij hb ha;omega
def Qgo {ev:E} {S:Od} (hp:c.heap=w.heap) (hi:Inv c o) {xs:Value} (hm:Rep c (M.ev ev) xm) (hs:Rep c (S.ev ev) xs) (hv:Rep c (Y.ev ev) xv) (h:W cl ev o K (.est M S Y)):EffU P c w (Instr.entryStore t xm xs xv) K:=by
 simp only[W] at h;cases hM:M.ev ev<;>cases hS:natV (S.ev ev)<;>simp only[hM,hS] at h;rename_i id st;cases ho:o id with
 | none=>simp [ho] at h
 | some ob =>
  cases ob<;>simp only[ho] at h;rename_i ents clock;obtain⟨⟨en,hen,hst⟩,hK⟩:=h;rw[hM] at hm;obtain⟨b,rfl,hph,hrep⟩:=XD hi hm ho;obtain⟨es,hes,hE,hsz,hall,hsrt,hlt⟩:=YW (id:=id) hi hrep;have hw:w.heap[b]?=some (.map es clock):=by rw[← hp];exact hes
  have hget:=Z8 (P:=P) hw;have hint:(asInt xs).run P w=.ok (st:Int) w:=by
   cases hSv:S.ev ev<;>rw[hSv] at hS hs<;>simp only[natV,reduceCtorEq] at hS;cases hs;split at hS
   ·rename_i hn;cases hS;simp [asInt,asIntOf,Int.toNat_of_nonneg hn]
   ·cases hS
  obtain⟨j0,hj0⟩:=List.getElem?_of_mem hen;obtain⟨y0,hy0,hyb0,_⟩:=hall j0 en hj0;cases hfi:es.findIdx? (fun e=>(e.born:Int)==(st:Int)) with
  | none =>
   have:=(Array.findIdx?_eq_none_iff.1 hfi) y0 (Array.mem_of_getElem? hy0)
   simp [hyb0,hst] at this
  | some i =>
   obtain⟨hil,hpi,_⟩:=Array.findIdx?_eq_some_iff_getElem.1 hfi;have hyi:es[i]?=some es[i]:=Array.getElem?_eq_getElem hil;have hie:i < ents.length:=by rw[← hsz];exact hil
   have hei:ents[i]?=some ents[i]:=List.getElem?_eq_getElem hie;obtain⟨y,hy,hyb,hyk,hyv⟩:=hall i _ hei;rw[hyi] at hy;cases hy;have hsi:(ents[i]).1=st:=by rw[← hyb];have:=eq_of_beq hpi;omega
   have hmap:(ents.map fun x=>if x.1=st then (x.1,x.2.1,Y.ev ev) else x)=ents.set i (st,(ents[i]).2.1,Y.ev ev):=by
    apply List.ext_getElem?;intro a;rw[List.getElem?_map,List.getElem?_set];split
    ·rename_i hia;subst hia;rw[hei];simp [hsi,hie]
    ·rename_i hia;cases ha:ents[a]? with
     | none=>rfl
     | some x =>
      have:x.1≠st:=fun hx=>hia (Qc3 hsrt hei ha (by rw[hsi,hx]))
      simp [this]
   rw[hmap] at hK;have hei2:ents[i]?=some (st,(ents[i]).2):=by rw[hei,← hsi]
   obtain⟨w',c',h1,h2,h3,h4,h5,h6⟩:=Jv (P:=P) hp hi hph hes (ents':=ents.set i (st,(ents[i]).2.1,Y.ev ev)) (es':=es.modify i fun e=>{ e with val:=xv }) (clock':=clock) (by simp [hsz]) (Qan hall hei2 hyi (by rw[← hsi,← hyb]) hyk hv) (VL hsrt hei2) (QcX hlt hei2)
   refine⟨w',c',_,?_,⟨h2,h3,h4,h5,h6,.jk _⟩,hK⟩
   unfold Instr.entryStore;simp only[Sem.run_bind,Result.andThen_ok,hget,hint,hfi,Sem.run_pure];exact h1
def QeA {ev:E} {X:Od} (hp:c.heap=w.heap) (hi:Inv c o) (hu:P.underlying t=some (.map kt et)) (hx:Rep c (X.ev ev) x) (h:W cl ev o K (.mlen X)):Eff P c w (Builtin.len_ #[t] ty #[x]) K:=by
 simp only[W,rv] at h;cases hX:X.ev ev<;>simp only[hX] at h
 ·rename_i id;cases ho:o id with
  | none=>simp [ho] at h
  | some ob =>
   cases ob<;>simp only[ho] at h;rename_i ents clock;rw[hX] at hx;obtain⟨b,rfl,hph,hrep⟩:=XD hi hx ho;obtain⟨es,hes,hE,hsz,_⟩:=YW (id:=id) hi hrep;have hw:w.heap[b]?=some (.map es clock):=by rw[← hp];exact hes
   have hget:=Z8 (P:=P) hw;refine QK hp hi (x:=goInt es.size) ?_ (by rw[hsz];exact .i _ _) h;simp only[Builtin.len_,List.getElem?_toArray,List.getElem?_cons_zero,Sem.run_bind,run_underlying hu,Result.andThen_ok,hget,Sem.run_pure]
 ·rw[hX] at hx;cases hx;refine QK hp hi (x:=goInt 0) ?_ (.i _ _) h;simp only[Builtin.len_,List.getElem?_toArray,List.getElem?_cons_zero,Sem.run_bind,run_underlying hu,Result.andThen_ok,Sem.run_pure]
end
section
variable {P:Program} {c:Cx} {o:O} {w:World}
def Qil {ev:E} (hp:c.heap=w.heap) (hi:Inv c o) (hu:P.underlying t=some (.map kt et)) (hm:Rep c (M.ev ev) xm) (h:W cl ev o K (.rng M)):Eff P c w (Instr.range t xm) K:=by
 simp only[W] at h;cases hM:M.ev ev<;>simp only[hM] at h
 ·rename_i mid;cases ho:o mid with
  | none=>simp [ho] at h
  | some ob =>
   cases ob<;>simp only[ho] at h;rename_i ents clock;rw[hM] at hm;obtain⟨b,rfl,hph,hrep⟩:=XD hi hm ho;obtain⟨es,hes,_⟩:=YW (id:=mid) hi hrep;have hw:w.heap[b]?=some (.map es clock):=by rw[← hp];exact hes
   have hget:=Z8 (P:=P) hw;have hlt:=(hi.lt _ _ _ hph).1;refine Eff.alloc (w1:=w) (ob:=.mapIter (some b) clock #[] clock) (sz:=0) (x:=.iter (some mid) clock [] clock) (f:=fun id=>.it id) (val:=fun b=>.pointer (some ⟨b,0,none⟩)) hp hi rfl rfl (⟨rfl,rfl,by first|exact Nat.le_refl _|exact Nat.le_add_right _ _⟩) ?_ ?_ ?_ h
   ·simp [Instr.range,run_underlying hu,Result.andThen,hget]
   ·refine⟨rfl,some b,QO _ _ _,Nat.lt_trans hlt (Yf _ _ _),b,rfl,.inl ?_⟩
    simp only[Cx.alloc,upd];rw[if_neg OM];exact hph
   ·exact .it _ _ (ZN _ _ _) (Yf _ _ _)
 ·rw[hM] at hm;cases hm;refine Eff.alloc (w1:=w) (ob:=.mapIter none 0 #[] 0) (sz:=0) (x:=.iter none 0 [] 0) (f:=fun id=>.it id) (val:=fun b=>.pointer (some ⟨b,0,none⟩)) hp hi rfl rfl (⟨rfl,rfl,by first|exact Nat.le_refl _|exact Nat.le_add_right _ _⟩) ?_ ?_ ?_ h
  ·simp [Instr.range,run_underlying hu,Result.andThen]
  ·exact⟨rfl,none,QO _ _ _,rfl⟩
  ·exact .it _ _ (ZN _ _ _) (Yf _ _ _)
def Qa5 (w:World) (n:Nat):∃ (j:Nat) (w1:World),(0 < n→j < n)∧w1.heap=w.heap∧w1.os=w.os∧Ot w w1∧(choose (Question.mapNext n)).run P w=.ok j w1:=by
 by_cases hf:n≤1
 ·exact⟨0,w,fun h=>h,rfl,rfl,⟨rfl,rfl,by first|exact Nat.le_refl _|exact Nat.le_add_right _ _⟩,by simp [choose,Sem.run,Question.forced,hf]⟩
 ·exact⟨_,w.drew,fun h=>Nat.mod_lt _ h,rfl,rfl,⟨rfl,rfl,by first|exact Nat.le_refl _|exact Nat.le_add_right _ _⟩,by
   simp only[choose,Sem.run,Question.forced,decide_eq_true_eq,hf,if_false,Question.cut];rfl⟩
def Qb2 {c:Cx} {v z:V} {q:Value} (hu:Rep c u x) (hv:Rep c v y) (hz:Rep c z q):Rep c (.tp [u,v,z]) (.tuple #[x,y,q]):=by
 refine .tp _ _ rfl fun j a b ha hb=>?_
 match j with
 | 0=>simp at ha hb;subst ha;subst hb;exact hu
 | 1=>simp at ha hb;subst ha;subst hb;exact hv
 | 2=>simp at ha hb;subst ha;subst hb;exact hz
 | j+3=>simp at ha
def X2 {c:Cx} (hu:Rep c u x):Rep c (.tp [u]) (.tuple #[x]):=by
 refine .tp _ _ rfl fun j a b ha hb=>?_
 match j with
 | 0=>simp at ha hb;subst ha;subst hb;exact hu
 | j+1=>simp at ha
def Qaf (hi:Inv c o) {id:Nat} (hx:Rep c (.it id) x) {mp:Option Nat} {since stepped:Nat} {seen:List Nat} (ho:o id=some (.iter mp since seen stepped)) :
  ∃ b mpb,x=.pointer (some ⟨b,0,none⟩)∧c.ph id=some (b,0)∧c.heap[b]?=some (.mapIter mpb since seen.toArray stepped)∧(mp=none→mpb=none) ∧
   ∀ mid,mp=some mid→mid < c.n∧∃ b',mpb=some b'∧(c.ph mid=some (b',0)∨c.ph mid=none):=by
 obtain⟨b,sz,hp,hr⟩:=hi.ob id _ ho;obtain⟨rfl,mpb,hb,hm⟩:=hr;cases hx with
 | it _ b2 hp2 =>
  rw[hp] at hp2;cases hp2
  refine⟨b,mpb,rfl,hp,hb,fun h=>?_,fun mid h=>?_⟩
  ·subst h;exact hm
  ·subst h;exact hm
 | itd _ _ hn=>rw[hp] at hn;cases hn
def Qit {ev:E} {X:Od} (hp:c.heap=w.heap) (hi:Inv c o) (hx:Rep c (X.ev ev) x) (h:W cl ev o K (.nxt X)):Eff P c w (Instr.next x false ty) K:=by
 simp only[W] at h;cases hX:X.ev ev<;>simp only[hX] at h;rename_i id;rw[hX] at hx;cases ho:o id with
 | none=>simp [ho] at h
 | some ob =>
  cases ob<;>simp only[ho] at h;rename_i mp since seen stepped;obtain⟨b,mpb,rfl,hph,hb,hm0,hm1⟩:=Qaf hi hx ho;have hbw:w.heap[b]?=some (.mapIter mpb since seen.toArray stepped):=by rw[← hp];exact hb
  have hgi:(getObj b).run P w=.ok (.mapIter mpb since seen.toArray stepped) w:=by simp [getObj,Sem.run,hbw]
  cases mp with
  | none =>
   obtain rfl:=hm0 rfl;simp only at h;refine QK hp hi (x:=.tuple #[.bool false]) ?_ (X2 (.bo false)) h;simp only[Instr.next,Sem.run_bind,hgi,Result.andThen_ok,Sem.run_pure]
  | some mid =>
   obtain⟨hmn,b',rfl,hmp⟩:=hm1 mid rfl;cases hom:o mid with
   | none=>simp [hom] at h
   | some ob =>
    cases ob<;>simp only[hom] at h;rename_i ents clock;obtain⟨b2,sz2,hph2,hrep⟩:=hi.ob mid _ hom;obtain rfl:sz2=0:=hrep.1;have hbb:b2=b':=by
     rcases hmp with hmp|hmp
     ·rw[hph2] at hmp;cases hmp;rfl
     ·rw[hph2] at hmp;cases hmp
    subst hbb;obtain⟨es,hes,hE,hsz,hall,hsrt,hlt⟩:=YW (id:=mid) hi hrep;have hw:w.heap[b2]?=some (.map es clock):=by rw[← hp];exact hes
    have hget:=Z8 (P:=P) hw;obtain⟨hst,hk0,hk1⟩:=h;have back:∀ e∈es,∃ en∈ents,e.born=en.1∧Rep c en.2.1 e.key∧Rep c en.2.2 e.val:=by
     intro e he;obtain⟨a,ha,hae⟩:=Array.getElem_of_mem he;have hal:a < ents.length:=by rw[← hsz];exact ha
     obtain⟨y,hy,h2,h3,h4⟩:=hall a _ (List.getElem?_eq_getElem hal);rw[Array.getElem?_eq_getElem ha,hae] at hy;cases hy
     exact⟨_,List.getElem_mem hal,h2,h3,h4⟩
    have fwd:∀ en∈ents,∃ e∈es,e.born=en.1:=by
     intro en hen;obtain⟨a,ha⟩:=List.getElem?_of_mem hen;obtain⟨y,hy,h2,_⟩:=hall a en ha
     exact⟨y,Array.mem_of_getElem? hy,h2⟩
    have htest:(!seen.toArray.isEmpty&&!es.isEmpty&&es.all (fun e=>decide (e.born≥stepped)))=false:=by
     rcases hst with rfl|rfl|⟨en,hen,hl⟩
     ·simp
     ·have:es=#[]:=Array.eq_empty_of_size_eq_zero (by simpa using hsz)
      subst this;simp
     ·obtain⟨e,he,hb1⟩:=fwd en hen
      have:es.all (fun e=>decide (e.born≥stepped))=false:=by
       rw[Array.all_eq_false];obtain⟨a,ha,hae⟩:=Array.getElem_of_mem he
       exact⟨a,ha,by rw[hae,hb1];simp;omega⟩
      simp [this]
    generalize hleft:es.filter (fun e=>!seen.toArray.contains e.born)=left;have hlm:∀ e,e∈left↔e∈es∧e.born ∉ seen:=by
     intro e;rw[← hleft];simp
    generalize hcand:(if (left.filter (fun e=>decide (e.born < since))).isEmpty then #[none] else #[])++(left.filter (fun e=>decide (e.born < since))++left.filter (fun e=>decide (e.born≥since))).map some=cand;obtain⟨j,w1,hj,g1,g2,⟨g3.output,g3.tape,g3.drawn⟩,hch⟩:=Qa5 (P:=P) w cand.size;have hpos:0 < cand.size:=by
     rw[← hcand];by_cases he:(left.filter (fun e=>decide (e.born < since))).isEmpty=true
     ·rw[if_pos he];simp;omega
     ·rw[if_neg he]
      have:(left.filter (fun e=>decide (e.born < since))).size≠0:=fun h0=>he (by simpa [Array.isEmpty] using h0)
      simp only[Array.size_append,Array.size_map,List.size_toArray,List.length_nil];omega
    have hjl:=hj hpos;have hrun:(Instr.next (.pointer (some ⟨b,0,none⟩)) false ty).run P w=(match cand[j]? with
      | some (some e)=>(do setObj b (.mapIter (some b2) since (seen.toArray.push e.born) clock);pure (.tuple #[.bool true,e.key,e.val]):Sem Value)
      | some none=>pure (.tuple #[.bool false])
      | none => stuck "Next: no such candidate").run P w1 := by
     simp only[Instr.next,Sem.run_bind,hgi,Result.andThen_ok,hget,htest,Bool.false_eq_true,if_false,hleft,hcand,hch];rfl
    have hcj:=Array.getElem?_eq_getElem hjl;cases hcv:cand[j] with
    | none =>
     rw[hcv] at hcj;rw[hcj] at hrun;have hold:(left.filter (fun e=>decide (e.born < since))).isEmpty=true:=by
      by_cases he:(left.filter (fun e=>decide (e.born < since))).isEmpty=true
      ·exact he
      ·exfalso;have hmem:=Array.mem_of_getElem? hcj;rw[← hcand,if_neg he] at hmem;simp at hmem
     refine⟨_,w1,c,_,o,hrun,⟨Ext.refl c,by rw[g1];exact hp,g2,⟨g3.output,g3.tape,g3.drawn⟩,hi,X2 (.bo false)⟩,hk0 fun en hen hlt=>?_⟩
     obtain⟨e,he,hb1⟩:=fwd en hen;by_cases hs:en.1∈seen
     ·exact hs
     ·exfalso;have hle:e∈left:=(hlm e).2 ⟨he,by rw[hb1];exact hs⟩
      have:e∈left.filter (fun e=>decide (e.born < since)):=by simp [hle];omega
      have h0:left.filter (fun e=>decide (e.born < since))=#[]:=Array.isEmpty_iff.1 hold;rw[h0] at this;simp at this
    | some e =>
     rw[hcv] at hcj;rw[hcj] at hrun;have hel:e∈left:=by
      have hmem:=Array.mem_of_getElem? hcj;rw[← hcand] at hmem;rcases Array.mem_append.1 hmem with hm|hm
      ·split at hm<;>simp at hm
      ·simp at hm;rcases hm with hm|hm
       ·exact hm.1
       ·exact hm.1
     obtain⟨hees,hens⟩:=(hlm e).1 hel;obtain⟨en,hen,e1,e2,e3⟩:=back e hees;have hbw1:w1.heap[b]?=some (.mapIter (some b2) since seen.toArray stepped):=by rw[g1];exact hbw
     have hsame:∀ arr1 t1 fz,c.heap[b]?=some (Obj.cells arr1 t1 fz)→∃ arr',Obj.mapIter (some b2) since (seen.toArray.push e.born) clock=Obj.cells arr' t1 fz∧arr'.size=arr1.size:=by
      intro arr1 t1 fz h;rw[hb] at h;cases h
     have hblt:b < c.heap.size:=(hi.lt _ _ _ hph).2.1;have hEx:=Zi hi hph hsame
     refine⟨_,{ w1 with heap:=w1.heap.setIfInBounds b (.mapIter (some b2) since (seen.toArray.push e.born) clock) },c.set b (.mapIter (some b2) since (seen.toArray.push e.born) clock),_,upd o id (some (.iter (some mid) since (seen++[en.1]) clock)),?_,⟨hEx,?_,g2,⟨g3.output,g3.tape,g3.drawn⟩,Js hi hph hsame ?_,Qb2 (.bo true) (e2.ext hEx hi.sep) (e3.ext hEx hi.sep)⟩,hk1 en hen (by rw[← e1];exact hens)⟩
     ·rw[hrun];simp only[Sem.run_bind,setObj,Sem.run,hbw1,Result.andThen_ok];rfl
     ·simp [Cx.set,g1,hp]
     ·refine⟨rfl,some b2,?_,?_⟩
      ·simp only[Cx.set];rw[Array.getElem?_setIfInBounds_self_of_lt hblt,e1];simp
      ·exact⟨hmn,b2,rfl,.inl hph2⟩
end
section
variable {P:Program} {c:Cx} {o:O} {w:World}
def QgF {ev:E} {X:Od} (hp:c.heap=w.heap) (hi:Inv c o) (hu:P.underlying t=some (.map kt et)) (hl:lfs P LD kt=some ks) (hm:Rep c (M.ev ev) xm) (hk:Rep c (X.ev ev) xk) (h:W cl ev o K (.del (isA P kt) ks M X)):Eff P c w (Builtin.delete_ #[t] ty #[xm,xk]) K:=by
 simp only[W] at h;cases hM:M.ev ev<;>simp only[hM] at h;rename_i id;cases ho:o id with
 | none=>simp [ho] at h
 | some ob =>
  cases ob<;>simp only[ho] at h;rename_i ents clock;rw[hM] at hm;obtain⟨b,rfl,hph,hrep⟩:=XD hi hm ho;obtain⟨es,hes,hE,hsz,hall,hsrt,hlt⟩:=YW (id:=id) hi hrep;have hw:w.heap[b]?=some (.map es clock):=by rw[← hp];exact hes
  have hget:=Z8 (P:=P) hw;cases hf:QN (isA P kt) ks (X.ev ev) ents with
  | none=>simp [hf] at h
  | some r =>
   have hck:=JR hl hk hE hf w es.isEmpty;have hfk:=Yl hl hk w hE hf;simp only[hf] at h;cases r with
   | none =>
    simp only at h;obtain⟨w',c',h1,h2,h3,h4,h5,h6⟩:=Jv (P:=P) hp hi hph hes (ents':=ents) (es':=es) (clock':=clock) hsz hall hsrt hlt
    refine⟨.tuple #[],w',c',_,_,?_,⟨h2,h3,h4,h5,h6,.tp _ _ rfl fun j a b ha hb=>by simp at ha⟩,h⟩
    simp only[Builtin.delete_,List.getElem?_toArray,List.getElem?_cons_zero,List.getElem?_cons_succ,Sem.run_bind,run_underlying hu,Result.andThen_ok,hget,hck,hfk,Option.bind_none,h1,Sem.run_pure]
   | some j =>
    have hjl:=D3 hf;have hjs:j < es.size:=by rw[hsz];exact hjl
    simp only at h;obtain⟨w',c',h1,h2,h3,h4,h5,h6⟩:=Jv (P:=P) hp hi hph hes (ents':=ents.eraseIdx j) (es':=es.eraseIdxIfInBounds j) (clock':=clock) (by
      rw[← Array.length_toList,Array.toList_eraseIdxIfInBounds,List.length_eraseIdx,List.length_eraseIdx,Array.length_toList,hsz]) (fun i en hj=>by
      rw[List.getElem?_eraseIdx] at hj;have e1:(es.eraseIdxIfInBounds j)[i]?=if i < j then es[i]? else es[i+1]?:=by
       rw[← Array.getElem?_toList,← Array.getElem?_toList,← Array.getElem?_toList,Array.toList_eraseIdxIfInBounds,List.getElem?_eraseIdx]
      rw[e1];split at hj
      ·rename_i hij;obtain⟨x,hx,hh⟩:=hall i en hj;exact⟨x,by rw[if_pos hij];exact hx,hh⟩
      ·rename_i hij;obtain⟨x,hx,hh⟩:=hall (i+1) en hj;exact⟨x,by rw[if_neg hij];exact hx,hh⟩)
     (hsrt.sublist ((List.eraseIdx_sublist ents j).map _)) (fun en he=>hlt en (List.mem_of_mem_eraseIdx he))
    have hyl:∃ y,es.toList[j]?=some y:=⟨_,List.getElem?_eq_getElem (by simpa using hjs)⟩;obtain⟨y,hyl⟩:=hyl
    refine⟨.tuple #[],w',c',_,_,?_,⟨h2,h3,h4,h5,h6,.tp _ _ rfl fun j a b ha hb=>by simp at ha⟩,h⟩
    simp only[Builtin.delete_,List.getElem?_toArray,List.getElem?_cons_zero,List.getElem?_cons_succ,Sem.run_bind,run_underlying hu,Result.andThen_ok,hget,hck,hfk,Option.bind_some,hyl,Option.map_some,h1,Sem.run_pure]
def Qiw {ev:E} {X:Od} (hp:c.heap=w.heap) (hi:Inv c o) (hx:Rep c (X.ev ev) x) (h:W cl ev o K (.ent X)):Eff P c w (Instr.entry x) K:=by
 simp only[W,rv] at h;cases hv:entV o (X.ev ev) with
 | none=>simp [hv] at h
 | some v =>
  simp only[hv] at h;cases hX:X.ev ev<;>simp only[hX,entV,reduceCtorEq] at hv;rename_i id;rw[hX] at hx;cases ho:o id with
  | none=>simp [ho] at hv
  | some ob =>
   cases ob<;>simp only[ho,reduceCtorEq] at hv;rename_i mp since seen stepped;cases mp with
   | none=>simp at hv
   | some mid =>
    simp only at hv;obtain⟨b,mpb,rfl,hph,hb,hm0,hm1⟩:=Qaf hi hx ho;obtain⟨hmn,b',rfl,hmp⟩:=hm1 mid rfl;have hbw:w.heap[b]?=some (.mapIter (some b') since seen.toArray stepped):=by rw[← hp];exact hb
    have hgi:(getObj b).run P w=.ok (.mapIter (some b') since seen.toArray stepped) w:=by simp [getObj,Sem.run,hbw]
    cases hom:o mid with
    | none=>simp [hom] at hv
    | some ob =>
     cases ob<;>simp only[hom,reduceCtorEq] at hv;rename_i ents clock;cases hgl:seen.getLast? with
     | none=>simp [hgl] at hv
     | some st =>
      simp only[hgl] at hv;split at hv
      ·rename_i hcs;subst hcs;cases hfd:ents.find? (fun x=>x.1==st) with
       | none=>simp [hfd] at hv
       | some en =>
        obtain⟨s1,k,u⟩:=en;simp only[hfd,Option.some.injEq] at hv;subst hv;obtain⟨b2,sz2,hph2,hrep⟩:=hi.ob mid _ hom;obtain rfl:sz2=0:=hrep.1;have hbb:b2=b':=by
         rcases hmp with hmp|hmp
         ·rw[hph2] at hmp;cases hmp;rfl
         ·rw[hph2] at hmp;cases hmp
        subst hbb;obtain⟨es,hes,hE,hsz,hall,hsrt,hlt⟩:=YW (id:=mid) hi hrep;have hw:w.heap[b2]?=some (.map es clock):=by rw[← hp];exact hes
        have hget:=Z8 (P:=P) hw;have hmem:=List.mem_of_find?_eq_some hfd;have hs1:s1=st:=by have:=List.find?_some hfd;simpa using this
        obtain⟨a,ha⟩:=List.getElem?_of_mem hmem;obtain⟨y,hy,hyb,hyk,hyv⟩:=hall a _ ha;have hfe:es.find? (fun e=>e.born==st)=some y:=by
         cases hq:es.find? (fun e=>e.born==st) with
         | none =>
          have:=Array.find?_eq_none.1 hq y (Array.mem_of_getElem? hy)
          simp [hyb,hs1] at this
         | some z =>
          have hz1:z.born=st:=by have:=Array.find?_some hq;simpa using this
          have hz2:=Array.mem_of_find?_eq_some hq;obtain⟨i,hil,hie⟩:=Array.getElem_of_mem hz2;have hil2:i < ents.length:=by rw[← hsz];exact hil
          obtain⟨y2,hy2,hyb2,_⟩:=hall i _ (List.getElem?_eq_getElem hil2);rw[Array.getElem?_eq_getElem hil,hie] at hy2;cases hy2
          have:i=a:=Qc3 hsrt (List.getElem?_eq_getElem hil2) ha (by rw[← hyb2,hz1,hs1])
          subst this;rw[Array.getElem?_eq_getElem hil,hie] at hy;exact hy
        have hback:seen.toArray.back?=some st:=by simpa using hgl
        refine QK hp hi (x:=.tuple #[y.key,y.val]) ?_ (VT hyk hyv) h;simp only[Instr.entry,Sem.run_bind,hgi,Result.andThen_ok,hback,hget,bne_self_eq_false,Bool.false_eq_true,if_false,hfe,Sem.run_pure]
      ·cases hv
end
def QkF (h:n≤2147483648):IntKind.wrap .i64 (n:Int)=n:=by
 simp only[IntKind.wrap,IntKind.bits,IntKind.signed]
 have:(n:Int) % 2 ^ 64=n:=Int.emod_eq_of_lt OM OM
 simp only[this];rw[if_neg (by simp;omega)]
section
variable {P:Program} {c:Cx} {o:O} {w:World}
def QeP {k:IntKind} (ht:P.underlying t=some (.slice el)) (hk:P.underlying tx=some (.int k)) (hi:P.info? el=some i) (a:Option Addr) :
  (Builtin.append_ #[t,tx] ty #[.slice a 0 0,.int k2 0]).run P w=.ok (.slice a 0 0) w:=by
 have h0:IntKind.wrap .i64 0=0:=QkF (n:=0) OM;cases a with
 | none=>simp [Builtin.append_,run_underlying ht,run_underlying hk,sizeOf,typeInfo,hi,asInt,asIntOf,h0,Result.andThen]
 | some a=>simp [Builtin.append_,run_underlying ht,run_underlying hk,sizeOf,typeInfo,hi,asInt,asIntOf,h0,Result.andThen,storeCells]
def Qg6 {z:Value} {k:IntKind} (ht:P.underlying t=some (.slice el)) (hk:P.underlying tx=some (.int k)) (hi:P.info? el=some i) (hz:i.zero=some z) (hs0:0 < i.size) (a:Option Addr) (hn:0 < n) (hso:Zl n i.bytes) :
  (Builtin.append_ #[t,tx] ty #[.slice a 0 0,.int k2 n]).run P w=.ok (.slice (some ⟨w.heap.size,0,none⟩) n (grownCap w n 0 el))
   { w.drew with heap:=w.drew.heap.push (.cells (Builtin.zeroCells z.cells n++Builtin.zeroCells z.cells (grownCap w n 0 el - n)) el) }:=by
 have hwr:=QkF hso.1;have hold:(Builtin.firstCells i.size 0 (.slice a 0 0)).run P w.drew=.ok ([]:List Value).toArray w.drew:=by
  cases a with
  | none=>exact run_firstCells_none w.drew _ _ _ _
  | some a=>exact run_firstCells_some w.drew _ _ _ _ _ [] SM (fun j v h=>by simp at h)
 have hb:n*i.bytes≤281474976710656:=by
  have:=Nat.mul_le_mul hso.1 hso.2;omega
 have hb':¬ (281474976710656 < (n:Int)*(i.bytes:Int)):=by
  have:((n*i.bytes:Nat):Int)=(n:Int)*(i.bytes:Int):=by simp
  omega
 have hfit:=QbR (need:=n) (cap:=0) hn hso;have h48:¬ (281474976710656 < Builtin.nextslicecap n 0*i.bytes):=by omega
 have h63:¬ (9223372036854775807 < (n:Int)):=by have:=hso.1;omega
 have hn0:n≠0:=by omega
 have hs1:i.size≠0:=by omega
 have hneg:¬ ((n:Int) < 0):=by omega
 simp [Builtin.append_,run_underlying ht,run_underlying hk,sizeOf,typeInfo,zeroValue,hi,hz,asInt,asIntOf,hwr,hneg,hb',hn0,hs1,h63,h48,Question.forced,hold,newRow,grownCap,Result.andThen];rw[if_neg (Nat.mul_ne_zero hn0 hs1)];rfl
def QhS {ev:E} {X N:Od} (hp:c.heap=w.heap) (hi:Inv c o) {k:IntKind} (ht:P.underlying t=some (.slice el)) (hk:P.underlying tx=some (.int k)) (hok:okT P el=true) (hzc:Yx P el=some z) (hzl:z.length=P.cellsOf el)
  {xn:Value} (hx:Rep c (X.ev ev) xx) (hn:Rep c (N.ev ev) xn) (h:W cl ev o K (.apz (P.cellsOf el) (P.bytesOf el) z X N)):Eff P c w (Builtin.append_ #[t,tx] ty #[xx,xn]) K:=by
 obtain⟨i,zv,hinf,hz,hzz,hone⟩:=Yz hzc;obtain⟨hs0,_,_,_⟩:=QM hok;have esz:P.cellsOf el=i.size:=by simp [Program.cellsOf,hinf]
 have eby:P.bytesOf el=i.bytes:=by simp [Program.bytesOf,hinf]
 simp only[W] at h;rw[esz] at hs0;rw[esz,eby] at h;have e2:zv.cells.size=i.size:=by rw[← esz,← hzl,hzz];simp
 cases hN:natV (N.ev ev) with
 | none=>simp [hN] at h
 | some n =>
  simp only[hN] at h;have hxn:∃ k2,xn=.int k2 (n:Int):=by
   cases hNv:N.ev ev<;>rw[hNv] at hN hn<;>simp only[natV,reduceCtorEq] at hN;cases hn;split at hN
   ·rename_i h0;cases hN
    exact⟨_,by rw[Int.toNat_of_nonneg h0]⟩
   ·cases hN
  obtain⟨k2,rfl⟩:=hxn;cases hX:X.ev ev<;>simp only[hX] at h;obtain⟨hso,h0,h1⟩:=h;rw[hX] at hx;cases hx with
  | nil a =>
   by_cases hn0:n=0
   ·subst hn0;exact QK hp hi (QeP ht hk hinf a) (.nil a) (h0 rfl)
   ·have hrun:=Qg6 (P:=P) (w:=w) (ty:=ty) (k2:=k2) ht hk hinf hz hs0 a (Nat.pos_of_ne_zero hn0) hso;have hge:=grownCap_ge w n 0 el;have hne:z≠[]:=fun h=>by rw[h] at hzl;simp at hzl;omega
    have hzr:∀ c:Cx,Reps c z zv.cells.toList:=fun c=>by
     refine⟨by rw[hzz];simp,fun j v x hv hx=>?_⟩
     rw[hzz,List.getElem?_map,hx] at hv;cases hv;exact Vm c x
    have h1c:∀ (j:Nat) y,zv.cells[j]?=some y→oneC y=true:=fun j y hy=>List.all_eq_true.1 hone y (List.mem_of_getElem? (by rw[Array.getElem?_toList];exact hy));refine Eff.alloc (w1:=w.drew) (sz:=i.size) (x:=.row i.size (List.replicate n z)) (f:=fun id=>.rw id i.size 0 n) (val:=fun b=>.slice (some ⟨b,0,none⟩) n (grownCap w n 0 el)) hp hi rfl rfl (⟨rfl,rfl,by first|exact Nat.le_refl _|exact Nat.le_add_right _ _⟩) hrun ?_ ?_ (h1 hn0)
    ·refine QF.2 ⟨rfl,hs0,fun e he=>by rw[List.eq_of_mem_replicate he,hzl,esz],_,el,QO _ _ _,?_⟩;have hcz:=KT (l:=n) (m:=n) hne (hzr (c.alloc (.cells (Builtin.zeroCells zv.cells n++Builtin.zeroCells zv.cells (grownCap w n 0 el - n)) el) i.size)) h1c (Nat.le_refl _)
     have:=hcz.longer (Builtin.zeroCells zv.cells (grownCap w n 0 el - n)).toList
     rw[hzl,esz] at this;rw[Array.toList_append];simpa [Builtin.zeroCells,e2] using this
    ·have:=Rep.rw (c:=c.alloc (.cells (Builtin.zeroCells zv.cells n++Builtin.zeroCells zv.cells (grownCap w n 0 el - n)) el) i.size) c.n i.size 0 n _ (grownCap w n 0 el) (ZN _ _ _) (Yf _ _ _) hge ⟨_,_,QO _ _ _,by
       simp [Builtin.zeroCells,e2,← Nat.add_mul];rw[Nat.add_sub_cancel' hge];exact Nat.le_refl _⟩
     simpa using this
def J8 (ht:P.underlying t=some (.slice el)) (a:Option Addr) (cp:Nat):(Builtin.clear_ #[t] ty #[.slice a 0 cp]).run P w=.ok (.tuple #[]) w:=by
 cases a<;>simp [Builtin.clear_,run_underlying ht]
def Qbr {zv:Value} (ht:P.underlying t=some (.slice el)) (hi:P.info? el=some i) (hz:i.zero=some zv) {cp:Nat} (hn:0 < n)
  (hst:(storeCells d (Builtin.zeroCells zv.cells n).toList).run P w=.ok () w'):(Builtin.clear_ #[t] ty #[.slice (some d) n cp]).run P w=.ok (.tuple #[]) w':=by
 match n,hn with
 | n+1,_=>simp [Builtin.clear_,run_underlying ht,zeroValue,typeInfo,hi,hz,hst]
def QbZ {ev:E} {X:Od} (hp:c.heap=w.heap) (hi:Inv c o) (ht:P.underlying t=some (.slice el)) (hok:okT P el=true) (hzc:Yx P el=some z) (hzl:z.length=P.cellsOf el) (hx:Rep c (X.ev ev) xx) (h:W cl ev o K (.clr z X)):Eff P c w (Builtin.clear_ #[t] ty #[xx]) K:=by
 obtain⟨i,zv,hinf,hz,hzz,hone⟩:=Yz hzc;obtain⟨hs0,_,_,_⟩:=QM hok;have hru:Rep c (.tp []) (.tuple #[]):=.tp _ _ rfl fun j a b ha hb=>by simp at ha
 simp only[W] at h;cases hX:X.ev ev<;>simp only[hX] at h
 case nil =>
  rw[hX] at hx;cases hx with
  | nil a=>exact QK hp hi (J8 ht a _) hru h
 case rw id sz' off len =>
  obtain⟨hz',h⟩:=h;cases ho:o id with
  | none=>simp [ho] at h
  | some ob =>
   cases ob<;>simp only[ho] at h;rename_i s es;obtain⟨hle,hK⟩:=h;obtain⟨b,sz,hph,hr⟩:=hi.ob id _ ho;obtain⟨rfl,hs1,hl2,arr,ty2,hb,hz2⟩:=QF.1 hr;rw[hX] at hx;cases hx with
   | rw0 _ _ _ a hn =>
    have hK2:K (.tp []) o:=by
     have:es.take off++List.replicate 0 z++es.drop (off+0)=es:=by simp
     rw[this] at hK;have e2:upd o id (some (.row s es))=o:=by
      funext j
      by_cases hj:j=id
      ·subst hj;simp [upd,ho]
      ·simp [upd,hj]
     rw[e2] at hK;exact hK
    exact QK hp hi (J8 ht a _) hru hK2
   | rwd _ _ _ _ _ _ hn=>rw[hph] at hn;cases hn
   | rw _ _ _ _ b2 cap hp2 hn hc hf =>
    rw[hph] at hp2;cases hp2;by_cases hl0:len=0
    ·subst hl0;have hK2:K (.tp []) o:=by
      have:es.take off++List.replicate 0 z++es.drop (off+0)=es:=by simp
      rw[this] at hK;have e2:upd o id (some (.row sz' es))=o:=by
       funext j
       by_cases hj:j=id
       ·subst hj;simp [upd,ho]
       ·simp [upd,hj]
      rw[e2] at hK;exact hK
     exact QK hp hi (J8 ht _ _) hru hK2
    have hne:z≠[]:=fun h=>by rw[h] at hzl;simp at hzl;omega
    have hzr:Reps c z zv.cells.toList:=by
     refine⟨by rw[hzz];simp,fun j v x hv hx=>?_⟩
     rw[hzz,List.getElem?_map,hx] at hv;cases hv;exact Vm c x
    have h1c:∀ (j:Nat) y,zv.cells[j]?=some y→oneC y=true:=fun j y hy=>List.all_eq_true.1 hone y (List.mem_of_getElem? (by rw[Array.getElem?_toList];exact hy));have e2:zv.cells.size=z.length:=by rw[hzz];simp
    have h3:=KT (l:=len) (m:=len) hne hzr h1c (Nat.le_refl _);have h3:Cz c sz' (List.replicate len z) (Builtin.zeroCells zv.cells len).toList:=by
     unfold Builtin.zeroCells;rw[e2];rw[hz'] at h3 ⊢;rw[← hz',← e2];rw[← hz',← e2] at h3;exact h3
    have hnl:(Builtin.zeroCells zv.cells len).toList.length=(List.replicate len z).length*sz':=by simp [Builtin.zeroCells,e2,hz']
    have h4:∀ u∈(Builtin.zeroCells zv.cells len).toList,oneC u=true:=by
     intro u hu;simp only[Builtin.zeroCells,Array.toList_map,Array.toList_range,List.mem_map,List.mem_range] at hu;obtain⟨j,_,rfl⟩:=hu;have hp0:0 < zv.cells.size:=by rw[e2];exact List.length_pos_iff.2 hne
     have hjm:j % zv.cells.size < zv.cells.size:=Nat.mod_lt _ hp0;rw[getElem!_pos zv.cells _ hjm];exact h1c _ _ (Array.getElem?_eq_getElem hjm)
    have hrl:∀ e∈List.replicate len z,e.length=sz':=fun e he=>by rw[List.eq_of_mem_replicate he];exact hz'
    obtain⟨q1,q2⟩:=hz2.over hl2 h3 hrl hnl (off:=off) (by simpa using hle);rw[List.length_replicate] at q2;have hbw:w.heap[b]?=some (.cells arr ty2 (0,0)):=by rw[← hp];exact hb
    have hst:=HD (P:=P) hbw (o:=off*sz') (vs:=(Builtin.zeroCells zv.cells len).toList) (by simpa using q1) h4;have hsame:∀ arr1 t1 fz,c.heap[b]?=some (Obj.cells arr1 t1 fz)→∃ arr',Obj.cells (wr arr.toList (Builtin.zeroCells zv.cells len).toList (off*sz')).toArray ty2 (0,0)=Obj.cells arr' t1 fz∧arr'.size=arr1.size:=by
     intro arr1 t1 fz h;rw[hb] at h;cases h
     exact⟨_,rfl,by simp [Xa q1]⟩
    have hblt:b < c.heap.size:=(hi.lt _ _ _ hph).2.1
    refine⟨_,w.setRow b (wr arr.toList (Builtin.zeroCells zv.cells len).toList (off*sz')).toArray,c.set b (.cells (wr arr.toList (Builtin.zeroCells zv.cells len).toList (off*sz')).toArray ty2 (0,0)),_,_,Qbr ht hinf hz (Nat.pos_of_ne_zero hl0) hst,⟨Zi hi hph hsame,?_,rfl,⟨rfl,rfl,by first|exact Nat.le_refl _|exact Nat.le_add_right _ _⟩,Js hi hph hsame ?_,.tp _ _ rfl fun j a b ha hb=>by simp at ha⟩,hK⟩
    ·rw[ZT hbw];simp [Cx.set,hp]
    ·refine QF.2 ⟨rfl,hs1,fun e he=>?_,_,ty2,by simp only[Cx.set];rw[Array.getElem?_setIfInBounds_self_of_lt hblt],?_⟩
     ·rcases List.mem_append.1 he with he|he
      ·rcases List.mem_append.1 he with he|he
       ·exact hl2 e (List.mem_of_mem_take he)
       ·exact hrl e he
      ·exact hl2 e (List.mem_of_mem_drop he)
     ·exact Cz.ext (Zi hi hph hsame) hi.sep (by simpa using q2)
end
section
variable {P:Program} {c:Cx} {ob:O} {w:World} {e:E} {a:Act}
def Qg1 (hr:∀ t,Rep c (e t) (a.tmps.getD t undef)) (hp:c.heap=w.heap) (hi:Inv c ob) {x:Operand} (hok:okT P t=true) {v:V} (h:rv e ob (.ld (P.cellsOf t) (isA P t) (cO x))=some v) :
  ∃ r,(Instr.loadAt t (a.eval x)).run P w=.ok r w∧Rep c v r:=by
 simp only[rv] at h;cases hc:Qz ob ((cO x).ev e) with
 | none=>simp [hc] at h
 | some y =>
  obtain⟨cs,j⟩:=y;simp only[hc] at h;obtain⟨b,off,he,hh⟩:=QcZ hi (YQ hi.gl hr x) hc;rw[he];obtain⟨r,h1,h2⟩:=WY hp hok hh h
  exact⟨r,by simp only[Instr.loadAt,Instr.sureAddr,Sem.run_bind,Sem.run_pure,Result.andThen_ok,h1],h2⟩
def Qm4 (hr:∀ t,Rep c (e t) (a.tmps.getD t undef)) (hp:c.heap=w.heap) (hi:Inv c ob) {o:Oper} {im:Bool} (hs:sup (cop P im o)=true) (h:W (Snd P) e ob K (cop P im o)):OpR P c w a o K:=by
 have R:=fun x=>YQ hi.gl hr x;by_cases hq:∃ q,QhY q=false∧cop P im o=.q q
 ·obtain⟨q,hnl,hq⟩:=hq;rw[hq] at h;simp only[W,rv] at h;cases hv:qv e q with
  | none=>simp [hv] at h
  | some v =>
   simp only[hv] at h;obtain⟨r,h1,h2⟩:=q_ok w hi.gl hr hnl hq hv
   refine⟨fun nxt Q hn=>?_⟩
   unfold Oper.wp;rw[h1];exact hn r w c v ob (After.same hp hi h2 rfl rfl (⟨rfl,rfl,by first|exact Nat.le_refl _|exact Nat.le_add_right _ _⟩)) h
 generalize hj:cop P im o=j at h hs hq;obtain⟨dst,op,type,pos,after,guard⟩:=o;cases op<;>simp only[cop] at hj<;>(first|(subst hj;exact (hq ⟨_,rfl,rfl⟩).elim)|(subst hj;exact h.elim)|skip)
 case alloc t =>
  split at hj
  ·rename_i z hz;rcases QV hj with⟨h1,rfl⟩|rfl
   ·exact OpR.val rfl (QcN hp hi hz (by simpa using h1) h)
   ·exact h.elim
  ·subst hj;exact h.elim
 case box t x =>
  subst hj;exact OpR.val rfl (QiH hp hi (R x) h.1 h.2)
 case buildSlice t n ps =>
  split at hj
  ·rename_i el hu;split at hj
   ·rename_i z hz;rcases QV hj with⟨h1,rfl⟩|rfl
    ·simp only[Bool.and_eq_true,Bool.or_eq_true,decide_eq_true_eq,beq_iff_eq,List.isEmpty_iff] at h1;cases im with
     | true=>simp only[if_true] at h;exact OpR.val rfl (Qhr (cl:=Snd P) hr hp hi hu h1.1.1.1 hz h1.1.1.2 h1.2 h)
     | false=>simp only[Bool.false_eq_true,if_false] at h;exact OpR.val rfl (XL hr hp hi hu h1.1.1.1 hz h1.1.1.2 h1.2 (fun h0=>h1.1.2.resolve_left OM) h)
    ·exact h.elim
   ·subst hj;exact h.elim
  ·subst hj;exact h.elim
 case load t x =>
  rcases QV hj with⟨h1,rfl⟩|rfl
  ·simp only[Bool.and_eq_true] at h1;simp only[W] at h;cases hv:rv e ob (.ld (P.cellsOf t) (isA P t) (cO x)) with
   | none=>simp [hv] at h
   | some v =>
    simp only[hv] at h;obtain⟨r,h2,h3⟩:=Qg1 hr hp hi h1.1 hv;exact OpR.val rfl (QK hp hi h2 h3 h)
  ·exact h.elim
 case store t x y =>
  rcases QV hj with⟨h1,rfl⟩|rfl
  ·simp only[W] at h;refine OpR.uni rfl ?_;have hx:=R x;cases hX:(cO x).ev e<;>simp only[hX] at h<;>(first|exact h.elim|skip);rename_i id i j;rw[hX] at hx;cases ho:ob id with
   | none=>simp [ho] at h
   | some obj =>
    cases obj<;>simp only[ho] at h<;>(first|exact h.elim|skip);rename_i s es;cases hes:es[i]? with
    | none=>simp [hes] at h
    | some cs =>
     simp only[hes] at h;exact QdM hp hi h1 hx (R y) ho hes h.1 h.2.1 h.2.2
  ·exact h.elim
 case build t ps =>
  split at hj
  ·split at hj
   ·rcases QV hj with⟨_,rfl⟩|rfl
    ·exact (hq ⟨_,rfl,rfl⟩).elim
    ·exact h.elim
   ·subst hj;exact h.elim
  ·split at hj
   ·rcases QV hj with⟨_,rfl⟩|rfl
    ·exact (hq ⟨_,rfl,rfl⟩).elim
    ·exact h.elim
   ·subst hj;exact h.elim
  ·subst hj;exact h.elim
 case binOp op t x y yt =>
  have isn:∀ (mp neg:Bool) (d:TypeDesc),P.underlying t=some d→op=(if neg then .neq else .eql) →
    ((mp=false∧∃ e,d=.pointer e∧a.eval y=.pointer none)∨(mp=true∧∃ k e,d=.map k e∧a.eval y=.map none))→W (Snd P) e ob K (.isn mp neg (cO x))→OpR P c w a ⟨dst,.binOp op t x y yt,type,pos,after,guard⟩ K:=by
   intro mp neg d hu hop hd h;simp only[W,rv] at h;cases hv:isnV ob mp neg ((cO x).ev e) with
   | none=>simp [hv] at h
   | some v =>
    simp only[hv] at h;obtain⟨r,h2,h3⟩:=QgK w hi mp neg t x y hu (R x) hd hv;subst hop;exact OpR.val rfl (QK hp hi h2 h3 h)
  have isz:∀ (neg:Bool) (el:TypeId),P.underlying t=some (.slice el)→op=(if neg then .neq else .eql)→Dh y=true→W (Snd P) e ob K (.isz neg (cO x))→OpR P c w a ⟨dst,.binOp op t x y yt,type,pos,after,guard⟩ K:=by
   intro neg el hu hop hy h;have hys:∃ l q,a.eval y=.slice none l q:=by
    unfold Dh at hy;split at hy
    ·exact⟨_,_,rfl⟩
    ·cases hy
   obtain⟨l,q,hys⟩:=hys;simp only[W] at h;cases hv:szV ((cO x).ev e) with
   | none=>simp [hv] at h
   | some r =>
    obtain⟨p,h2,h3⟩:=Qh9 w neg t x y hu (R x) hys hv;simp only[hv] at h;subst hop;cases r with
    | true=>simp only at h;exact OpR.val rfl (QK hp hi h2 (.bo p) (by rw[h3 rfl];exact h))
    | false=>simp only at h;exact OpR.val rfl (QK hp hi h2 (.bo p) (h p))
  have np:DE y=true→a.eval y=.pointer none:=by
   intro hy;unfold DE at hy;split at hy
   ·rfl
   ·cases hy
  have nm:D4 y=true→a.eval y=.map none:=by
   intro hy;unfold D4 at hy;split at hy
   ·rfl
   ·cases hy
  unfold QdE at hj;split at hj
  ·subst hj;exact (hq ⟨_,rfl,rfl⟩).elim
  ·subst hj;exact (hq ⟨_,rfl,rfl⟩).elim
  ·split at hj
   ·rcases QV hj with⟨_,rfl⟩|rfl
    ·exact (hq ⟨_,rfl,rfl⟩).elim
    ·exact h.elim
   ·subst hj;exact h.elim
  ·split at hj
   ·rcases QV hj with⟨_,rfl⟩|rfl
    ·exact (hq ⟨_,rfl,rfl⟩).elim
    ·exact h.elim
   ·subst hj;exact h.elim
  ·split at hj
   ·rcases QV hj with⟨_,rfl⟩|rfl
    ·exact (hq ⟨_,rfl,rfl⟩).elim
    ·exact h.elim
   ·subst hj;exact h.elim
  ·split at hj
   ·rcases QV hj with⟨_,rfl⟩|rfl
    ·exact (hq ⟨_,rfl,rfl⟩).elim
    ·exact h.elim
   ·subst hj;exact h.elim
  ·rename_i hu;rcases QV hj with⟨h1,rfl⟩|rfl
   ·exact isn false false _ hu rfl (.inl ⟨rfl,_,rfl,np h1⟩) h
   ·exact h.elim
  ·rename_i hu;rcases QV hj with⟨h1,rfl⟩|rfl
   ·exact isn false true _ hu rfl (.inl ⟨rfl,_,rfl,np h1⟩) h
   ·exact h.elim
  ·rename_i hu;rcases QV hj with⟨h1,rfl⟩|rfl
   ·exact isn true false _ hu rfl (.inr ⟨rfl,_,_,rfl,nm h1⟩) h
   ·exact h.elim
  ·rename_i hu;rcases QV hj with⟨h1,rfl⟩|rfl
   ·exact isn true true _ hu rfl (.inr ⟨rfl,_,_,rfl,nm h1⟩) h
   ·exact h.elim
  ·rename_i hu;rcases QV hj with⟨h1,rfl⟩|rfl
   ·exact isz false _ hu rfl h1 h
   ·exact h.elim
  ·rename_i hu;rcases QV hj with⟨h1,rfl⟩|rfl
   ·exact isz true _ hu rfl h1 h
   ·exact h.elim
  ·subst hj;exact (hq ⟨_,rfl,rfl⟩).elim
  ·subst hj;exact (hq ⟨_,rfl,rfl⟩).elim
  ·subst hj;exact h.elim
 case makeMap t r =>
  cases r with
  | none=>subst hj;exact OpR.val rfl (Vy hp hi h)
  | some r=>subst hj;exact h.elim
 case makeSlice t l cc =>
  split at hj
  ·rename_i el hu;split at hj
   ·rename_i z hz;rcases QV hj with⟨h1,rfl⟩|rfl
    ·simp only[Bool.and_eq_true,decide_eq_true_eq,beq_iff_eq] at h1;simp only[W] at h;cases hl:natV ((cO l).ev e) with
     | none=>simp [hl] at h
     | some nl =>
      cases hc:natV ((cO cc).ev e) with
      | none=>simp [hl,hc] at h
      | some nc =>
       simp only[hl,hc] at h;exact OpR.val rfl (Kx hp hi hu h1.1.1 hz h1.1.2 h1.2 (R l) hl (R cc) hc h.1 h.2.1 h.2.2)
    ·exact h.elim
   ·subst hj;exact h.elim
  ·subst hj;exact h.elim
 case lookup t m k ok =>
  split at hj
  ·rename_i kt et hu;split at hj
   ·rename_i ks z hl hz;subst hj;simp only[W,rv] at h;cases hv:lkpV ob (isA P kt) ks z ok ((cO m).ev e) ((cO k).ev e) with
    | none=>simp [hv] at h
    | some v =>
     simp only[hv] at h;obtain⟨r,h2,h3⟩:=QaS w hp hi hu hl hz (R m) (R k) ok hv;exact OpR.val rfl (QK hp hi h2 h3 h)
   ·subst hj;exact h.elim
  ·subst hj;exact h.elim
 case call cc =>
  have hcall:execOp a.eval ⟨dst,.call cc,type,pos,after,guard⟩=(do let d ← resolve a.eval cc type;invoke d.target d.args):=rfl;unfold VX at hj;split at hj
  ·rename_i g hcal;rcases QV hj with⟨hb,rfl⟩|rfl
   ·have hrun:(execOp a.eval ⟨dst,.call cc,type,pos,after,guard⟩).run P w=.ok (.enter g (cc.args.map a.eval)) w:=by
     rw[hcall];unfold resolve;rw[hcal];have he:a.eval (.func g)=.func (.func g) #[] #[]:=rfl;simp only[he,Deferred.ofValue,Sem.run_bind,Sem.run_pure,Result.andThen_ok,invoke];have e1:#[]++cc.args.map a.eval++#[]=cc.args.map a.eval:=by simp
     rw[e1];exact KJ hb
    have hx:=D8 hi.gl hr cc.args;split at h
    ·simp only[W] at h;exact OpR.call hrun (h.2 c w _ hp hi hx)
    ·simp only[W] at h;obtain⟨r,h1,h2⟩:=h;exact OpR.call hrun (QjC hp hi hx h2 h1).2
   ·exact h.elim
  ·rename_i x _ hcal;have hrun:∀ g cs,(cO x).ev e=.fn g cs→ZZ P g=true→∃ xs:Array Value,Reps c cs xs.toList∧(execOp a.eval ⟨dst,.call cc,type,pos,after,guard⟩).run P w=.ok (.enter g (cc.args.map a.eval++xs)) w:=by
    intro g cs hx hb;have hX:=R x;rw[hx] at hX;generalize hz:a.eval x=z at hX;cases hX with
    | fn _ _ xs hl hh =>
     refine⟨xs,⟨by rw[Array.length_toList,hl],fun j v y hv hy=>hh j v y hv (by rw[← Array.getElem?_toList];exact hy)⟩,?_⟩
     rw[hcall];unfold resolve;rw[hcal];simp only[hz,Deferred.ofValue,Sem.run_bind,Sem.run_pure,Result.andThen_ok,invoke];have e1:#[]++cc.args.map a.eval=cc.args.map a.eval:=by simp
     rw[e1];exact KJ hb
   have hx:=D8 hi.gl hr cc.args;split at hj
   ·subst hj;simp only[W] at h;cases hX:(cO x).ev e<;>simp only[hX] at h<;>(first|exact h.elim|skip);rename_i g cs;obtain⟨xs,h1,h2⟩:=hrun g cs hX h.1;exact OpR.call h2 (h.2 c w _ hp hi (by simpa using hx.append h1))
   ·subst hj;simp only[W] at h;obtain⟨r,h,hK⟩:=h;cases hX:(cO x).ev e<;>simp only[hX] at h<;>(first|exact h.elim|skip);rename_i g cs;have hb:ZZ P g=true:=by obtain⟨_,_,h,_⟩:=h;exact h.1
    obtain⟨xs,h1,h2⟩:=hrun g cs hX hb;exact OpR.call h2 (QjC hp hi (by simpa using hx.append h1) hK h).2
  ·subst hj;exact h.elim
  ·rename_i b hb;have hres:∀ b',b=b'→(do let d ← resolve a.eval cc type;invoke d.target d.args)=builtin b' cc.argTypes type (cc.args.map fun|.const _=>true|_=>false) (cc.args.map a.eval):=by
    rintro b' rfl;unfold resolve;rw[hb];rfl
   have A1:∀ x:Operand,cc.args.toList=[x]→cc.args.map a.eval=#[a.eval x]:=fun x h=>by
    have ha:cc.args=#[x]:=by rw[← Array.toArray_toList (xs:=cc.args),h]
    rw[ha];simp
   have A2:∀ x y:Operand,cc.args.toList=[x,y]→cc.args.map a.eval=#[a.eval x,a.eval y]:=fun x y h=>by
    have ha:cc.args=#[x,y]:=by rw[← Array.toArray_toList (xs:=cc.args),h]
    rw[ha];simp
   have fin:(∃ q,QhY q=false∧j=.q q)∨j=.bad∨sup j=false→OpR P c w a ⟨dst,.call cc,type,pos,after,guard⟩ K:=by
    rintro (hh|rfl|hh)
    ·exact (hq hh).elim
    ·exact h.elim
    ·rw[hs] at hh;cases hh
   split at hj
   ·
    rename_i x t ts hargs hts;by_cases hmp:∃ kt et,P.underlying t=some (.map kt et)
    ·obtain⟨kt,et,hu⟩:=hmp;rw[hu] at hj;simp only at hj;subst hj;have hty:cc.argTypes=(t::ts).toArray:=by rw[← hts,Array.toArray_toList]
     have hL:execOp a.eval ⟨dst,.call cc,type,pos,after,guard⟩=(do pure (.value (← Builtin.len_ cc.argTypes type #[a.eval x]))):=by
      rw[hcall,hres _ rfl,A1 x hargs];rfl
     refine OpR.val hL ?_;obtain⟨r,w',c',v,o',h2,h3⟩:=QeA (ty:=type) hp hi hu (R x) h
     refine⟨r,w',c',v,o',?_,h3⟩
     rw[← h2,hty];simp [Builtin.len_]
    ·refine fin ?_;repeat' (split at hj)
     all_goals (first
      | exact absurd ⟨_,_,by assumption⟩ hmp
      | (subst hj;first|exact .inl ⟨_,rfl,rfl⟩|exact .inr (.inl rfl)|exact .inr (.inr rfl)))
   ·refine fin ?_;repeat' (split at hj)
    all_goals (subst hj;first|exact .inl ⟨_,rfl,rfl⟩|exact .inr (.inl rfl)|exact .inr (.inr rfl))
   ·
    rename_i x y t u ts hargs hts;split at hj
    ·rename_i el hu;split at hj
     ·rename_i k hu2;split at hj
      ·rename_i z hz;rcases QV hj with⟨h1,rfl⟩|rfl
       ·simp only[Bool.and_eq_true,decide_eq_true_eq,beq_iff_eq] at h1;have hty:cc.argTypes=(t::u::ts).toArray:=by rw[← hts,Array.toArray_toList]
        have hL:execOp a.eval ⟨dst,.call cc,type,pos,after,guard⟩=(do pure (.value (← Builtin.append_ cc.argTypes type #[a.eval x,a.eval y]))):=by
         rw[hcall,hres _ rfl,A2 x y hargs];rfl
        refine OpR.val hL ?_;obtain⟨r,w',c',v,o',h2,h3⟩:=QhS (ty:=type) hp hi hu hu2 h1.1.1.1 hz h1.1.1.2 (R x) (R y) h
        refine⟨r,w',c',v,o',?_,h3⟩
        rw[← h2,hty];simp [Builtin.append_]
       ·exact h.elim
      ·subst hj;exact h.elim
     ·rename_i e' hu2;rcases QV hj with⟨h1,rfl⟩|rfl
      ·simp only[Bool.and_eq_true,decide_eq_true_eq] at h1;obtain⟨z,hz,hzl⟩:=Qcr h1.1.1.2;have hty:cc.argTypes=(t::u::ts).toArray:=by rw[← hts,Array.toArray_toList]
       have hL:execOp a.eval ⟨dst,.call cc,type,pos,after,guard⟩=(do pure (.value (← Builtin.append_ cc.argTypes type #[a.eval x,a.eval y]))):=by
        rw[hcall,hres _ rfl,A2 x y hargs];rfl
       refine OpR.val hL ?_
       have:=QaY (ty:=type) hp hi hu hu2 h1.1.1.1 hz hzl (R x) (R y) h
       obtain⟨r,w',c',v,o',h2,h3⟩:=this
       refine⟨r,w',c',v,o',?_,h3⟩
       rw[← h2,hty];simp [Builtin.append_]
      ·exact h.elim
     ·subst hj;exact h.elim
    ·subst hj;exact h.elim
   ·
    rename_i x y t ts hargs hts;split at hj
    ·rename_i el hu;rcases QV hj with⟨h1,rfl⟩|rfl
     ·have hty:cc.argTypes=(t::ts).toArray:=by rw[← hts,Array.toArray_toList]
      have hL:execOp a.eval ⟨dst,.call cc,type,pos,after,guard⟩=(do pure (.value (← Builtin.copy_ cc.argTypes type #[a.eval x,a.eval y]))):=by
       rw[hcall,hres _ rfl,A2 x y hargs];rfl
      refine OpR.val hL ?_;obtain⟨r,w',c',v,o',h2,h3⟩:=Qec (ty:=type) (tx:=t) hp hi hu h1 (R x) (R y) h
      refine⟨r,w',c',v,o',?_,h3⟩
      rw[← h2,hty];simp [Builtin.copy_]
     ·exact h.elim
    ·subst hj;exact h.elim
   ·
    rename_i x t ts hargs hts;split at hj
    ·rename_i el hu;split at hj
     ·rename_i z hz;rcases QV hj with⟨h1,rfl⟩|rfl
      ·simp only[Bool.and_eq_true,beq_iff_eq] at h1;have hty:cc.argTypes=(t::ts).toArray:=by rw[← hts,Array.toArray_toList]
       have hL:execOp a.eval ⟨dst,.call cc,type,pos,after,guard⟩=(do pure (.value (← Builtin.clear_ cc.argTypes type #[a.eval x]))):=by
        rw[hcall,hres _ rfl,A1 x hargs];rfl
       refine OpR.val hL ?_;obtain⟨r,w',c',v,o',h2,h3⟩:=QbZ (ty:=type) hp hi hu h1.1 hz h1.2 (R x) h
       refine⟨r,w',c',v,o',?_,h3⟩
       rw[← h2,hty];simp [Builtin.clear_]
      ·exact h.elim
     ·subst hj;exact h.elim
    ·subst hj;exact h.elim
   ·
    rename_i m k t ts hargs hts;split at hj
    ·rename_i kt et hu;split at hj
     ·rename_i ks hl;subst hj;have hty:cc.argTypes=(t::ts).toArray:=by rw[← hts,Array.toArray_toList]
      have hL:execOp a.eval ⟨dst,.call cc,type,pos,after,guard⟩=(do pure (.value (← Builtin.delete_ cc.argTypes type #[a.eval m,a.eval k]))):=by
       rw[hcall,hres _ rfl,A2 m k hargs];rfl
      refine OpR.val hL ?_;obtain⟨r,w',c',v,o',h2,h3⟩:=QgF (ty:=type) hp hi hu hl (R m) (R k) h
      refine⟨r,w',c',v,o',?_,h3⟩
      rw[← h2,hty];simp [Builtin.delete_]
     ·subst hj;exact h.elim
    ·subst hj;exact h.elim
   all_goals (
    refine fin ?_;repeat' (split at hj)
    all_goals (first
     | (subst hj;exact .inl ⟨_,rfl,rfl⟩)
     | (subst hj;exact .inr (.inl rfl))
     | (rcases QV hj with⟨_,rfl⟩|rfl
        ·exact .inr (.inr rfl)
        ·exact .inr (.inl rfl))
     | (subst hj;exact .inr (.inr rfl))))
 case mapUpdate t m k v =>
  split at hj
  ·rename_i kt et hu;split at hj
   ·rename_i ks hl;subst hj;exact OpR.uni rfl (Qgm hp hi hu hl (R m) (R k) (R v) h)
   ·subst hj;exact h.elim
  ·subst hj;exact h.elim
 case mapEntry t m k =>
  split at hj
  ·rename_i kt et hu;split at hj
   ·rename_i ks z hl hz;subst hj;exact OpR.val rfl (QgT hp hi hu hl hz (R m) (R k) h)
   ·subst hj;exact h.elim
  ·subst hj;exact h.elim
 case entryStore t m s v =>
  subst hj;exact OpR.uni rfl (Qgo hp hi (R m) (R s) (R v) h)
 case makeFunc fn first cs =>
  cases fn<;>(first|(subst hj;exact h.elim)|skip);rcases QV hj with⟨_,rfl⟩|rfl
  ·exact (hq ⟨_,rfl,rfl⟩).elim
  ·exact h.elim
 case next x b =>
  cases b
  ·subst hj;exact OpR.val rfl (Qit hp hi (R x) h)
  ·subst hj;exact h.elim
 case entry x =>
  subst hj;exact OpR.val rfl (Qiw hp hi (R x) h)
 case range t x =>
  split at hj
  ·rename_i kt et hu;subst hj;exact OpR.val rfl (Qil hp hi hu (R x) h)
  ·subst hj;exact h.elim
 all_goals (
  repeat' (split at hj)
  all_goals (first
   | (subst hj;exact (hq ⟨_,rfl,rfl⟩).elim)
   | (subst hj;exact h.elim)
   | (subst hj;cases hs)
   | (rcases QV hj with⟨_,rfl⟩|rfl
      ·exact (hq ⟨_,rfl,rfl⟩).elim
      ·exact h.elim)))
end
def Stt (c0:Cx) (w0:World) (N:Nat) (e:E) (o:O) (a:Act) (w:World):Prop :=
 ∃ c,Ext c0 c∧c.heap=w.heap∧w.os=w0.os∧Ot w0 w∧Inv c o∧(∀ t,Rep c (e t) (a.tmps.getD t undef))∧a.tmps.size=N∧a.defers=[]
def Qeq (a:Act) (d:Option Nat) (x:Value) (hd:d.all (fun d=>decide (d < a.tmps.size))=true) (t:Nat) :
  (a.put d x).tmps.getD t undef=if d=some t then x else a.tmps.getD t undef:=by
 cases d with
 | none=>simp [Act.put]
 | some d =>
  simp only[Option.all_some,decide_eq_true_eq] at hd;by_cases h:d=t
  ·subst h;simp [Act.put,Array.getD_eq_getD_getElem?,hd]
  ·have hn:(some d=some t)=False:=by simp [h]
   simp only[Act.put,hn,if_false,Array.getD_eq_getD_getElem?];rw[Array.getElem?_setIfInBounds_ne h]
def Qaz (a:Act) (d:Option Nat) (x:Value):(a.put d x).tmps.size=a.tmps.size:=by cases d<;>simp [Act.put]
def Kc (a:Act) (d:Option Nat) (x:Value):(a.put d x).defers=a.defers:=by cases d<;>simp [Act.put]
def Qc1 (a:Act) (d:Option Nat) (t:Nat):d≠some t→(a.put d undef).tmps.getD t undef=a.tmps.getD t undef:=by
 intro h;cases d with
 | none=>simp [Act.put]
 | some d =>
  have h:d≠t:=fun hh=>h (by rw[hh]);simp only[Act.put,Array.getD_eq_getD_getElem?];rw[Array.getElem?_setIfInBounds_ne h]
def QfW (e:E) (d:Option Nat) (v:V) (t:Nat):put e d v t=if d=some t then v else e t:=by
 cases d with
 | none=>simp [put]
 | some d =>
  simp only[put,upd,Option.some.injEq];by_cases h:t=d
  ·subst h;simp
  ·rw[if_neg h,if_neg (fun hh=>h hh.symm)]
section
variable {P:Program} {c0:Cx} {w0:World} {N:Nat} {im:Nat→Bool} {ops:Array Oper} {Q:Exit→Act→World→Prop}
def QbJ (hs0:Sep c0) {op:Oper} (ho:ops[j]?=some op) (h:WSv (Snd P) (Yg P im N ops j) e o K) (hS:Stt c0 w0 N e o a w)
  {nxt:Act→World→Prop} (hn:∀ v o' a' w',K v o'→Stt c0 w0 N (put e (Yg P im N ops j).d v) o' a' w'→nxt a' w'):wpOp P ops Q j nxt a w:=by
 obtain⟨c,hE,hp,hos,hout,hi,hr,hsz,hdf⟩:=hS;have run:∀ (K:V→O→Prop),(Yg P im N ops j).d=op.dst→(∀ v o' a' w',K v o'→Stt c0 w0 N (put e op.dst v) o' a' w'→nxt a' w') →
   W (Snd P) e o K (cod (op.dst.all (fun d=>decide (d < N))&&sup (cop P (im j) op)) (cop P (im j) op))→op.wp P a w nxt Q:=by
  intro K hd hn hW;unfold cod at hW;split at hW
  ·rename_i hc;simp only[Bool.and_eq_true] at hc;refine (Qm4 hr hp hi hc.2 hW).wp nxt Q fun x w' c' v o' hA hK=>hn v o' _ w' hK ⟨c',Ext.trans hs0.lt hE hA.ext,hA.hp,by rw[hA.os,hos],Ot.trans hout hA.out,hA.inv,fun t=>?_,by rw[Qaz,hsz],by rw[Kc,hdf]⟩;rw[Qeq a op.dst x (by rw[hsz];exact hc.1),QfW];split
   ·exact hA.rep
   ·exact (hr t).ext hA.ext hi.sep
  ·exact hW.elim
 have skip:∀ v:V,v=.tp []→Stt c0 w0 N (put e op.dst v) o (a.put op.dst undef) w:=by
  rintro _ rfl
  refine⟨c,hE,hp,hos,hout,hi,fun t=>?_,by rw[Qaz,hsz],by rw[Kc,hdf]⟩
  rw[QfW];split
  ·rename_i hd
   have:(a.put op.dst undef).tmps.getD t undef=undef:=by
    rw[hd];simp only[Act.put,Array.getD_eq_getD_getElem?];rcases Nat.lt_or_ge t a.tmps.size with h|h
    ·simp [h]
    ·rw[Array.getElem?_eq_none (by simpa using h)];rfl
   rw[this];exact .tp _ _ rfl fun j v x hv=>by simp at hv
  ·rename_i hne;rw[Qc1 a op.dst t hne];exact hr t
 unfold wpOp;simp only[ho];unfold WSv at h;cases hg:op.guard with
 | none =>
  have hs:Yg P im N ops j={ d:=op.dst,g:=none,i:=cod (op.dst.all (fun d=>decide (d < N))&&sup (cop P (im j) op)) (cop P (im j) op),st:=[] }:=by simp only[Yg,ho,hg]
  rw[hs] at h hn;have hw:Region.wanted op (yielded ops a.tmps)=true:=by simp [Region.wanted,hg]
  rw[if_pos hw];exact .inl (run K (by rw[hs]) hn h)
 | some kp =>
  obtain⟨k,p⟩:=kp;cases ht:(ops[k]?).bind (·.dst) with
  | none =>
   have hs:Yg P im N ops j={ d:=op.dst,g:=none,i:=.bad,st:=[] }:=by simp only[Yg,ho,hg,ht]
   rw[hs] at h;exact h.elim
  | some t =>
   have hs:Yg P im N ops j={ d:=op.dst,g:=some (t,p),i:=cod (op.dst.all (fun d=>decide (d < N))&&sup (cop P (im j) op)) (cop P (im j) op),st:=[] }:=by simp only[Yg,ho,hg,ht]
   have hrt:=hr t;rw[hs] at h hn;cases he:e t<;>simp only[he,gdV] at h<;>(first|exact h.elim|skip)
   case bo q =>
    rw[he] at hrt;have hb:a.tmps[t]?=some (.bool q):=by
     cases hx:a.tmps[t]? with
     | none=>rw[Array.getD_eq_getD_getElem?,hx] at hrt;cases hrt
     | some x =>
      rw[Array.getD_eq_getD_getElem?,hx] at hrt;simp only[Option.getD_some] at hrt;cases hrt;rfl
    have hw:Region.wanted op (yielded ops a.tmps)=(q==p):=by
     simp [Region.wanted,hg,yielded,ht,hb]
    by_cases hqp:q=p
    ·rw[if_pos hqp] at h;rw[if_pos (by rw[hw];simp [hqp])];exact .inl (run K (by rw[hs]) hn h)
    ·rw[if_neg hqp] at h;rw[if_neg (by rw[hw];simp [hqp])];exact hn (.tp []) o _ w h (skip _ rfl)
   case tp vs =>
    rw[he] at hrt;have hb:∀ b,a.tmps[t]?≠some (.bool b):=by
     intro b hx;rw[Array.getD_eq_getD_getElem?,hx] at hrt;simp only[Option.getD_some] at hrt;cases hrt
    have hw:Region.wanted op (yielded ops a.tmps)=false:=by
     have:yielded ops a.tmps k=none:=by
      unfold yielded;rw[ht,Option.bind_some];split
      ·rename_i b hx;exact (hb b hx).elim
      ·rfl
     simp [Region.wanted,hg,this]
    rw[if_neg (by cases p<;>simp)] at h;rw[if_neg (by rw[hw];simp)];exact hn (.tp []) o _ w h (skip _ rfl)
def WS_v (hcl:Le cl cl) {s:Stp} {K:E→O→Prop} (h:WS cl s e o K):WSv cl s e o (fun v o'=>K (put e s.d v) o'):=by
 unfold WS at h;unfold WSv;cases hg:s.g with
 | none=>rw[hg] at h;exact W_le hcl (fun v o' hh=>hh.2) h
 | some z =>
  obtain⟨t,p⟩:=z;rw[hg] at h;simp only at h ⊢;cases he:gdV p (e t)<;>simp only[he] at h ⊢<;>(first|exact h.elim|skip);split
  ·rename_i hq;rw[if_pos hq] at h;exact W_le hcl (fun v o' hh=>hh.2) h
  ·rename_i hq;rw[if_neg hq] at h;exact h
def Qjp (hcl:Le (Snd P) (Snd P)) (hs0:Sep c0) {K:E→O→Prop} (hK:∀ e o a w,K e o→Stt c0 w0 N e o a w→Q .normal a w):∀ (l:List Nat),(∀ j∈l,j < ops.size)→∀ (e:E) (o:O) (a:Act) (w:World),wpR (Snd P) (l.map (Yg P im N ops)) K e o→Stt c0 w0 N e o a w →
  wpOps P ops Q l a w:=by
 intro l;induction l with
 | nil=>exact fun _ e o a w h hS=>hK e o a w h hS
 | cons j l ih =>
  intro hl e o a w h hS;have hj:j < ops.size:=hl j SM;rw[wpOps_cons];have h:WS (Snd P) (Yg P im N ops j) e o (wpR (Snd P) (l.map (Yg P im N ops)) K):=h;exact QbJ hs0 (Array.getElem?_eq_getElem hj) (WS_v hcl h) hS fun v o' a' w' hk hS'=>ih (fun i hi=>hl i (by simp [hi])) _ _ _ _ hk hS'
def Qdt:Le (Snd P) (Snd P):=by
 intro g as o K K' hk h
 refine⟨h.1,fun c w xs hp hi hr=>(h.2 c w xs hp hi hr).mono fun e w' hh=>?_⟩
 obtain⟨x,c',v,o',h1,h2,h3⟩:=hh
 exact⟨x,c',v,o',h1,h2,hk _ _ h3⟩
end
def bfF (b:Array Nat) (o:Oper):Nat:=o.after.foldl (fun s e=>if Region.binds .any e then s ||| 2 ^ e.on ||| b.getD e.on 0 else s) 0
def QaZ (b:Array Nat) (x:Nat):∀ (l:List Edge) (s:Nat),(l.foldl (fun s e=>if Region.binds .any e then s ||| 2 ^ e.on ||| b.getD e.on 0 else s) s).testBit x=true ↔
  s.testBit x=true∨∃ e∈l,Region.binds .any e=true∧(e.on=x∨bf b e.on x=true):=by
 intro l;induction l with
 | nil=>intro s;simp
 | cons e l ih =>
  intro s;rw[List.foldl_cons,ih];by_cases h:Region.binds .any e=true
  ·simp only[h,if_true,Nat.testBit_or,Bool.or_eq_true,Nat.testBit_two_pow,decide_eq_true_eq];constructor
   ·rintro (((h1|h1)|h1)|⟨e',h1,h2⟩)
    ·exact .inl h1
    ·exact .inr ⟨e,SM,h,.inl h1⟩
    ·exact .inr ⟨e,SM,h,.inr h1⟩
    ·exact .inr ⟨e',by simp [h1],h2⟩
   ·rintro (h1|⟨e',h1,h2,h3⟩)
    ·exact .inl (.inl (.inl h1))
    ·rcases List.mem_cons.1 h1 with rfl|h1
     ·rcases h3 with h3|h3
      ·exact .inl (.inl (.inr h3))
      ·exact .inl (.inr h3)
     ·exact .inr ⟨e',h1,h2,h3⟩
  ·simp only[h];constructor
   ·rintro (h1|⟨e',h1,h2⟩)
    ·exact .inl h1
    ·exact .inr ⟨e',by simp [h1],h2⟩
   ·rintro (h1|⟨e',h1,h2,h3⟩)
    ·exact .inl h1
    ·rcases List.mem_cons.1 h1 with rfl|h1
     ·exact (h h2).elim
     ·exact .inr ⟨e',h1,h2,h3⟩
def QaU {b b':Array Nat}:∀ (l:List Edge) (s:Nat),(∀ e∈l,Region.binds .any e=true→b.getD e.on 0=b'.getD e.on 0) →
  l.foldl (fun s e=>if Region.binds .any e then s ||| 2 ^ e.on ||| b.getD e.on 0 else s) s=l.foldl (fun s e=>if Region.binds .any e then s ||| 2 ^ e.on ||| b'.getD e.on 0 else s) s:=by
 intro l;induction l with
 | nil=>intro s _;rfl
 | cons e l ih =>
  intro s h;rw[List.foldl_cons,List.foldl_cons];have e1:(if Region.binds .any e then s ||| 2 ^ e.on ||| b.getD e.on 0 else s)=(if Region.binds .any e then s ||| 2 ^ e.on ||| b'.getD e.on 0 else s):=by
   by_cases hb:Region.binds .any e=true
   ·simp only[hb,if_true];rw[h e SM hb]
   ·simp [hb]
  rw[e1];exact ih _ fun e' he'=>h e' (by simp [he'])
def V3:∀ (L:List Oper) (acc:Array Nat),(∀ (k:Nat) o,L[k]?=some o→∀ e∈o.after.toList,Region.binds .any e=true→e.on < acc.size+k) →
  ∀ r,r=L.foldl (fun acc o=>acc.push (bfF acc o)) acc→r.size=acc.size+L.length∧(∀ i,i < acc.size→r[i]?=acc[i]?)∧∀ (k:Nat) o,L[k]?=some o→r[acc.size+k]?=some (bfF r o):=by
 intro L;induction L with
 | nil=>intro acc _ r hr;subst hr;simp
 | cons o L ih =>
  intro acc h r hr;rw[List.foldl_cons] at hr;obtain⟨h1,h2,h3⟩:=ih (acc.push (bfF acc o)) (fun k o' hk e he hb=>by
   have:=h (k+1) o' (by simpa using hk) e he hb
   rw[Array.size_push];omega) r hr
  rw[Array.size_push] at h1 h2 h3
  refine⟨by simp [h1];omega,fun i hi=>?_,fun k o' hk=>?_⟩
  ·rw[h2 i OM,Array.getElem?_push_lt hi,Array.getElem?_eq_getElem hi]
  ·cases k with
   | succ k =>
    have:=h3 k o' (by simpa using hk)
    rw[← this];congr 1;omega
   | zero =>
    simp at hk;subst hk;rw[Nat.add_zero,h2 _ OM];simp only[Array.getElem?_push_size,Option.some.injEq];unfold bfF;rw[← Array.foldl_toList,← Array.foldl_toList];apply QaU;intro e he hb
    have:=h 0 o rfl e he hb
    rw[Array.getD_eq_getD_getElem?,Array.getD_eq_getD_getElem?,h2 e.on OM,Array.getElem?_push_lt OM,Array.getElem?_eq_getElem OM]
def QfF (hb:Y0 ops=true) {y:Nat} {o:Oper} (ho:ops[y]?=some o) (x:Nat) :
  bf (Region.before ops) y x=true↔∃ e∈o.after,Region.binds .any e=true∧(e.on=x∨bf (Region.before ops) e.on x=true):=by
 have hedge:∀ (k:Nat) o,ops.toList[k]?=some o→∀ e∈o.after.toList,Region.binds .any e=true→e.on < (#[]:Array Nat).size+k:=by
  intro k o hk e he hbe;rw[Array.getElem?_toList] at hk;have hlt:=(Array.getElem?_eq_some_iff.1 hk).1;unfold Y0 at hb;have h1:=List.all_eq_true.1 hb k (by simpa using hlt);rw[Array.getD_eq_getD_getElem?,hk] at h1;have h2:=Array.all_eq_true_iff_forall_mem.1 h1 e (by simpa using he);simp only[hbe,Bool.not_true,Bool.false_or,decide_eq_true_eq] at h2;simpa using h2
 obtain⟨_,_,h3⟩:=V3 ops.toList #[] hedge (Region.before ops) (by unfold Region.before;rw[← Array.foldl_toList];rfl);have h4:=h3 y o (by rw[Array.getElem?_toList];exact ho);simp only[List.size_toArray,List.length_nil,Nat.zero_add] at h4;unfold bf;rw[Array.getD_eq_getD_getElem?,h4,Option.getD_some];unfold bfF;rw[← Array.foldl_toList,QaZ];simp only[Nat.zero_testBit,Bool.false_eq_true,false_or,Array.mem_toList_iff];exact Iff.rfl
def mkS (f:Nat→Stp) (b:Array Nat):List Nat→List Nat→List (Nat × Stp)
 | [],_=>[]
 | y::l,ahead=>(y,{ f y with st:=QaO f b y ahead })::mkS f b l (ahead++[y])
def Qig (f:Nat→Stp) (b:Array Nat):∀ (l ahead:List Nat),(mkS f b l ahead).map (·.2)=Qau f b l ahead:=by
 intro l;induction l with
 | nil=>intro ahead;rfl
 | cons y l ih=>intro ahead;simp [mkS,Qau,ih]
def Xc (f:Nat→Stp) (b:Array Nat):∀ (l ahead:List Nat),(mkS f b l ahead).map (·.1)=l:=by
 intro l;induction l with
 | nil=>intro ahead;rfl
 | cons y l ih=>intro ahead;simp [mkS,ih]
def Qlh (f:Nat→Stp) (b:Array Nat):∀ (l ahead:List Nat) (m1:List (Nat × Stp)) (Y:Nat × Stp) (m2:List (Nat × Stp)),mkS f b l ahead=m1++Y::m2 →
  Y.2={ f Y.1 with st:=QaO f b Y.1 (ahead++m1.map (·.1)) }:=by
 intro l;induction l with
 | nil=>intro ahead m1 Y m2 h;simp [mkS] at h
 | cons y l ih =>
  intro ahead m1 Y m2 h;cases m1 with
  | nil=>simp only[mkS,List.nil_append,List.cons.injEq] at h;rw[← h.1];simp
  | cons X m1 =>
   simp only[mkS,List.cons_append,List.cons.injEq] at h
   have:=ih _ m1 Y m2 h.2
   rw[this,← h.1];simp
def X1 (f:Nat→Stp) (b:Array Nat) (y:Nat):∀ (l bt:List Nat),J6 f b y l bt=true→∀ (l1:List Nat) (x:Nat) (l2:List Nat),l=l1++x::l2 →
  bf b x y=false∧(bf b y x=true∨Ds f y (l1.reverse++bt) x=true):=by
 intro l;induction l with
 | nil=>intro bt _ l1 x l2 h;simp at h
 | cons z l ih =>
  intro bt h l1 x l2 hl;simp only[J6,Bool.and_eq_true,Bool.or_eq_true,Bool.not_eq_true'] at h;cases l1 with
  | nil=>simp only[List.nil_append,List.cons.injEq] at hl;rw[← hl.1];exact⟨h.1.1,by simpa using h.1.2⟩
  | cons z' l1 =>
   simp only[List.cons_append,List.cons.injEq] at hl
   have:=ih _ h.2 l1 x l2 hl.2
   rw[List.reverse_cons,List.append_assoc,← hl.1];exact this
def QdG (f:Nat→Stp) (b:Array Nat):∀ (l rev:List Nat),H2 f b l rev=true→∀ (l1:List Nat) (y:Nat) (l2:List Nat),l=l1++y::l2→J6 f b y (l1.reverse++rev) []=true:=by
 intro l;induction l with
 | nil=>intro rev _ l1 y l2 h;simp at h
 | cons z l ih =>
  intro rev h l1 y l2 hl;simp only[H2,Bool.and_eq_true] at h;cases l1 with
  | nil=>simp only[List.nil_append,List.cons.injEq] at hl;rw[← hl.1];exact h.1
  | cons z' l1 =>
   simp only[List.cons_append,List.cons.injEq] at hl
   have:=ih _ h.2 l1 y l2 hl.2
   rw[List.reverse_cons,List.append_assoc,← hl.1];exact this
structure Gd (f:Nat→Stp) (b:Array Nat) (ms:List (Nat × Stp)):Prop where
 nd:(ms.map (·.1)).Nodup
 stp:∀ p∈ms,∃ st,p.2={ f p.1 with st:=st }∧(cls (f p.1).i≠4→st=[])
 two:∀ x y:Nat × Stp,List.Sublist [x,y] ms→bf b x.1 y.1=false∧(bf b y.1 x.1=true ∨
  if cls (f y.1).i=4 then cls (f x.1).i≤1∧WC (f x.1) (f y.1)=true∧(f x.1).wr (f x.1).uses=false∧(cls (f x.1).i=1→(f x.1).i∈y.2.st)
  else ZF (f x.1) (f y.1)=true)
 three:∀ x z y:Nat × Stp,List.Sublist [x,z,y] ms→bf b y.1 x.1=true∨cls (f y.1).i≠4∨(f z.1).wr (f x.1).uses=false
def Gd.sub {b:Array Nat} {ms ms':List (Nat × Stp)} (h:Gd f b ms) (hs:List.Sublist ms' ms):Gd f b ms' :=
 ⟨h.nd.sublist (hs.map _),fun p hp=>h.stp p (hs.subset hp),fun x y hxy=>h.two x y (hxy.trans hs),fun x z y hxy=>h.three x z y (hxy.trans hs)⟩
def Qcg {x y:α} {l:List α} (h:List.Sublist [x,y] l):∃ A B C,l=A++x::B++y::C:=by
 obtain⟨r1,r2,rfl,h1,h2⟩:=List.cons_sublist_iff.1 h;obtain⟨A,B,rfl⟩:=List.append_of_mem h1;obtain⟨C,D,rfl⟩:=List.append_of_mem (List.singleton_sublist.1 h2)
 exact⟨A,B++C,D,SM⟩
def Qdj {x z y:α} {l:List α} (h:List.Sublist [x,z,y] l):∃ A B C D,l=A++x::B++z::C++y::D:=by
 obtain⟨r1,r2,rfl,h1,h2⟩:=List.cons_sublist_iff.1 h;obtain⟨A,B,rfl⟩:=List.append_of_mem h1;obtain⟨C,D,E,rfl⟩:=Qcg h2
 exact⟨A,B++C,D,E,SM⟩
def Gd.start {b:Array Nat} {l:List Nat} (hnd:l.Nodup) (h:H2 f b l []=true):Gd f b (mkS f b l []):=by
 have pairs:∀ (M:List (Nat × Stp)) (y:Nat × Stp) (N:List (Nat × Stp)),mkS f b l []=M++y::N→J6 f b y.1 (M.map (·.1)).reverse []=true∧y.2={ f y.1 with st:=QaO f b y.1 (M.map (·.1)) }:=by
  intro M y N hM;have h1:=Xc f b l [];rw[hM,List.map_append,List.map_cons] at h1
  have:=QdG f b l [] h _ _ _ h1.symm
  refine⟨by simpa using this,by simpa using Qlh f b l [] M y N hM⟩
 refine⟨by rw[Xc];exact hnd,fun p hp=>?_,fun x y hxy=>?_,fun x z y hxy=>?_⟩
 ·obtain⟨M,N,hM⟩:=List.append_of_mem hp
  refine⟨_,(pairs M p N hM).2,fun hc=>?_⟩
  unfold QaO;rw[if_neg hc]
 ·obtain⟨A,B,C,hl⟩:=Qcg hxy;obtain⟨h1,h2⟩:=pairs (A++x::B) y C hl;obtain⟨h3,h4⟩:=X1 f b y.1 _ [] h1 (B.map (·.1)).reverse x.1 (A.map (·.1)).reverse SM
  refine⟨h3,?_⟩
  by_cases hb:bf b y.1 x.1=true
  ·exact .inl hb
  ·right
   have h4:=h4.resolve_left hb;unfold Ds at h4;split
   ·rename_i hc;rw[if_pos hc] at h4;simp only[Bool.and_eq_true,decide_eq_true_eq,Bool.not_eq_true'] at h4
    refine⟨h4.1.1.1,h4.1.1.2,h4.2,fun h5=>?_⟩
    rw[h2];simp only[QaO,if_pos hc,List.mem_map,List.mem_filter,Bool.and_eq_true,decide_eq_true_eq,Bool.not_eq_true']
    exact⟨x.1,⟨⟨x,SM,rfl⟩,h5,by simpa using hb⟩,rfl⟩
   ·rename_i hc;rw[if_neg hc] at h4;exact h4
 ·obtain⟨A,B,C,D,hl⟩:=Qdj hxy;obtain⟨h1,h2⟩:=pairs (A++x::B++z::C) y D hl;obtain⟨h3,h4⟩:=X1 f b y.1 _ [] h1 ((B++z::C).map (·.1)).reverse x.1 (A.map (·.1)).reverse SM;by_cases hb:bf b y.1 x.1=true
  ·exact .inl hb
  ·right
   have h4:=h4.resolve_left hb;unfold Ds at h4;by_cases hc:cls (f y.1).i=4
   ·right
    rw[if_pos hc] at h4;simp only[Bool.and_eq_true,List.all_eq_true,Bool.not_eq_true'] at h4;exact h4.1.2 z.1 SM
   ·exact .inl hc
def YX {m1 m2:List α} {x y:α} (h:x∈m1):List.Sublist [x,y] (m1++y::m2):=by
 have h1:List.Sublist ([x]++[y]) (m1++y::m2):=List.Sublist.append (List.singleton_sublist.2 h) (List.singleton_sublist.2 SM);exact h1
def QiO {b:Array Nat} {y:Nat × Stp} {m2:List (Nat × Stp)} (hc:cls (f y.1).i=4) :
  ∀ (m1:List (Nat × Stp)),Gd f b (m1++y::m2)→(∀ x∈m1,bf b y.1 x.1=false)→Rds y.2 (m1.map (·.2)):=by
 intro m1;induction m1 with
 | nil=>intro _ _;trivial
 | cons x m1 ih =>
  intro h hf
  suffices key:Rd x.2 (m1.map (·.2)) y.2 from ⟨key,ih (h.sub SM) fun z hz=>hf z (by simp [hz])⟩
  have hx:=(h.two x y (YX SM)).2.resolve_left (by rw[hf x SM];simp);rw[if_pos hc] at hx;obtain⟨sx,ex,hsx⟩:=h.stp x SM;obtain⟨sy,ey,_⟩:=h.stp y SM;have wr_spec:∀ (s:Stp) (l:List Nat),s.wr l=false→∀ t∈l,s.d≠some t:=by
   intro s l hw t ht hd;unfold Stp.wr at hw;rw[hd] at hw;simp at hw;exact hw ht
  refine⟨?_,?_,?_,fun h1=>?_,?_,fun z hz=>?_⟩
  ·rw[ex];exact hx.1
  ·rw[ex,ey];exact hx.2.1
  ·rw[ex];exact hsx (by have:=hx.1;omega)
  ·rw[ex] at h1 ⊢;exact hx.2.2.2 h1
  ·rw[ex];exact wr_spec (f x.1) (f x.1).uses hx.2.2.1
  ·obtain⟨p,hp,rfl⟩:=List.mem_map.1 hz;obtain⟨sp,ep,_⟩:=h.stp p (by simp [hp]);have h3:=h.three x p y (by
    have:List.Sublist ([p]++[y]) (m1++y::m2):=YX hp
    exact List.Sublist.cons_cons x this)
   rcases h3 with h3|h3|h3
   ·rw[hf x SM] at h3;cases h3
   ·exact (h3 hc).elim
   ·rw[ep,ex];exact wr_spec (f p.1) (f x.1).uses h3
section
variable {P:Program} {c0:Cx} {w0:World} {N:Nat} {im:Nat→Bool} {ops:Array Oper} {Q:Exit→Act→World→Prop}
def QfD {s:Stp} {st:List I}:WSv cl { s with st:=st } e o K↔WSv cl s e o K:=Iff.rfl
def QlF (hs0:Sep c0) (hb:Y0 ops=true) {K:E→O→Prop} (hK:∀ e o a w,K e o→Stt c0 w0 N e o a w→Q .normal a w) :
  ∀ (fuel:Nat) (listed:Array Bool) (ms:List (Nat × Stp)) (e:E) (o:O) (a:Act) (w:World),ms.length=fuel→Gd (Yg P im N ops) (Region.before ops) ms→listed.size=ops.size →
   (∀ y,y∈ms.map (·.1)↔y < ops.size∧listed.getD y true=false)→(∀ y,listed.getD y false=true→∀ x,bf (Region.before ops) y x=true→listed.getD x false=true) →
   wpR (Snd P) (ms.map (·.2)) K e o→Stt c0 w0 N e o a w→wpAny P .any ops Q fuel listed a w:=by
 intro fuel;induction fuel with
 | zero =>
  intro listed ms e o a w hl hG hsz hmem hcl h hS
  have:ms=[]:=List.eq_nil_of_length_eq_zero hl
  subst this
  refine⟨?_,hK e o a w h hS⟩
  rw[List.eq_nil_iff_forall_not_mem];intro y hy;obtain⟨h1,oy,hoy,_⟩:=mem_ready.1 hy
  have:=(hmem y).2 ⟨(Array.getElem?_eq_some_iff.1 hoy).1,h1⟩
  simp at this
 | succ fuel ih =>
  intro listed ms e o a w hl hG hsz hmem hcl h hS;have getT:∀ y,y < ops.size→(listed.getD y true=false↔¬ listed.getD y false=true):=by
   intro y hy
   have:y < listed.size:=by omega
   simp [Array.getD_eq_getD_getElem?,Array.getElem?_eq_getElem this]
  refine⟨fun hr=>?_,fun y hy=>?_⟩
  ·
   exfalso;cases ms with
   | nil=>simp at hl
   | cons p ms =>
    have hp:=(hmem p.1).1 SM
    have:p.1∈Region.ready .any ops listed:=by
     refine mem_ready.2 ⟨hp.2,ops[p.1]'hp.1,Array.getElem?_eq_getElem hp.1,fun ed he hbd=>?_⟩;have hbf:bf (Region.before ops) p.1 ed.on=true:=(QfF hb (Array.getElem?_eq_getElem hp.1) ed.on).2 ⟨ed,he,hbd,.inl rfl⟩;have hlt:ed.on < p.1:=by
      unfold Y0 at hb;have h1:=List.all_eq_true.1 hb p.1 (by simpa using hp.1);rw[Array.getD_eq_getD_getElem?,Array.getElem?_eq_getElem hp.1] at h1;have h2:=Array.all_eq_true_iff_forall_mem.1 h1 ed (by simpa using he);simpa only[hbd,Bool.not_true,Bool.false_or,decide_eq_true_eq] using h2
     have hlt2:ed.on < ops.size:=Nat.lt_trans hlt hp.1;by_cases hh:listed.getD ed.on false=true
     ·exact hh
     ·have hm:=(hmem ed.on).2 ⟨hlt2,(getT _ hlt2).2 hh⟩;simp only[List.map_cons,List.mem_cons] at hm;rcases hm with hm|hm
      ·omega
      ·obtain⟨q,hq,hq1⟩:=List.mem_map.1 hm
       have:=(hG.two p q (List.Sublist.cons_cons p (List.singleton_sublist.2 hq))).1
       rw[hq1,hbf] at this;cases this
    rw[hr] at this;cases this
  ·obtain⟨h1,oy,hoy,hready⟩:=mem_ready.1 hy;have hylt:=(Array.getElem?_eq_some_iff.1 hoy).1;have hym:=(hmem y).2 ⟨hylt,h1⟩;obtain⟨Y,hY,rfl⟩:=List.mem_map.1 hym;obtain⟨m1,m2,rfl⟩:=List.append_of_mem hY;have hdone:∀ x,bf (Region.before ops) Y.1 x=true→listed.getD x false=true:=by
    intro x hx;obtain⟨ed,he,hbd,hh⟩:=(QfF hb hoy x).1 hx
    have:=hready ed he hbd
    rcases hh with rfl|hh
    ·exact this
    ·exact hcl _ this x hh
   have hfree:∀ x∈m1,bf (Region.before ops) Y.1 x.1=false:=by
    intro x hx;cases hbf:bf (Region.before ops) Y.1 x.1 with
    | false=>rfl
    | true =>
     have:=(hmem x.1).1 (List.mem_map.2 ⟨x,by simp [hx],rfl⟩)
     exact absurd (hdone x.1 hbf) ((getT _ this.1).1 this.2)
   obtain⟨sy,ey,hsy⟩:=hG.stp Y SM;have hle:Le (Snd P) (Snd P):=Qdt;have hstep:WSv (Snd P) (Yg P im N ops Y.1) e o (fun v o'=>wpR (Snd P) ((m1++m2).map (·.2)) K (put e (Yg P im N ops Y.1).d v) o'):=by
    rw[List.map_append,List.map_cons] at h;rw[List.map_append];by_cases hc:cls (Yg P im N ops Y.1).i=4
    ·have:=QmV hle (m1.map (·.2)) e o (QiO hc m1 hG hfree) h
     rw[ey] at this;exact QfX hle (fun v o' hh=>hh.2) (QfD.1 this)
    ·have hsw:∀ x∈m1.map (·.2),ZF x Y.2=true∧x.st=[]:=by
      intro x hx;obtain⟨X,hX,rfl⟩:=List.mem_map.1 hx;have hx2:=(hG.two X Y (YX hX)).2.resolve_left (by rw[hfree X hX];simp);rw[if_neg hc] at hx2;obtain⟨sx,ex,hsx⟩:=hG.stp X (by simp [hX])
      refine⟨by rw[ex,ey];exact hx2,by
       rw[ex];refine hsx fun h4=>?_;simp only[ZF,Bool.and_eq_true,Bool.or_eq_true,decide_eq_true_eq,h4] at hx2;omega⟩
     obtain⟨c,_,_,_,_,hi,_⟩:=hS
     have:=move hle (y:=Y.2) (by rw[ey];exact hsy hc) (m1.map (·.2)) e o hsw hi.fin h
     have:=WS_v hle this
     rw[ey] at this;exact QfD.1 this
   refine QbJ hs0 hoy hstep hS fun v o' a' w' hk hS'=>?_;have hnd:=hG.nd;rw[List.map_append,List.map_cons,List.nodup_append] at hnd;refine ih _ (m1++m2) _ o' a' w' (by simp at hl ⊢;omega) (hG.sub SM) (by simp [hsz]) (fun z=>?_) (fun z hz x hx=>?_) hk hS'
   ·by_cases hzy:Y.1=z
    ·subst hzy;constructor
     ·intro hm;exfalso;rw[List.map_append,List.mem_append] at hm;rcases hm with hm|hm
      ·exact hnd.2.2 _ hm _ SM rfl
      ·exact (List.nodup_cons.1 hnd.2.1).1 hm
     ·rintro⟨_,hh⟩
      have:Y.1 < listed.size:=by omega
      simp [Array.getD_eq_getD_getElem?,this] at hh
    ·rw[getD_set_ne true hzy,← hmem z];simp only[List.map_append,List.map_cons,List.mem_append,List.mem_cons];constructor
     ·rintro (h|h)
      ·exact .inl h
      ·exact .inr (.inr h)
     ·rintro (h|h|h)
      ·exact .inl h
      ·exact absurd h.symm hzy
      ·exact .inr h
   ·by_cases hzy:Y.1=z
    ·subst hzy;exact getD_set_true (hdone x hx)
    ·rw[getD_set_ne false hzy] at hz;exact getD_set_true (hcl z hz x hx)
end
mutual
theorem Qev {c:Cx}:∀ (v:V) (x:Value),cls1 v=true→Rep c v x→Idf v
 | .ag cs,x,h,hr=>by
  rw[cls1] at h;cases hr with
  | ag _ xs hl _ hh =>
   exact .ag cs fun j v hj=>by
    obtain⟨y,hy⟩:=XQ hl hj;exact Y4 cs h j v hj y (hh j v y hj hy)
 | .tp cs,x,h,hr=>by
  rw[cls1] at h;cases hr with
  | tp _ xs hl hh =>
   exact .tp cs fun j v hj=>by
    obtain⟨y,hy⟩:=XQ hl hj;exact Y4 cs h j v hj y (hh j v y hj hy)
 | .fn g cs,x,h,hr=>by
  rw[cls1] at h;cases hr with
  | fn _ _ xs hl hh =>
   exact .fn g cs fun j v hj=>by
    obtain⟨y,hy⟩:=XQ hl hj;exact Y4 cs h j v hj y (hh j v y hj hy)
 | .sl _,_,_,hr=>hr.idf_sl
 | .ip _ _,_,_,hr=>hr.idf_ip
 | .rw _ _ _ _,_,h,_=>by rw[cls1] at h;cases h
 | .ra _ _ _ _,_,h,_=>by rw[cls1] at h;cases h
 | .pt _ _ _,_,h,_=>by rw[cls1] at h;cases h
 | .mp _,_,h,_=>by rw[cls1] at h;cases h
 | .it _,_,h,_=>by rw[cls1] at h;cases h
 | .jk,_,_,_=>.jk
 | .bo p,_,_,_=>.bo p
 | .i k n,_,_,_=>.i k n
 | .s y,_,_,_=>.s y
 | .nil,_,_,_=>.nil
 | .np,_,_,_=>.np
 | .nf,_,_,_=>.nf
 | .nm,_,_,_=>.nm
theorem Y4 {c:Cx}:∀ (cs:List V),Zc cs=true→∀ (j:Nat) v,cs[j]?=some v→∀ y,Rep c v y→Idf v
 | [],_,j,v,hj,_,_=>by simp at hj
 | u::cs,h,j,v,hj,y,hr=>by
  rw[Zc,Bool.and_eq_true] at h;cases j with
  | zero=>simp at hj;subst hj;exact Qev u y h.1 hr
  | succ j=>exact Y4 cs h.2 j v (by simpa using hj) y hr
end
def Q7 (id:Nat) (es:List (List V)) (cs:List V):ZB id es cs=cs.map (still id es):=by
 induction cs with
 | nil=>rfl
 | cons v cs ih=>simp [ZB,ih]
section
variable {c:Cx} {id b sz:Nat} {es:List (List V)}
def Cx.lay (c:Cx) (id b:Nat):Cx:={ c with ph:=fun i=>if i=id then none else c.ph i,im:=fun x=>c.im x∨x=b }
def H9 (hp:c.ph id=some (b,sz)) (hR:RepO c b sz (.row sz es)) (hc:es.all Zc=true) (hinj:∀ id' sz',c.ph id'=some (b,sz')→id'=id) {v:V} (hr:Rep c v x):Rep (c.lay id b) (still id es v) x:=by
 obtain⟨_,hsz,hlen,arr,t,hb,harr,hcell⟩:=hR;have hidf:∀ (j k:Nat) ev v,es[j]?=some ev→ev[k]?=some v→Idf v:=by
  intro j k ev v h1 h2;obtain⟨x,_,_,h3⟩:=hcell j k ev v h1 h2;exact Y4 ev (List.all_eq_true.1 hc ev (List.mem_of_getElem? h1)) k v h2 x h3
 have hcat:∀ off,Qo (c.lay id b).heap b off=arr[off]?:=fun off=>by simp [Qo,Cx.lay,hb]
 have hrd:∀ (v:V) (x:Value),Idf v→Rep c v x→Rep (c.lay id b) v x:=fun v x h1 h2=>Rep.idf (c:=c) (c':=c.lay id b) rfl (fun _ h=>.inl h) h2 h1;have key:∀ (j k:Nat) ev v,es[j]?=some ev→ev[k]?=some v→∃ x,arr[j*sz+k]?=some x∧oneC x=true∧Rep (c.lay id b) v x:=by
  intro j k ev v h1 h2;obtain⟨x,g1,g2,g3⟩:=hcell j k ev v h1 h2
  exact⟨x,g1,g2,hrd v x (hidf j k ev v h1 h2) g3⟩
 induction hr with
 | jk v=>exact .jk v
 | bo p=>exact .bo p
 | i k n=>exact .i k n
 | s y=>exact .s y
 | ag cs xs hl h1 _ ih =>
  rw[still,Q7];refine .ag _ xs (by simpa using hl) h1 fun j v x hv hx=>?_;rw[List.getElem?_map] at hv;cases hc2:cs[j]? with
  | none=>rw[hc2] at hv;cases hv
  | some u=>rw[hc2] at hv;cases hv;exact ih j u x hc2 hx
 | tp cs xs hl _ ih =>
  rw[still,Q7];refine .tp _ xs (by simpa using hl) fun j v x hv hx=>?_;rw[List.getElem?_map] at hv;cases hc2:cs[j]? with
  | none=>rw[hc2] at hv;cases hv
  | some u=>rw[hc2] at hv;cases hv;exact ih j u x hc2 hx
 | fn g cs xs hl _ ih =>
  rw[still,Q7];refine .fn g _ xs (by simpa using hl) fun j v x hv hx=>?_;rw[List.getElem?_map] at hv;cases hc2:cs[j]? with
  | none=>rw[hc2] at hv;cases hv
  | some u=>rw[hc2] at hv;cases hv;exact ih j u x hc2 hx
 | nil a=>exact .nil a
 | sl0 a n=>exact .sl0 a n
 | sl es2 b2 off sz2 n hne hsz2 hn hb2 hl hd hx h _ =>
  exact hrd _ _ (.sl es2 hd) (.sl es2 b2 off sz2 n hne hsz2 hn hb2 hl hd hx h)
 | rw0 i sz2 off a hn =>
  rw[still];split
  ·split
   ·simp only[List.take_zero];exact .sl0 a 0
   ·exact .jk _
  ·exact .rw0 i sz2 off a hn
 | rw i sz2 off len b2 cap hp2 hn hcap hf =>
  rw[still];by_cases hi:i=id
  ·subst hi;rw[hp] at hp2;cases hp2;simp only[beq_self_eq_true,if_true];split
   ·rename_i hle;by_cases h0:len=0
    ·subst h0;simp only[List.take_zero];exact .sl0 _ _
    have hl2:((es.drop off).take len).length=len:=by simp;omega
    have hget:∀ j,j < len→((es.drop off).take len)[j]?=es[off+j]?:=fun j hj=>by
     rw[List.getElem?_take_of_lt hj,List.getElem?_drop]
    have hlt:∀ (j:Nat) ev,((es.drop off).take len)[j]?=some ev→j < len∧es[off+j]?=some ev:=fun j ev hj=>by
     have h1:=(List.getElem?_eq_some_iff.1 hj).1;rw[hl2] at h1
     exact⟨h1,by rw[← hget j h1];exact hj⟩
    have hmul:∀ j:Nat,off*sz+j*sz=(off+j)*sz:=fun j=>by rw[Nat.add_mul]
    have hS:=Rep.sl (c:=c.lay i b) ((es.drop off).take len) b (off*sz) sz cap (fun h=>by rw[h] at hl2;simp at hl2;omega) hsz (by rw[hl2];exact hcap) (.inr rfl)
     (fun ev hev=>hlen ev (List.mem_of_mem_drop (List.mem_of_mem_take hev)))
     (fun j k ev v h1 h2=>hidf _ k ev v (hlt j ev h1).2 h2)
     (fun j k ev v h1 h2=>by
      obtain⟨x,g1,g2,_⟩:=key _ k ev v (hlt j ev h1).2 h2
      exact⟨x,by rw[hcat,hmul];exact g1,g2⟩)
     (fun j k ev v x h1 h2 h3=>by
      obtain⟨x',g1,_,g3⟩:=key _ k ev v (hlt j ev h1).2 h2;rw[hcat,hmul,g1] at h3;cases h3;exact g3)
    rw[hl2] at hS;exact hS
   ·exact .jk _
  ·rw[if_neg (by simpa using hi)];exact .rw i sz2 off len b2 cap (by simp [Cx.lay,hi,hp2]) hn hcap hf
 | rwd i sz2 off len cap a hp2 hn hcap ha =>
  rw[still];by_cases hi:i=id
  ·subst hi;rw[hp] at hp2;cases hp2
  ·rw[if_neg (by simpa using hi)];exact .rwd i sz2 off len cap a (by simp [Cx.lay,hi,hp2]) hn hcap ha
 | ra0 i k j a hn =>
  rw[still];split
  ·exact .jk _
  ·exact .ra0 i k j a hn
 | ra i k j len b2 sz2 cap hp2 hn hcap =>
  rw[still];by_cases hi:i=id
  ·rw[if_pos (by simpa using hi)];exact .jk _
  ·rw[if_neg (by simpa using hi)];exact .ra i k j len b2 sz2 cap (by simp [Cx.lay,hi,hp2]) hn hcap
 | rad i k j len cap a hp2 hn hcap ha =>
  rw[still];by_cases hi:i=id
  ·rw[if_pos (by simpa using hi)];exact .jk _
  ·rw[if_neg (by simpa using hi)];exact .rad i k j len cap a (by simp [Cx.lay,hi,hp2]) hn hcap ha
 | pt i k j b2 sz2 hp2 hn =>
  rw[still];by_cases hi:i=id
  ·subst hi;rw[hp] at hp2;cases hp2;simp only[beq_self_eq_true,if_true];cases hk:es[k]? with
   | none=>exact .jk _
   | some cs =>
    exact .ip cs j b (k*sz) (.inr rfl) (fun q v hq=>hidf k q cs v hk hq)
     (fun q v hq=>by
      obtain⟨x,g1,g2,_⟩:=key k q cs v hk hq
      exact⟨x,by rw[hcat];exact g1,g2⟩)
     (fun q v x hq hx=>by
      obtain⟨x',g1,_,g3⟩:=key k q cs v hk hq;rw[hcat,g1] at hx;cases hx;exact g3)
  ·rw[if_neg (by simpa using hi)];exact .pt i k j b2 sz2 (by simp [Cx.lay,hi,hp2]) hn
 | ptd i k j ad hp2 hn ha =>
  rw[still];by_cases hi:i=id
  ·subst hi;rw[hp] at hp2;cases hp2
  ·rw[if_neg (by simpa using hi)];exact .ptd i k j ad (by simp [Cx.lay,hi,hp2]) hn ha
 | ip cs j b2 off hb2 hd hx h _=>exact hrd _ _ (.ip cs j hd) (.ip cs j b2 off hb2 hd hx h)
 | np=>exact .np
 | nf=>exact .nf
 | mp i b2 hp2 hn =>
  rw[still];by_cases hi:i=id
  ·rw[if_pos (by simpa using hi)];exact .jk _
  ·rw[if_neg (by simpa using hi)];exact .mp i b2 (by simp [Cx.lay,hi,hp2]) hn
 | mpd i b2 hp2 hn =>
  rw[still];by_cases hi:i=id
  ·rw[if_pos (by simpa using hi)];exact .jk _
  ·rw[if_neg (by simpa using hi)];exact .mpd i b2 (by simp [Cx.lay,hi,hp2]) hn
 | nm=>exact .nm
 | it i b2 hp2 hn =>
  rw[still];by_cases hi:i=id
  ·rw[if_pos (by simpa using hi)];exact .jk _
  ·rw[if_neg (by simpa using hi)];exact .it i b2 (by simp [Cx.lay,hi,hp2]) hn
 | itd i ad hp2 hn =>
  rw[still];by_cases hi:i=id
  ·rw[if_pos (by simpa using hi)];exact .jk _
  ·rw[if_neg (by simpa using hi)];exact .itd i ad (by simp [Cx.lay,hi,hp2]) hn
def Qbl (hp:c.ph id=some (b,sz)):Ext c (c.lay id b) where
 size:=Nat.le_refl _
 keep _ _ _:=rfl
 shape b2 arr t fz h:=⟨arr,h,rfl⟩
 im _ h:=.inl h
 imn b2 _ h:=by
  rcases h with h|rfl
  ·exact .inl h
  ·exact .inr ⟨_,_,hp⟩
 ph i x h:=by
  by_cases hi:i=id
  ·exact .inr (by simp [Cx.lay,hi])
  ·exact .inl (by simp [Cx.lay,hi,h])
 phn i b2 sz2 h:=by
  left
  simp only[Cx.lay] at h;split at h
  ·cases h
  ·exact h
 n:=Nat.le_refl _
def Qd6 (hp:c.ph id=some (b,sz)) (hR:RepO c b sz (.row sz es)) (hc:es.all Zc=true) (hinj:∀ id' sz',c.ph id'=some (b,sz')→id'=id) {b2 s2:Nat} {x:Ob} (h:RepO c b2 s2 x):RepO (c.lay id b) b2 s2 (Qc6 id es x):=by
 have hrep:∀ {v:V} {x:Value},Rep c v x→Rep (c.lay id b) (still id es v) x:=fun h=>H9 hp hR hc hinj h;cases x with
 | row s rs =>
  obtain⟨h1,h2,h3,arr,t,h4,h5,h6⟩:=h
  refine⟨h1,h2,fun e he=>?_,arr,t,h4,by simpa using h5,fun j k e v he hv=>?_⟩
  ·obtain⟨e0,he0,rfl⟩:=List.mem_map.1 he;rw[Q7];simpa using h3 e0 he0
  ·rw[List.getElem?_map] at he;cases hr:rs[j]? with
   | none=>rw[hr] at he;cases he
   | some e0 =>
    rw[hr] at he;cases he;rw[Q7,List.getElem?_map] at hv;cases hv0:e0[k]? with
    | none=>rw[hv0] at hv;cases hv
    | some v0 =>
     rw[hv0] at hv;cases hv;obtain⟨x,g1,g2,g3⟩:=h6 j k e0 v0 hr hv0
     exact⟨x,g1,g2,hrep g3⟩
 | map ents clock =>
  obtain⟨h1,es2,h2,h3,h4,h5,h6⟩:=h
  refine⟨h1,es2,h2,by simpa using h3,fun j en hj=>?_,?_,fun en hen=>?_⟩
  ·rw[List.getElem?_map] at hj;cases hr:ents[j]? with
   | none=>rw[hr] at hj;cases hj
   | some en0 =>
    rw[hr] at hj;cases hj;obtain⟨x,g1,g2,g3,g4⟩:=h4 j en0 hr
    exact⟨x,g1,g2,hrep g3,hrep g4⟩
  ·rw[List.map_map];exact h5
  ·obtain⟨en0,hen0,rfl⟩:=List.mem_map.1 hen;exact h6 en0 hen0
 | iter mp since seen stepped =>
  obtain⟨h1,mpb,h2,h3⟩:=h
  refine⟨h1,mpb,h2,?_⟩
  cases mp with
  | none=>exact h3
  | some mid =>
   obtain⟨g1,b',g2,g3⟩:=h3
   refine⟨g1,b',g2,?_⟩
   by_cases hm:mid=id
   ·exact .inr (by simp [Cx.lay,hm])
   ·simp only[Cx.lay,if_neg hm];exact g3
def Qih (hi:Inv c o) (hp:c.ph id=some (b,sz)) (hR:RepO c b sz (.row sz es)) (hc:es.all Zc=true):Inv (c.lay id b) (Wo id es o):=by
 have hinj:∀ id' sz',c.ph id'=some (b,sz')→id'=id:=fun id' sz' h=>hi.inj _ _ _ _ _ h hp;have hne:∀ i,(c.lay id b).ph i=if i=id then none else c.ph i:=fun _=>rfl
 refine⟨fun i h=>?_,fun i x h=>?_,fun i b2 sz2 h=>?_,fun i i2 b2 s1 s2 h1 h2=>?_,fun b2 h=>?_,hi.gl.ext (Qbl hp) hi.sep⟩
 ·rw[hne];split
  ·rfl
  ·rename_i hid;simp only[Wo] at h;rw[if_neg (by simpa using hid)] at h;cases ho2:o i with
   | none=>exact hi.dom i ho2
   | some y=>rw[ho2] at h;cases h
 ·simp only[Wo] at h;split at h
  ·cases h
  ·rename_i hid;cases ho2:o i with
   | none=>rw[ho2] at h;cases h
   | some y =>
    rw[ho2] at h;cases h;obtain⟨b2,s2,g1,g2⟩:=hi.ob i y ho2
    exact⟨b2,s2,by rw[hne,if_neg (by simpa using hid)];exact g1,Qd6 hp hR hc hinj g2⟩
 ·rw[hne] at h;split at h
  ·cases h
  ·rename_i hid;obtain⟨g1,g2,g3⟩:=hi.lt i b2 sz2 h
   refine⟨g1,g2,fun hh=>?_⟩
   rcases hh with hh|rfl
   ·exact g3 hh
   ·exact hid (hinj i sz2 h)
 ·rw[hne] at h1 h2;split at h1
  ·cases h1
  ·split at h2
   ·cases h2
   ·exact hi.inj _ _ _ _ _ h1 h2
 ·rcases h with h|rfl
  ·exact hi.im b2 h
  ·exact (hi.lt id b2 sz hp).2.1
end
def QbQ {c0:Cx} {w0:World} {N:Nat} (hs:Sep c0) {id:Nat} (ho:o id=some (.row sz es)) (hc:es.all Zc=true) (h:Stt c0 w0 N e o a w):Stt c0 w0 N (Wq id es e) (Wo id es o) a w:=by
 obtain⟨c,h1,h2,h3,h4,h5,h6,h7,h8⟩:=h;obtain⟨b,sz',hp,hR⟩:=h5.ob id _ ho;have hsz:sz=sz':=hR.1;subst hsz
 refine⟨c.lay id b,Ext.trans (fun id x h=>?_) h1 (Qbl hp),h2,h3,h4,Qih h5 hp hR hc,fun t=>?_,h7,h8⟩
 ·exact hs.lt id x h
 ·exact H9 hp hR hc (fun id' sz' h=>h5.inj _ _ _ _ _ h hp) (h6 t)
def V4:∀ {l:List Nat},Dw l=true→l.Nodup:=by
 intro l;induction l with
 | nil=>intro _;exact List.nodup_nil
 | cons x l ih =>
  intro h;simp only[Dw,Bool.and_eq_true,Bool.not_eq_true',List.contains_eq_mem,decide_eq_false_iff_not] at h;exact List.nodup_cons.2 ⟨h.1,ih h.2⟩
def DK:X→Exit
 | .nx=>.normal
 | .ex id=>.exit id
 | .rt=>.ret
section
variable {P:Program} {c0:Cx} {w0:World} {N:Nat} {im:Nat→Nat→Bool}
def Qky (hs0:Sep c0) {c:C} {K:E→O→Prop} {Z:Prop} (h:Gst K e o) (hS:Stt c0 w0 N e o a w) (hK:∀ e o,K e o→Stt c0 w0 N e o a w→Z):Z:=by
 induction h with
 | here h=>exact hK _ _ h hS
 | still id sz es ho hc _ ih=>exact ih (QbQ hs0 ho hc hS)
def regC (cl:Qg):C→(E→O→Prop)→E→O→Prop
 | .rg l,K,e,o=>wpR cl l K e o
 | _,_,_,_=>False
def QaN (hm:P.follows .mixedOrders=true) (hs0:Sep c0) {id:Nat} {Q:Exit→Act→World→Prop} {K:X→E→O→Prop} (h:regC (Snd P) (Jo P (im id) N ops draw) (K .nx) e o) (hS:Stt c0 w0 N e o a w) (hK:∀ x e o a w,K x e o→Stt c0 w0 N e o a w→Q (DK x) a w):(Code.region id ops draw).wp P Q a w:=by
 cases draw with
 | false=>exact wp_region (Qjp Qdt hs0 (fun e o a w h1 h2=>hK .nx e o a w h1 h2) _ (fun j hj=>by simpa using hj) e o a w h hS)
 | true =>
  unfold Jo at h;simp only[if_true] at h;split at h
  ·rename_i hc;simp only[Bool.and_eq_true,decide_eq_true_eq] at hc;obtain⟨⟨⟨⟨⟨h1,h2⟩,h3⟩,h4⟩,h5⟩,h6⟩:=hc;refine wp_region_any hm ?_;have hS':Stt c0 w0 N e o a { w with drawn:=w.drawn+1 }:=(let ⟨c,g1,g2,g3,g4,g5⟩:=hS;⟨c,g1,g2,g3,⟨g4.output,g4.tape,Nat.le_succ_of_le g4.drawn⟩,g5⟩);generalize hl:QgI (Region.before ops) (fun y=>cls (Yg P (im id) N ops y).i) ops.size ops.size []=l at h h2 h3 h4 h5 h6;refine QlF hs0 h1 (fun e o a w h1 h2=>hK .nx e o a w h1 h2) ops.size _ (mkS (Yg P (im id) N ops) (Region.before ops) l []) e o a _ ?_ (Gd.start (V4 h5) h6) SM (fun y=>?_) (fun y hy=>?_) ?_ hS'
   ·rw[← h2,← Xc (Yg P (im id) N ops) (Region.before ops) l [],List.length_map,Xc]
   ·rw[Xc];constructor
    ·intro hy;have hlt:y < ops.size:=by simpa using List.all_eq_true.1 h4 y hy
     exact⟨hlt,by simp [Array.getD_eq_getD_getElem?,hlt]⟩
    ·intro hy
     have:=List.all_eq_true.1 h3 y (by simpa using hy.1)
     simpa using this
   ·exfalso;rw[Array.getD_eq_getD_getElem?] at hy;rcases Nat.lt_or_ge y ops.size with hh|hh
    ·simp [hh] at hy
    ·rw[Array.getElem?_eq_none (by simpa using hh)] at hy;cases hy
   ·rw[Qig];exact h
  ·exact h.elim
def QdP (hm:P.follows .mixedOrders=true) (hs0:Sep c0) {id:Nat} {Q:Exit→Act→World→Prop} {K:X→E→O→Prop} (h:wpC (Snd P) (Jo P (im id) N ops draw) K e o) (hS:Stt c0 w0 N e o a w) (hK:∀ x e o a w,K x e o→Stt c0 w0 N e o a w→Q (DK x) a w):(Code.region id ops draw).wp P Q a w:=by
 have hrg:(∃ l,Jo P (im id) N ops draw=.rg l)∨Jo P (im id) N ops draw=.bad:=by
  unfold Jo;split
  ·dsimp only;split
   ·exact .inl ⟨_,rfl⟩
   ·exact .inr rfl
  ·exact .inl ⟨_,rfl⟩
 rcases hrg with⟨l,hl⟩|hb
 ·rw[hl] at h;exact Qky (c:=.sk) hs0 h hS fun e o hw hS=>QaN hm hs0 (by rw[hl];exact hw) hS hK
 ·rw[hb] at h;exact h.elim
def QgW (hm:P.follows .mixedOrders=true) (hs0:Sep c0):∀ (code:Code) (K:X→E→O→Prop) (Q:Exit→Act→World→Prop) (e:E) (o:O) (a:Act) (w:World),
  wpC (Snd P) (XN P im N code) K e o→Stt c0 w0 N e o a w→(∀ x e o a w,K x e o→Stt c0 w0 N e o a w→Q (DK x) a w)→code.wp P Q a w:=by
 intro code;induction code with
 | skip=>intro K Q e o a w h hS hK;exact wp_skip (hK .nx e o a w h hS)
 | region id ops draw=>intro K Q e o a w h hS hK;exact QdP hm hs0 h hS hK
 | seq x y ihx ihy =>
  intro K Q e o a w h hS hK;refine wp_seq (ihx _ _ e o a w h hS fun z e o a w hz hS=>?_);cases z with
  | nx=>exact ihy K Q e o a w hz hS hK
  | ex id=>exact hK (.ex id) e o a w hz hS
  | rt=>exact hK .rt e o a w hz hS
 | cond c x y ihx ihy =>
  intro K Q e o a w h hS hK;simp only[XN,wpC] at h;obtain⟨cx,_,_,_,_,hi,hr,_⟩:=id hS;have hc:=YQ hi.gl hr c;cases hb:(cO c).ev e<;>simp only[hb] at h<;>(first|exact h.elim|skip);rename_i p;rw[hb] at hc;generalize hz:a.eval c=z at hc;cases hc;cases p
  ·exact wp_cond_false hz (ihy K Q e o a w h hS hK)
  ·exact wp_cond_true hz (ihx K Q e o a w h hS hK)
 | block id x ih =>
  intro K Q e o a w h hS hK;refine wp_block (ih _ _ e o a w h hS fun z e o a w hz hS=>?_);cases z with
  | nx=>exact hK .nx e o a w hz hS
  | ex j =>
   simp only[blkX] at hz;simp only[DK,Exit.inBlock];split
   ·rename_i hj;rw[if_pos hj] at hz;exact hK .nx e o a w hz hS
   ·rename_i hj;rw[if_neg hj] at hz;exact hK (.ex j) e o a w hz hS
  | rt=>exact hK .rt e o a w hz hS
 | loop x ih =>
  intro K Q e o a w h hS hK;simp only[XN,wpC] at h;intro b k cs
  let LW:Act→World→Prop:=fun a w=>∃ ex a' w',Q ex a' w'∧Arrives P (lone (b.at a (.code x::.inLoop x::k)) cs w) b k cs ex a' w'
  have key:=h (fun e o=>∀ a w,Stt c0 w0 N e o a w→LW a w) fun e' o' hr a w hS=>by
   have hw:=ih _ (Exit.then LW Q) e' o' a w hr hS fun z e o a w hz hS=>by
    cases z with
    | nx=>exact hz a w hS
    | ex id=>exact hK (.ex id) e o a w hz hS
    | rt=>exact hK .rt e o a w hz hS
   obtain⟨ex,a1,w1,hq,harr⟩:=hw b (.inLoop x::k) cs;cases ex with
   | normal =>
    obtain⟨e2,a2,w2,hq2,harr2⟩:=hq
    exact⟨e2,a2,w2,hq2,.of_steps (Steps.trans harr (.one step_inLoop)) harr2⟩
   | exit id=>exact⟨_,a1,w1,hq,.pass (x:=.inLoop x) rfl (fun _ _=>.inl SM) harr⟩
   | goto l=>exact⟨_,a1,w1,hq,.pass (x:=.inLoop x) rfl (fun _ _=>.inl SM) harr⟩
   | ret=>exact⟨_,a1,w1,hq,.pass (x:=.inLoop x) rfl (fun _ _=>.inl SM) harr⟩
   | panic ch=>exact⟨_,a1,w1,hq,.pass (x:=.inLoop x) rfl (fun _ _=>.inl SM) harr⟩
   | outgrown=>exact⟨_,a1,w1,hq,.pass (x:=.inLoop x) rfl (fun _ _=>.inl SM) harr⟩
  obtain⟨ex,a',w',hq,harr⟩:=key a w hS
  exact⟨ex,a',w',hq,.of_steps (.one step_loop) harr⟩
 | exit id=>intro K Q e o a w h hS hK;exact wp_exit (hK (.ex id) e o a w h hS)
 | ret=>intro K Q e o a w h hS hK;exact wp_ret (hK .rt e o a w h hS)
 | _=>intro K Q e o a w h hS hK;exact h.elim
end
section
variable {P:Program} {c:Cx} {o:O} {w:World} {e:E} {tmps:Array Value}
def QkC {F:ResultVar→Sem Value} (hF1:∀ t,F (.tmp t)=pure (tmps.getD t undef)) (hF2:∀ a t,F (.cell a t)=(do loadVar t (← asAddr (tmps.getD a undef)))) (hp:c.heap=w.heap) (hi:Inv c o) (hr:∀ t,Rep c (e t) (tmps.getD t undef)) {r:ResultVar} {s:Rs} (hs:XS P r=some s) {v:V} (hv:resV e o s=some v) :
  ∃ x,(F r).run P w=.ok x w∧Rep c v x:=by
 cases r with
 | tmp t =>
  simp only[XS,Option.some.injEq] at hs;subst hs;simp only[resV,Option.some.injEq] at hv;subst hv
  exact⟨_,by rw[hF1];rfl,hr t⟩
 | cell a t =>
  simp only[XS] at hs;split at hs
  ·rename_i hc;simp only[Option.some.injEq] at hs;subst hs;simp only[resV] at hv;cases hx:Qz o (e a) with
   | none=>simp [hx] at hv
   | some y =>
    obtain⟨cs,j⟩:=y;simp only[hx] at hv;obtain⟨b,off,he,hh⟩:=QcZ hi (hr a) hx;obtain⟨x,h1,h2⟩:=WY (P:=P) hp hc.1 hh hv
    refine⟨x,?_,h2⟩
    simp only[hF2,he,asAddr,Sem.run_bind,Sem.run_pure,Result.andThen_ok,h1]
  ·cases hs
def Z6 {β:Type} {f:α→Option β} {x:α} {l:List α} {r:List β} (h:(x::l).mapM f=some r):∃ y ys,f x=some y∧l.mapM f=some ys∧r=y::ys:=by
 simp only[List.mapM_cons,Option.bind_eq_bind,Option.bind_eq_some_iff,Option.pure_def,Option.some.injEq] at h;obtain⟨y,hy,ys,hys,rfl⟩:=h
 exact⟨y,ys,hy,hys,rfl⟩
def QiA {F:ResultVar→Sem Value} (hF1:∀ t,F (.tmp t)=pure (tmps.getD t undef)) (hF2:∀ a t,F (.cell a t)=(do loadVar t (← asAddr (tmps.getD a undef)))) (hp:c.heap=w.heap) (hi:Inv c o) (hr:∀ t,Rep c (e t) (tmps.getD t undef)):∀ (rs:List ResultVar) (ss:List Rs) (vs:List V),rs.mapM (XS P)=some ss→ss.mapM (resV e o)=some vs →
  ∃ xs,(rs.mapM F).run P w=.ok xs w∧Reps c vs xs:=by
 intro rs;induction rs with
 | nil =>
  intro ss vs hs hv;simp at hs;subst hs;simp at hv;subst hv
  exact⟨[],rfl,rfl,fun j v x h=>by simp at h⟩
 | cons r rs ih =>
  intro ss vs hs hv;obtain⟨s,ss',h1,h2,rfl⟩:=Z6 hs;obtain⟨v,vs',h3,h4,rfl⟩:=Z6 hv;obtain⟨x,hx1,hx2⟩:=QkC hF1 hF2 hp hi hr h1 h3;obtain⟨xs,hy1,hy2⟩:=ih ss' vs' h2 h4
  refine⟨x::xs,?_,by simp [hy2.len],fun j v x hv hx=>?_⟩
  ·simp only[List.mapM_cons,Sem.run_bind];rw[hx1];simp only[Result.andThen_ok,hy1,Sem.run_pure]
  ·cases j with
   | zero=>simp at hv hx;subst hv;subst hx;exact hx2
   | succ j=>exact hy2.rep j v x (by simpa using hv) (by simpa using hx)
def QaR (hp:c.heap=w.heap) (hi:Inv c o) (hr:∀ t,Rep c (e t) (tmps.getD t undef)) {fn:Func} {ss:List Rs} {vs:List V} (hs:fn.results.toList.mapM (XS P)=some ss) (hv:ss.mapM (resV e o)=some vs) :
  ∃ x,(results fn tmps).run P w=.ok x w∧Rep c (one vs) x:=by
 have key:∀ F:ResultVar→Sem Value,(∀ t,F (.tmp t)=pure (tmps.getD t undef))→(∀ a t,F (.cell a t)=(do loadVar t (← asAddr (tmps.getD a undef)))) →
   ∃ x,(do let vs ← fn.results.mapM F;pure (if h:vs.size=1 then vs[0] else .tuple vs):Sem Value).run P w=.ok x w∧Rep c (one vs) x:=by
  intro F hF1 hF2;obtain⟨xs,h1,h2⟩:=QiA hF1 hF2 hp hi hr _ _ _ hs hv;have hl:=h2.len
  refine⟨if h:xs.toArray.size=1 then xs.toArray[0] else .tuple xs.toArray,?_,?_⟩
  ·rw[Array.mapM_eq_mapM_toList];simp only[Sem.run_bind,Sem.run_map,h1,Result.andThen_ok,Sem.run_pure]
  ·match vs,hl with
   | [v],hl =>
    have h3:xs.toArray.size=1:=by simpa using hl
    rw[dif_pos h3];refine h2.rep 0 v _ rfl ?_;rw[← List.getElem?_toArray];exact Array.getElem?_eq_getElem _
   | [],hl =>
    rw[dif_neg (by simp at hl;simp [hl])];refine .tp _ _ (by simpa using hl) fun j v x hv hx=>h2.rep j v x hv (by simpa using hx)
   | v1::v2::vs,hl =>
    rw[dif_neg (by simp at hl ⊢;omega)];refine .tp _ _ (by simpa using hl) fun j v x hv hx=>h2.rep j v x hv (by simpa using hx)
 exact key _ (fun _=>rfl) (fun _ _=>rfl)
end
def Qm9 (hm:P.follows .mixedOrders=true) {im:Nat→Nat→Nat→Bool} (h:wpF ⟨comp P im,fun _ _ _ _=>False⟩ (Snd P) g as o K):Snd P g as o K:=by
 unfold wpF at h;cases hc:comp P im g with
 | none=>simp [hc] at h
 | some fn =>
  simp only[hc] at h;obtain⟨hlen,hw⟩:=h;unfold comp at hc;cases hf:P.funcs[g]? with
  | none=>simp [hf] at hc
  | some f =>
   simp only[hf] at hc;split at hc
   ·rename_i code res hb hres;split at hc
    ·cases hc
    ·rename_i hg;simp only[Option.some.injEq] at hc;subst hc;simp only[not_or,Nat.not_lt] at hg
     refine⟨by simpa [ZZ,hf,hb] using hg.1,fun c w xs hp hi hx=>?_⟩
     have hxs:xs.size=as.length:=by rw[← Array.length_toList,hx.len]
     refine calls_of_wp hf hb (QgW hm hi.sep code _ _ (ini as) o _ w hw ⟨c,Ext.refl c,hp,rfl,Ot.refl _,hi,fun t=>?_,?_,rfl⟩ fun x e o' a w' hX hS=>?_)
     ·simp only[ini,List.getD_eq_getElem?_getD];cases ht:as[t]? with
      | none=>exact .jk _
      | some v =>
       have hlt:t < xs.size:=by rw[hxs];exact (List.getElem?_eq_some_iff.1 ht).1
       rw[Option.getD_some,Array.getD_eq_getD_getElem?,Array.getElem?_append_left hlt,Array.getElem?_eq_getElem hlt,Option.getD_some];exact hx.rep t v _ ht (by rw[Array.getElem?_toList];exact Array.getElem?_eq_getElem hlt)
     ·have:as.length≤f.ntmps:=by rw[hlen];exact hg.2
      simp;omega
     ·obtain⟨c',hE,hp',hos,hout,hi',hr',hsz,hd⟩:=hS;have fin:(∃ vs,res.mapM (resV e o')=some vs∧K (one vs) o')→a.defers=[]∧∃ v,(results f a.tmps).run P w'=.ok v w'∧(∃ x c' v' o',Ending.returned v=.returned x∧After c w c' v' o' x w'∧K v' o'):=by
       rintro⟨vs,h1,h2⟩
       obtain⟨x,h3,h4⟩:=QaR hp' hi' hr' hres h1
       exact⟨hd,x,h3,x,c',one vs,o',rfl,⟨hE,hp',hos,hout,hi',h4⟩,h2⟩
      cases x with
      | nx=>exact fin hX
      | rt=>exact fin hX
      | ex id=>exact hX.elim
   ·cases hc
def enOf (P:Program) (im:Nat→Nat→Nat→Bool) (bs:List Nat) (B:Qg):En:=⟨fun g=>if bs.contains g then none else comp P im g,B⟩
def QiF (hm:P.follows .mixedOrders=true) {im:Nat→Nat→Nat→Bool} {bs:List Nat} {B:Qg} (hB:∀ g as o K,B g as o K→Snd P g as o K) (h:Call (enOf P im bs B) g as o K):Snd P g as o K:=by
 refine h (Snd P) fun g as o K hh=>?_;unfold wpF at hh;cases hc:(enOf P im bs B).fn g with
 | none =>
  rw[hc] at hh;obtain⟨K',h1,h2⟩:=hh;exact Qdt _ _ _ _ _ h2 (hB _ _ _ _ h1)
 | some fn =>
  rw[hc] at hh;refine Qm9 hm (im:=im) ?_;unfold wpF
  have:comp P im g=some fn:=by
   simp only[enOf] at hc;split at hc
   ·cases hc
   ·exact hc
  show (match comp P im g with|some fn=>_|none=>_);rw[this];exact hh
end Go.Proofs.YtklbhcjmaeedhaaGreatDoor
