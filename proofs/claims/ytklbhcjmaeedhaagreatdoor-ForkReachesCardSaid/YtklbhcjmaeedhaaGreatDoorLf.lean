import Derived.Test.YtklbhcjmaeedhaaGreatDoorMc
import Derived.ReadAgain
import Derived.ChangeSame
import Derived.RowKit

namespace Go.Proofs.YtklbhcjmaeedhaaGreatDoor
set_option linter.all false
variable {α H:Type} {P:Program} {n base:Nat} {enc:TypeId × Value→H} {L:List TypeId} {sp:Nat→Bool} {held fresh handsOn:Bool} {s:ChangeSpec} {args:Array Value} {ds gs:List (DataW H)} {before:List MemPlace}
def isv (P:Program):Nat→TypeId→List V→Prop
 | 0,_,_=>False
 | n+1,t,vs =>
  match P.underlying t with
  | some .bool=>∃ b,vs=[.bo b]
  | some (.int k)=>∃ z,vs=[.i k z]∧(Lit.int k z).wf=true
  | some .string=>∃ s:ByteArray,vs=[.s s]∧s.size≤maxLen
  | some (.slice e)=>∃ es:List (List V),vs=[.sl es]∧es.length≤maxLen∧∀ c∈es,isv P n e c
  | some (.struct fs)=>∃ ls:List (List V),vs=ls.flatten∧ls.length=fs.toList.length∧∀ (j:Nat) f l,fs.toList[j]?=some f→ls[j]?=some l→isv P n f.type l
  | some (.array m e)=>∃ ls:List (List V),vs=ls.flatten∧ls.length=m∧∀ l∈ls,isv P n e l
  | _=>False
def Qbk (P:Program) (L:List TypeId):Bool :=
 L.all fun t=>decide (t < P.types.size)&&(match P.underlying t with
  | some .bool=>true
  | some (.int _)=>true
  | some .string=>true
  | some (.slice e)=>L.contains e&&decide (0 < P.cellsOf e)
  | some (.struct fs)=>fs.toList.all fun f=>L.contains f.type
  | some (.array _ e)=>L.contains e
  | _=>false)
section
variable {c:Cx} {w:World}
structure Cels (c:Cx) (vs:List V) (cs:List Value):Prop where
 len:cs.length=vs.length
 rep:∀ (j:Nat) v x,vs[j]?=some v→cs[j]?=some x→Rep c v x
 idf:∀ v∈vs,Idf v
 one:∀ x∈cs,oneC x=true
def Cels.nil:Cels c [] []:=⟨rfl,SM,SM,SM⟩
def Cels.append {a b:List V} {x y:List Value} (h1:Cels c a x) (h2:Cels c b y):Cels c (a++b) (x++y) where
 len:=by simp [h1.len,h2.len]
 rep j v z hv hz:=by
  by_cases h:j < a.length
  ·rw[List.getElem?_append_left h] at hv;rw[List.getElem?_append_left (by rw[h1.len];exact h)] at hz;exact h1.rep j v z hv hz
  ·rw[List.getElem?_append_right OM] at hv;rw[List.getElem?_append_right (by rw[h1.len];omega),h1.len] at hz;exact h2.rep _ v z hv hz
 idf v hv:=by rcases List.mem_append.1 hv with h|h;exact h1.idf v h;exact h2.idf v h
 one v hv:=by rcases List.mem_append.1 hv with h|h;exact h1.one v h;exact h2.one v h
def Cels.single {v:V} {x:Value} (h:Rep c v x) (hi:Idf v) (ho:oneC x=true):Cels c [v] [x] :=
 ⟨rfl,fun j u y hu hy=>by cases j<;>simp at hu hy;subst hu;subst hy;exact h,by simpa using hi,by simpa using ho⟩
def XO {β:Type} {f:α→Option β} {x:α} {l:List α} {r:List β} (h:(x::l).mapM f=some r):∃ y ys,f x=some y∧l.mapM f=some ys∧r=y::ys:=Z6 h
def segs {D:Type} {r:TypeId→List Value→Option D} (cs:List Value) (ty:α→TypeId) (off:α→Nat)
  (hr:∀ t x d,r t x=some d→∃ vs,isv P n t vs∧Cels c vs x) :
  ∀ (l:List α) (o:Nat) (xs:List D),(∀ (j:Nat) a,l[j]?=some a→off a=o+((l.take j).map fun a=>P.cellsOf (ty a)).sum)→cs.length=o+(l.map fun a=>P.cellsOf (ty a)).sum →
   l.mapM (fun a=>r (ty a) ((cs.drop (off a)).take (P.cellsOf (ty a))))=some xs →
   ∃ ls:List (List V),ls.length=l.length∧(∀ (j:Nat) a v,l[j]?=some a→ls[j]?=some v→isv P n (ty a) v)∧Cels c ls.flatten (cs.drop o):=by
 intro l;induction l with
 | nil =>
  intro o xs _ hl _
  refine⟨[],rfl,SM,?_⟩
  rw[List.drop_of_length_le (by simp at hl;omega)];exact Cels.nil
 | cons a l ih =>
  intro o xs ho hl h;obtain⟨d,ds,h1,h2,rfl⟩:=XO h;have hoa:off a=o:=by have:=ho 0 a rfl;simpa using this
  obtain⟨vs,hv1,hv2⟩:=hr _ _ _ h1;simp only[List.map_cons,List.sum_cons] at hl;obtain⟨ls,hl1,hl2,hl3⟩:=ih (o+P.cellsOf (ty a)) ds (fun j b hb=>by
   have:=ho (j+1) b (by simpa using hb)
   simp only[List.take_succ_cons,List.map_cons,List.sum_cons] at this;omega) OM h2
  refine⟨vs::ls,by simp [hl1],fun j b v hb hv=>?_,?_⟩
  ·cases j with
   | zero=>simp at hb hv;subst hb;subst hv;exact hv1
   | succ j=>exact hl2 j b v (by simpa using hb) (by simpa using hv)
  ·rw[List.flatten_cons];rw[hoa] at hv2;have hs:cs.drop o=(cs.drop o).take (P.cellsOf (ty a))++cs.drop (o+P.cellsOf (ty a)):=by
    rw[← List.drop_drop,List.take_append_drop]
   rw[hs];exact hv2.append hl3
def Hf {a:Addr} {cs:List Value} (hp:c.heap=w.heap) (h:w.cells? base a n=some cs) (hn:0 < n) :
  a.spot=none∧a.block < w.heap.size∧cs.length=n∧∀ (k:Nat) x,cs[k]?=some x→Qo c.heap a.block (a.off+k)=some x:=by
 unfold World.cells? at h;split at h
 case isFalse=>cases h
 obtain⟨h1,h2⟩:=QJ h;have hl:cs.length=n:=by simpa using h1
 have get:∀ (k:Nat) x,cs[k]?=some x→w.cell? (a.add k)=some x:=by
  intro k x hk;obtain⟨i,hi,hx⟩:=h2 k x hk;have hkn:k < n:=by rw[← hl];exact (List.getElem?_eq_some_iff.1 hk).1
  rw[List.getElem?_range hkn] at hi;cases hi;exact hx
 have hc0:∃ x,cs[0]?=some x:=⟨cs[0],List.getElem?_eq_getElem OM⟩;obtain⟨x0,hx0⟩:=hc0;have g0:=get 0 x0 hx0;have ha0:a.add 0=a:=by
  unfold Addr.add;simp
 rw[ha0] at g0;have hsp:a.spot=none:=by
  unfold World.cell? at g0;split at g0
  ·split at g0
   ·cases g0
   ·rename_i hh;simpa using hh
  ·cases g0
 refine⟨hsp,?_,hl,fun k x hk=>?_⟩
 ·unfold World.cell? at g0;split at g0
  ·rename_i hh;exact (Array.getElem?_eq_some_iff.1 hh).1
  ·cases g0
 ·have g:=get k x hk;have hadd:a.add k=⟨a.block,a.off+k,none⟩:=by
   cases a;simp only at hsp;subst hsp;unfold Addr.add;split
   ·rename_i h0;simp [h0]
   ·rfl
  rw[hadd] at g;unfold World.cell? at g;unfold Qo;rw[hp];split at g
  ·rename_i hh;simp only[hh];simpa using g
  ·cases g
def QdC (hL:Qbk P L=true) (hk:laidOutB P=true) (hp:c.heap=w.heap) (him:∀ b,b < w.heap.size→c.im b) :
  ∀ (n:Nat) (t:TypeId) (cs:List Value) (x:DataW H × List MemPlace),t∈L→DataW.trod enc P w base sp held n t cs=some x→∃ vs,isv P n t vs∧Cels c vs cs:=by
 intro n;induction n with
 | zero=>intro t cs x _ h;simp [DataW.trod] at h
 | succ n ih =>
  intro t cs0 x ht h;have hT:=List.all_eq_true.1 hL t ht;simp only[Bool.and_eq_true,decide_eq_true_eq] at hT;obtain⟨hlt,hT⟩:=hT;rw[DataW.trod_step] at h;unfold DataW.trodStep at h;split at h
  case h_1 hu =>
   refine⟨_,by simp only[isv,hu];exact⟨_,rfl⟩,Cels.single (.bo _) (.bo _) rfl⟩
  case h_2 hu =>
   split at h
   ·rename_i hc;obtain⟨rfl,hwf⟩:=hc
    exact⟨_,by simp only[isv,hu];exact⟨_,rfl,hwf⟩,Cels.single (.i _ _) (.i _ _) rfl⟩
   ·cases h
  case h_4 hu =>
   split at h
   ·rename_i hc
    exact⟨_,by simp only[isv,hu];exact⟨_,rfl,hc⟩,Cels.single (.s _) (.s _) rfl⟩
   ·cases h
  case h_7 hu =>
   exact⟨[.sl []],by simp only[isv,hu];exact⟨[],rfl,SM,SM⟩,Cels.single (.sl0 _ _) (.sl [] SM) rfl⟩
  case h_8 e a len cap hu =>
   rw[hu] at hT;simp only[Bool.and_eq_true,decide_eq_true_eq,List.contains_eq_mem] at hT;obtain⟨heL,hsz⟩:=hT;simp only at h;split at h
   case isFalse=>cases h
   rename_i hc;obtain⟨hb,hlc,hcm⟩:=hc;simp only[Option.map_eq_some_iff,Option.bind_eq_some_iff] at h;obtain⟨elems,he,rest,hrest,rfl⟩:=h;obtain⟨hl1,hl2⟩:=QJ he;have hlen:elems.length=len:=by simpa using hl1
   have hel:∀ i,i < len→∃ cs',w.cells? base (a.add (i*P.cellsOf e)) (P.cellsOf e)=some cs'∧∃ vs,isv P n e vs∧Cels c vs cs':=by
    intro i hi;obtain⟨j,hj,hx⟩:=hl2 i elems[i] (List.getElem?_eq_getElem OM);rw[List.getElem?_range hi] at hj;cases hj;simp only[Option.bind_eq_some_iff] at hx;obtain⟨cs',h1,h2⟩:=hx;obtain⟨vs,h3,h4⟩:=ih _ _ _ heL h2
    exact⟨cs',h1,vs,h3,h4⟩
   by_cases h0:len=0
   ·subst h0
    exact⟨[.sl []],by simp only[isv,hu];exact⟨[],rfl,SM,SM⟩,Cels.single (.sl0 _ _) (.sl [] SM) rfl⟩
   have hch:∃ es:List (List V),es.length=len∧∀ i v,es[i]?=some v→∃ cs',w.cells? base (a.add (i*P.cellsOf e)) (P.cellsOf e)=some cs'∧isv P n e v∧Cels c v cs':=by
    have:∀ m,m≤len→∃ es:List (List V),es.length=m∧∀ i v,es[i]?=some v→∃ cs',w.cells? base (a.add (i*P.cellsOf e)) (P.cellsOf e)=some cs'∧isv P n e v∧Cels c v cs':=by
     intro m;induction m with
     | zero=>intro _;exact⟨[],rfl,SM⟩
     | succ m ihm =>
      intro hm;obtain⟨es,h1,h2⟩:=ihm OM;obtain⟨cs',g1,vs,g2,g3⟩:=hel m OM
      refine⟨es++[vs],by simp [h1],fun i v hv=>?_⟩
      by_cases hi:i < es.length
      ·rw[List.getElem?_append_left hi] at hv;exact h2 i v hv
      ·rw[List.getElem?_append_right OM] at hv
       have:i=m:=by
        have:=(List.getElem?_eq_some_iff.1 hv).1
        simp at this;omega
       subst this;simp [h1] at hv;subst hv
       exact⟨cs',g1,g2,g3⟩
    exact this len (Nat.le_refl _)
   obtain⟨es,hes1,hes2⟩:=hch;have a0:=hel 0 OM;obtain⟨cs0,hcs0,_⟩:=a0;have ha0:a.add (0*P.cellsOf e)=a:=by unfold Addr.add;simp
   rw[ha0] at hcs0;obtain⟨hsp,hblk,_,_⟩:=Hf hp hcs0 hsz;have hadd:∀ i:Nat,a.add i=⟨a.block,a.off+i,none⟩:=by
    intro i;obtain⟨ab,ao,as⟩:=a;simp only at hsp;subst hsp;unfold Addr.add;split
    ·rename_i h0;simp [h0]
    ·rfl
   have hae:a=⟨a.block,a.off,none⟩:=by
    have:=hadd 0
    rwa [show a.add 0=a by unfold Addr.add;simp] at this
   have key:∀ (j k:Nat) ev v,es[j]?=some ev→ev[k]?=some v→∃ x,Qo c.heap a.block (a.off+j*P.cellsOf e+k)=some x∧oneC x=true∧Rep c v x:=by
    intro j k ev v hj hkv;obtain⟨cs',g1,g2,g3⟩:=hes2 j ev hj;obtain⟨_,_,gl,gg⟩:=Hf hp g1 hsz;have hkl:k < cs'.length:=by rw[g3.len];exact (List.getElem?_eq_some_iff.1 hkv).1
    have hx:=List.getElem?_eq_getElem hkl
    have:=gg k _ hx
    rw[hadd] at this
    exact⟨_,this,g3.one _ (List.getElem_mem _),g3.rep k v _ hkv hx⟩
   have hIdf:∀ (j k:Nat) ev v,es[j]?=some ev→ev[k]?=some v→Idf v:=by
    intro j k ev v hj hkv;obtain⟨cs',g1,g2,g3⟩:=hes2 j ev hj;exact g3.idf v (List.mem_of_getElem? hkv)
   refine⟨[.sl es],?_,Cels.single ?_ (.sl es hIdf) rfl⟩
   ·simp only[isv,hu]
    refine⟨es,rfl,OM,fun v hv=>?_⟩
    obtain⟨i,hi,rfl⟩:=List.mem_iff_getElem.1 hv;obtain⟨_,_,g2,_⟩:=hes2 i _ (List.getElem?_eq_getElem hi);exact g2
   ·have hR:=Rep.sl (c:=c) es a.block a.off (P.cellsOf e) cap (fun h=>by rw[h] at hes1;simp at hes1;omega) hsz OM (him _ hblk) (fun v hv=>by
      obtain⟨i,hi,rfl⟩:=List.mem_iff_getElem.1 hv;obtain⟨cs',g1,_,g3⟩:=hes2 i _ (List.getElem?_eq_getElem hi);obtain⟨_,_,gl,_⟩:=Hf hp g1 hsz;rw[← g3.len,gl]) hIdf
     (fun j k ev v hj hkv=>by obtain⟨x,h1,h2,_⟩:=key j k ev v hj hkv;exact⟨x,h1,h2⟩)
     (fun j k ev v x hj hkv hx=>by
      obtain⟨x',h1,_,h3⟩:=key j k ev v hj hkv;rw[h1] at hx;cases hx;exact h3)
    rw[hes1,← hae] at hR;exact hR
  case h_9 cs0 _ _ fs hu =>
   rw[hu] at hT;simp only[List.all_eq_true,List.contains_eq_mem,decide_eq_true_eq] at hT;obtain⟨_,hsum,hoff⟩:=kid_struct hk hlt hu;split at h
   case isFalse=>cases h
   rename_i hcl;simp only[Option.map_eq_some_iff] at h;obtain⟨xs,hx,rfl⟩:=h
   let r':TypeId→List Value→Option (DataW H × List MemPlace):=fun t cs=>if t∈L then DataW.trod enc P w base sp held n t cs else none
   have hx':fs.toList.mapM (fun f=>r' f.type ((cs0.drop f.offset).take (P.cellsOf f.type)))=some xs:=mapM_carry hx fun f y hf _ hv=>by
    simp only[r',if_pos (hT f hf)];exact hv
   obtain⟨ls,h1,h2,h3⟩:=segs (c:=c) (P:=P) (n:=n) (r:=r') cs0 (fun f:Field=>f.type) (fun f=>f.offset) (fun t x d hd=>by
    simp only[r'] at hd;split at hd
    ·exact ih _ _ _ ‹_› hd
    ·cases hd) fs.toList 0 xs (fun j f hf=>by rw[hoff j f hf];omega) (by rw[hcl,hsum];omega) hx'
   exact⟨ls.flatten,by simp only[isv,hu];exact⟨ls,rfl,h1,h2⟩,by simpa using h3⟩
  case h_10 cs0 _ _ m e hu =>
   rw[hu] at hT;simp only[List.contains_eq_mem,decide_eq_true_eq] at hT;obtain⟨_,hsum⟩:=kid_array hk hlt hu;split at h
   case isFalse=>cases h
   rename_i hcl;simp only[Option.map_eq_some_iff] at h;obtain⟨xs,hx,rfl⟩:=h
   let r':TypeId→List Value→Option (DataW H × List MemPlace):=fun t cs=>if t∈L then DataW.trod enc P w base sp held n t cs else none
   have hx':(List.range m).mapM (fun i=>r' e ((cs0.drop (i*P.cellsOf e)).take (P.cellsOf e)))=some xs:=mapM_carry hx fun f y hf _ hv=>by
    simp only[r',if_pos hT];exact hv
   have hs:∀ j,((List.range j).map fun _=>P.cellsOf e).sum=j*P.cellsOf e:=by
    intro j;induction j with
    | zero=>simp
    | succ j ihj=>rw[List.range_succ,List.map_append,List.sum_append,ihj];simp [Nat.succ_mul]
   obtain⟨ls,h1,h2,h3⟩:=segs (c:=c) (P:=P) (n:=n) (r:=r') cs0 (fun _:Nat=>e) (fun i=>i*P.cellsOf e) (fun t x d hd=>by
    simp only[r'] at hd;split at hd
    ·exact ih _ _ _ ‹_› hd
    ·cases hd) (List.range m) 0 xs (fun j f hf=>by
     have hjm:j < m:=by have:=(List.getElem?_eq_some_iff.1 hf).1;simpa using this
     rw[List.getElem?_range hjm] at hf;cases hf;rw[List.take_range,Nat.min_eq_left OM,hs];omega) (by rw[hcl,hsum,hs];omega) hx'
   have h4:∀ l∈ls,isv P n e l:=fun l hl=>by
    obtain⟨i,hi,rfl⟩:=List.mem_iff_getElem.1 hl;exact h2 i i _ (List.getElem?_range (by simpa [h1] using hi)) (List.getElem?_eq_getElem hi)
   exact⟨ls.flatten,by simp only[isv,hu];exact⟨ls,rfl,by simpa using h1,h4⟩,by simpa using h3⟩
  all_goals first
   | (cases h;done)
   | (exfalso;rename_i hu;rw[hu] at hT;simp at hT;done)
def argV (P:Program) (t:TypeId) (vs:List V):V:=if isA P t then .ag vs else vs.headD .jk
def Args (P:Program):List TypeId→List V→Prop
 | [],as=>as=[]
 | t::ts,as=>∃ vs as' n,isv P n t vs∧as=argV P t vs::as'∧Args P ts as'
def HJ (hL:Qbk P L=true) (hk:laidOutB P=true) (hp:c.heap=w.heap) (him:∀ b,b < w.heap.size→c.im b)
  (hval:∀ t v,t∈L→Value.okWide P w .any 0 t v→True) :
  ∀ (ts:List TypeId) (xs:List Value) (ds:List (DataW H)) (ps:List MemPlace),(∀ t∈ts,t∈L)→(∀ (j:Nat) t x,ts[j]?=some t→xs[j]?=some x→x.cells.toList.length=1→isA P t=true→∃ cs,x=.agg cs) →
   (∀ (j:Nat) t x,ts[j]?=some t→xs[j]?=some x→isA P t=true→∃ cs,x=.agg cs)→(∀ (j:Nat) t x,ts[j]?=some t→xs[j]?=some x→isA P t=false→oneC x=true) →
   DataW.TrodAll enc P w base sp held ts xs ds ps→∃ as,Args P ts as∧Reps c as xs:=by
 intro ts;induction ts with
 | nil =>
  intro xs ds ps _ _ _ _ h;cases xs with
  | nil=>exact⟨[],rfl,rfl,fun j v x hv=>by simp at hv⟩
  | cons x xs=>cases ds<;>exact h.elim
 | cons t ts ih =>
  intro xs ds ps hts h0 hag hone h;cases xs with
  | nil=>cases ds<;>exact h.elim
  | cons x xs =>
   cases ds with
   | nil=>exact h.elim
   | cons d ds =>
    obtain⟨p,q,⟨n,hn⟩,h2,rfl⟩:=h;obtain⟨vs,hv,hc⟩:=QdC hL hk hp him n t _ _ (hts t SM) hn;obtain⟨as,ha,hr⟩:=ih xs ds q (fun t ht=>hts t (by simp [ht])) (fun j t x h1 h2=>h0 (j+1) t x (by simpa using h1) (by simpa using h2)) (fun j t x h1 h2=>hag (j+1) t x (by simpa using h1) (by simpa using h2))
     (fun j t x h1 h2=>hone (j+1) t x (by simpa using h1) (by simpa using h2)) h2
    refine⟨argV P t vs::as,⟨vs,as,n,hv,rfl,ha⟩,by simp [hr.len],fun j v y hv' hy=>?_⟩
    cases j with
    | succ j=>exact hr.rep j v y (by simpa using hv') (by simpa using hy)
    | zero =>
     simp only[List.getElem?_cons_zero,Option.some.injEq] at hv' hy;subst hv';subst hy;unfold argV;cases hA:isA P t with
     | true =>
      obtain⟨cs,rfl⟩:=hag 0 t x rfl rfl hA;simp only[Value.cells] at hc;refine .ag _ _ (by rw[← hc.len];simp) (fun j x hx=>hc.one x (by rw[← Array.getElem?_toList] at hx;exact List.mem_of_getElem? hx)) fun j v x hv hx=>hc.rep j v x hv (by rw[Array.getElem?_toList];exact hx)
     | false =>
      have h1:=hone 0 t x rfl rfl hA;have hcx:x.cells.toList=[x]:=by cases x<;>first|rfl|cases h1
      rw[hcx] at hc;cases vs with
      | nil=>have:=hc.len;simp at this
      | cons v vs=>exact hc.rep 0 v x rfl rfl
end
def Qei {f:Func} {W W':World} {v:Value} {WC:Bool}
  (hvars:s.vars=[]) (hW:DataW.Whole enc P f.params.toList s.vars WC W args.toList ds gs before) (hk:Kids P (· < P.types.size)) (hfull:∀ t e,t < P.types.size→P.underlying t=some (.slice e)→0 < P.cellsOf e) (hts:∀ t∈f.params.toList,t < P.types.size)
  (hres:∀ (b:Nat) (sp:Nat→Bool) (hd:Bool),DataW.TrodAll enc P W' b sp hd f.resultTypes.toList (v.resultList f.resultTypes.size) (s.fn H (ds++gs)).results [])
  (hfn:(s.fn H (ds++gs)).args=ds) (hvn:(s.fn H (ds++gs)).vars=[])
  (hsame:∀ i,i < W.heap.size→W'.heap[i]?=W.heap[i]?) (hos:W'.os=W.os) (hout:W'.output=W.output):s.post enc P f WC fresh handsOn false W args v W':=by
 have hlt:=hW.lt;have hsm:∀ p∈before,W.sameAt W' p:=by
  intro p hp;have hb:=hlt p hp;cases p with
  | cell b off=>simp only[World.sameAt,World.cell?];rw[hsame b hb]
  | map b=>exact hsame b hb
 obtain⟨p,q,hA,hV,rfl,hz,hn⟩:=id hW;rw[hvars] at hV;have hgs:gs=[]∧q=[]:=by
  cases gs with
  | nil=>exact⟨rfl,hV⟩
  | cons g gs=>exact hV.elim
 obtain⟨rfl,rfl⟩:=hgs;rw[List.append_nil] at hsm hlt;have hargs:∀ sp:Nat→Bool,(∀ x∈p,sp x.block=true)→DataW.TrodAll enc P W' 0 sp true f.params.toList args.toList ds p:=by
  intro sp hsp;have h1:=DataW.TrodAll.respare hk hfull hts hA hsp;have carry:∀ (ts:List TypeId) (vs:List Value) (ds:List (DataW H)) (ps:List MemPlace),DataW.TrodAll enc P W 0 sp true ts vs ds ps→(∀ x∈ps,W.sameAt W' x)→DataW.TrodAll enc P W' 0 sp true ts vs ds ps:=by
   intro ts;induction ts with
   | nil=>intro vs ds ps h _;cases vs<;>cases ds<;>exact h
   | cons t ts ih =>
    intro vs ds ps h hs;cases vs with
    | nil=>cases ds<;>exact h
    | cons v vs =>
     cases ds with
     | nil=>exact h
     | cons d ds =>
      obtain⟨a,b,⟨n,h1⟩,h2,rfl⟩:=h
      exact⟨a,b,⟨n,DataW.trod_carry n _ _ _ h1 fun x hx=>hs x (by simp [hx])⟩,ih _ _ _ h2 fun x hx=>hs x (by simp [hx]),rfl⟩
  exact carry _ _ _ _ h1 hsm
 refine⟨ds,[],p++[],[],p,[],hW,hres _ _ _,?_,?_,?_,fun h=>by cases h⟩
 ·rw[hfn];exact hargs _ fun x hx=>by simpa using hlt x hx
 ·rw[hvars,hvn];rfl
 ·refine⟨hos,hout,fun i hi=>?_⟩
  rw[hsame i hi];split
  ·rename_i h1 h2;cases h1.symm.trans h2
   exact⟨rfl,rfl,rfl,fun _ _=>rfl⟩
  ·rename_i h1 h2;cases h1.symm.trans h2;exact .inr ⟨rfl,rfl⟩
  ·rfl
def HY {fn:Func} {g:Nat} {W:World} {WC:Bool} {tb:TypeId}
  (hfn:P.funcs[g]?=some fn) (hL:Qbk P L=true) (hlo:laidOutB P=true) (hmr:mapsRowed P=true) (hfull:((List.range P.types.size).all fun t=>match P.underlying t with|some (.slice e)=>decide (0 < P.cellsOf e)|_=>true)=true)
  (hvars:s.vars=[]) (hts:∀ t∈fn.params.toList,t∈L) (hrt:fn.resultTypes=#[tb]) (htb:P.underlying tb=some .bool)
  (hspec:∀ ds:List (DataW H),ds.length=fn.params.toList.length→(s.fn H ds).results=[.lit (.bool true)]∧(s.fn H ds).args=ds∧(s.fn H ds).vars=[])
  (hval:∀ (j:Nat) t v,fn.params[j]?=some t→args[j]?=some v→Value.okWide P W .any base t v)
  (hW:DataW.Whole enc P fn.params.toList s.vars WC W args.toList ds gs before)
  (hlaw:∀ as,Args P fn.params.toList as→Snd P g as emp (fun v _=>v=.bo true))
  (hgl:GlAt W.heap (fun b=>b < W.heap.size):=by intro q hq;simp [GL] at hq) :
  Calls P g args W fun e W'=>∃ v,e=.returned v∧s.post enc P fn WC fresh handsOn false W args v W':=by
 obtain⟨p,q,hA,hV,hpq,hz,hn⟩:=id hW
 let c:Cx:={ heap:=W.heap,ph:=fun _=>none,im:=fun b=>b < W.heap.size,n:=0 }
 have hinv:Inv c emp:=⟨fun _ _=>rfl,fun id x h=>(by cases h),fun id b sz h=>(by cases h),fun id id' b sz sz' h=>(by cases h),fun b h=>h,hgl⟩;have hok:∀ (j:Nat) t x,fn.params.toList[j]?=some t→args.toList[j]?=some x→Value.okWide P W .any base t x:=fun j t x h1 h2 =>
  hval j t x (by rw[← Array.getElem?_toList];exact h1) (by rw[← Array.getElem?_toList];exact h2)
 have hag:∀ (j:Nat) t x,fn.params.toList[j]?=some t→args.toList[j]?=some x→isA P t=true→∃ cs,x=.agg cs:=by
  intro j t x h1 h2 hAt
  have:=hok j t x h1 h2
  unfold Value.okWide at this;unfold isA at hAt;split at this
  ·obtain⟨cs,rfl,_⟩:=this;exact⟨_,rfl⟩
  ·obtain⟨cs,rfl,_⟩:=this;exact⟨_,rfl⟩
  ·rename_i h3 h4;split at hAt
   ·rename_i hu;exact (h3 _ hu).elim
   ·rename_i hu;exact (h4 _ _ hu).elim
   ·cases hAt
 have hone:∀ (j:Nat) t x,fn.params.toList[j]?=some t→args.toList[j]?=some x→isA P t=false→oneC x=true:=by
  intro j t x h1 h2 hAt
  have:=hok j t x h1 h2
  unfold Value.okWide at this;unfold isA at hAt;split at this
  ·rename_i hu;rw[hu] at hAt;cases hAt
  ·rename_i hu;rw[hu] at hAt;cases hAt
  ·cases x<;>first|rfl|(exfalso;simp [Cell.okWide,Cell.ok] at this;done)|skip
   all_goals (exfalso;unfold Cell.okWide at this;split at this<;>simp_all [Cell.ok])
 obtain⟨as,has,hr⟩:=HJ (c:=c) (w:=W) hL hlo rfl (fun b hb=>hb) (fun _ _ _ _=>trivial) _ _ _ _ hts (fun j t x h1 h2 _ h3=>hag j t x h1 h2 h3) hag hone hA;have hS:=(hlaw as has).2 c W args rfl hinv hr;have hlen:ds.length=fn.params.toList.length:=by
  have:∀ (ts:List TypeId) (vs:List Value) (ds:List (DataW H)) (ps:List MemPlace),DataW.TrodAll enc P W 0 (fun _=>true) true ts vs ds ps→ds.length=ts.length:=by
   intro ts;induction ts with
   | nil=>intro vs ds ps h;cases vs<;>cases ds<;>first|rfl|exact h.elim
   | cons t ts ih =>
    intro vs ds ps h;cases vs with
    | nil=>cases ds<;>exact h.elim
    | cons v vs =>
     cases ds with
     | nil=>exact h.elim
     | cons d ds=>obtain⟨a,b,_,h2,_⟩:=h;simp [ih _ _ _ h2]
  exact this _ _ _ _ hA
 have hgs:gs=[]:=by
  rw[hvars] at hV;cases gs with
  | nil=>rfl
  | cons g gs=>exact hV.elim
 subst hgs;refine hS.mono fun e W' h=>?_;obtain⟨x,c',v,o',rfl,hA',rfl⟩:=h;have hx:x=.bool true:=by have:=hA'.rep;cases this;rfl
 subst hx;obtain⟨hs1,hs2,hs3⟩:=hspec ds hlen
 refine⟨_,rfl,Qei hvars hW (kids_rows hlo hmr) (slices_full_of P hfull) (fun t ht=>?_) ?_ (by rw[List.append_nil];exact hs2) (by rw[List.append_nil];exact hs3) (fun i hi=>?_) hA'.os hA'.out.output⟩
 ·have:=List.all_eq_true.1 hL t (hts t ht)
  simp only[Bool.and_eq_true,decide_eq_true_eq] at this;exact this.1
 ·intro b sp hd;rw[List.append_nil,hs1,hrt]
  exact⟨[],[],⟨1,by simp [DataW.trod,htb,Value.resultList,Value.cells]⟩,rfl,rfl⟩
 ·have:=hA'.ext.keep i hi (fun id sz h=>by cases h)
  rw[hA'.hp] at this;exact this
end Go.Proofs.YtklbhcjmaeedhaaGreatDoor
