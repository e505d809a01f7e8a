import Derived.Test.YtklbhcjmaeedhaaGreatDoorMc
import Derived.Shelf.SlSortCmp.NoneTotal
import Derived.Shelf.Sort.Plain
import Derived.Shelf.Slices.In.SortNone

namespace Go.Proofs.YtklbhcjmaeedhaaGreatDoor
set_option linter.all false
variable {w:World} {b k g g':Nat} {o:O} {α:Type} {P:Program} {vs:List V} {K:V→O→Prop} {xs:List Value} {y:Value} {a:Int}
open Go.Sort Go.Shelf
theorem QaF {c:Cx} {o:O}:∀ (l:List Obj) {c:Cx},Inv c o→Ext c { c with heap:=c.heap++l.toArray }∧Inv { c with heap:=c.heap++l.toArray } o
 | [],c,h=>by
  have:({ c with heap:=c.heap++([]:List Obj).toArray }:Cx)=c:=by cases c;simp
  rw[this];exact⟨Ext.refl c,h⟩
 | x::l,c,h=>by
  obtain⟨h1,h2⟩:=QaF (c:=c) l (KH h x)
  have:({ c with heap:=c.heap++(x::l).toArray }:Cx)={ c.junk x with heap:=(c.junk x).heap++l.toArray }:=by
   simp [Cx.junk]
  rw[this]
  exact⟨Ext.trans (fun id x hx=>(h.lt id x.1 x.2 hx).1) (JP h x) h1,h2⟩
def JX (F:Array Value) (off:Nat) (arr:Array Value):(putCells id off F arr).size=arr.size:=by simp [putCells]
def Vo {arr:Array Value} {t:TypeId} {fz:Nat × Nat} (h:w.heap[b]?=some (.cells arr t fz)) (off:Nat) (F:Array Value):(putRow id w b off F).heap=w.heap.setIfInBounds b (.cells (putCells id off F arr) t fz):=by
 apply Array.ext_getElem?;intro i;simp only[putRow,mapBlock,Array.getElem?_modify,Array.getElem?_setIfInBounds];by_cases hi:b=i
 ·subst hi
  have:=(Array.getElem?_eq_some_iff.1 h).1
  rw[if_pos rfl,if_pos rfl,h];simp [onCells,this]
 ·simp [hi]
def H1 {c:Cx} (hp:c.heap=w.heap) (hi:Inv c o) {id' sz:Nat} {es es':List (List V)} (ho:o id'=some (.row sz es)) (hb:c.ph id'=some (b,sz)) (n:Nat) (os:Array Obj) {F:Array Value} (hF:F.size=es.length*sz) (hl:es'.length=es.length) (hes:∀ e∈es',e.length=sz) (hz:∀ c,Cz c sz es' F.toList) :
  After c w { c with heap:=(grow (putRow id (Sort.ahead w n) b 0 F) os).heap } (.tp []) (upd o id' (some (.row sz es'))) (.tuple #[]) (grow (putRow id (Sort.ahead w n) b 0 F) os):=by
 obtain⟨b2,sz2,hph,hr⟩:=hi.ob id' _ ho;rw[hb] at hph;cases hph;obtain⟨_,hs0,hlen,arr,ty,hbb,hz0⟩:=QF.1 hr;have hbw:(Sort.ahead w n).heap[b]?=some (.cells arr ty (0,0)):=by show w.heap[b]?=_;rw[← hp];exact hbb
 have hblt:b < c.heap.size:=(hi.lt _ _ _ hb).2.1;have hsame:∀ arr1 t1 fz,c.heap[b]?=some (Obj.cells arr1 t1 fz)→∃ arr',Obj.cells (putCells id 0 F arr) ty (0,0)=Obj.cells arr' t1 fz∧arr'.size=arr1.size:=by
  intro arr1 t1 fz h;rw[hbb] at h;cases h
  exact⟨_,rfl,JX _ _ _⟩
 have hE:=Zi hi hb hsame;have hI:Inv (c.set b (.cells (putCells id 0 F arr) ty (0,0))) (upd o id' (some (.row sz es'))):=by
  refine Js hi hb hsame (QF.2 ⟨rfl,hs0,hes,_,ty,by simp only[Cx.set];rw[Array.getElem?_setIfInBounds_self_of_lt hblt],?_⟩);obtain⟨q1,q2⟩:=hz (c.set b (.cells (putCells id 0 F arr) ty (0,0)));have hFa:F.size≤arr.size:=by rw[hF];simpa using hz0.1
  refine⟨by simp only[Array.length_toList,JX] at *;omega,fun j k e v he hv=>?_⟩
  obtain⟨u,g1,g2⟩:=q2 j k e v he hv
  refine⟨u,?_,g2⟩
  rw[Array.getElem?_toList] at g1 ⊢;have hlt:=(Array.getElem?_eq_some_iff.1 g1).1;simp only[putCells,Array.getElem?_mapIdx,Nat.sub_zero,Nat.zero_add,Nat.zero_le,true_and];rw[Array.getElem?_eq_getElem (by omega:j*sz+k < arr.size)];simp only[Option.map_some,if_pos hlt];rw[getElem!_pos F _ hlt];rw[Array.getElem?_eq_getElem hlt] at g1;exact g1
 obtain⟨m1,m2⟩:=QaF (c:=c) (o:=upd o id' (some (.row sz es'))) os.toList hI;have hh:(grow (putRow id (Sort.ahead w n) b 0 F) os).heap=(c.set b (.cells (putCells id 0 F arr) ty (0,0))).heap++os.toList.toArray:=by
  show (putRow id (Sort.ahead w n) b 0 F).heap++os=_;rw[Vo hbw];simp [Cx.set,hp,Sort.ahead]
 have hc:({ c with heap:=(grow (putRow id (Sort.ahead w n) b 0 F) os).heap }:Cx)={ c.set b (.cells (putCells id 0 F arr) ty (0,0)) with heap:=(c.set b (.cells (putCells id 0 F arr) ty (0,0))).heap++os.toList.toArray }:=by
  rw[hh];rfl
 refine⟨?_,rfl,rfl,⟨rfl,rfl,?_⟩,?_,.tp _ _ rfl SM⟩
 ·rw[hc];exact Ext.trans (fun id x hx=>(hi.lt id x.1 x.2 hx).1) hE m1
 ·show w.drawn≤w.drawn+n;omega
 ·rw[hc];exact m2
def QeQ [Inhabited α] (enc:α→List Value) (k:Nat) (w:World) (blk off m:Nat) (dk:Array α) (os:Array Obj) (h:b≠blk) (hb:b < w.heap.size):(sortWorldK enc k w blk off m dk os).heap[b]?=w.heap[b]?:=by
 show ((w.heap.modify blk _)++os)[b]?=_;rw[Array.getElem?_append_left (by rw[Array.size_modify];exact hb),Array.getElem?_modify,if_neg fun e=>h e.symm]
def Qbc [Inhabited α] (enc:α→List Value) (k:Nat) (w:World) (blk off m:Nat) (dk:Array α) (os:Array Obj):w.heap.size≤(sortWorldK enc k w blk off m dk os).heap.size:=by
 show _≤((w.heap.modify blk _)++os).size;rw[Array.size_append,Array.size_modify];omega
def QeL {h:Nat} [Inhabited α] {enc:α→List Value} {encV:α→List V} {cf:α→α→Int} (hrep:∀ (c:Cx) x,Rep c (.ag (encV x)) (.agg (enc x).toArray))
  (hsnd:∀ x y,Snd P h [.ag (encV x),.ag (encV y)] emp (fun v _=>v=.i .i64 (cf x y))) (blk off size:Nat) (w:World) (im:Nat→Prop) (him:∀ b,im b→b < w.heap.size) (hbl:¬ im blk) (hgl:GlAt w.heap im):CmpLays P h #[] enc k cf blk off size w:=by
 intro m os dk hdk x y;have hat:=fun (b:Nat) (h:b≠blk) (hb:b < w.heap.size)=>QeQ enc k w blk off m dk os h hb;have hsz:=Qbc enc k w blk off m dk os;generalize sortWorldK enc k w blk off m dk os=W at hat hsz ⊢
 let c:Cx:={ heap:=W.heap,ph:=fun _=>none,im:=im,n:=0 }
 have hI:Inv c emp:=⟨fun _ _=>rfl,fun id x h=>(by cases h),fun id b sz h=>(by cases h),fun id id' b sz sz' h=>(by cases h),fun b h=>Nat.lt_of_lt_of_le (him b h) hsz,fun q hq=>⟨(hgl q hq).1,fun k v hv=>by
  obtain⟨kd,n,e1,e2⟩:=(hgl q hq).2 k v hv
  refine⟨kd,n,e1,?_⟩
  have hne:q.1≠blk:=fun e=>hbl (e ▸ (hgl q hq).1);show Qo W.heap q.1 k=_;rw[← e2];unfold Qo;rw[hat _ hne (him _ (hgl q hq).1)]⟩⟩
 refine ((hsnd x y).2 c W _ rfl hI ⟨rfl,fun j v u hv hu=>?_⟩).mono fun e w' hh=>?_
 ·match j with
  | 0=>simp at hv hu;subst hv;subst hu;exact hrep c x
  | 1=>simp at hv hu;subst hv;subst hu;exact hrep c y
  | j+2=>simp at hv
 ·obtain⟨xv,c',v,o',rfl,hA,rfl⟩:=hh;have hx:xv=.int .i64 (cf x y):=by have:=hA.rep;cases this;rfl
  subst hx
  refine⟨rfl,w'.drawn - W.drawn,w'.heap.extract W.heap.size w'.heap.size,?_⟩
  have hk:∀ b:Nat,b < W.heap.size→w'.heap[b]?=W.heap[b]?:=fun b hb=>by
   have:=hA.ext.keep b hb (fun _ _ h=>by cases h)
   rw[hA.hp] at this;exact this
  have hs:W.heap.size≤w'.heap.size:=by have:=hA.ext.size;rw[hA.hp] at this;exact this
  have hd:=hA.out.drawn;have e1:w'.heap=W.heap++w'.heap.extract W.heap.size w'.heap.size:=by
   apply Array.ext_getElem?;intro i;by_cases hi:i < W.heap.size
   ·rw[Array.getElem?_append_left hi,hk i hi]
   ·rw[Array.getElem?_append_right OM,Array.getElem?_extract];split
    ·congr 1;omega
    ·rw[Array.getElem?_eq_none OM]
  have e2:w'.drawn=W.drawn+(w'.drawn - W.drawn):=by omega
  obtain⟨h1,h2,h3,h4,h5⟩:=w';simp only[grow,World.drewN,World.mk.injEq]
  exact⟨e1,hA.out.tape,e2,hA.os,hA.out.output⟩
def JI (P:Program) (g k:Nat) {α:Type} (encV:α→List V) (cf:α→α→Int):Qg:=fun g' vs o K =>
 g'=g∧∃ h,(∀ x y,Snd P h [.ag (encV x),.ag (encV y)] emp (fun v _=>v=.i .i64 (cf x y))) ∧
  ((vs=[.nil,.fn h []]∧K (.tp []) o)∨∃ (id:Nat) (d:List α),vs=[.rw id k 0 d.length,.fn h []]∧o id=some (.row k (d.map encV))∧d.length < 4611686018427387904 ∧
   K (.tp []) (upd o id (some (.row k ((d.mergeSort fun x y=>!(ltOf cf) y x).map encV)))))
def H8 (g:Nat):Qg:=fun g' vs o K =>
 g'=g∧((vs=[.nil]∧K (.tp []) o)∨∃ (id:Nat) (d:List Int),vs=[.rw id 1 0 d.length]∧o id=some (.row 1 (d.map fun z=>[.i .i64 z]))∧d.length < 4611686018427387904 ∧
   K (.tp []) (upd o id (some (.row 1 ((d.mergeSort fun x y=>decide (x≤y)).map fun z=>[.i .i64 z])))))
def QiB [Inhabited α] {enc:α→List Value} {encV:α→List V} (hk:∀ x,(enc x).length=k) (hkV:∀ x,(encV x).length=k) (h1:∀ x,∀ v∈enc x,v.oneCell'=true) (hrep:∀ (c:Cx) x,Rep c (.ag (encV x)) (.agg (enc x).toArray)) (d:List α) (c:Cx):Cz c k (d.map encV) (flatK enc k d.toArray).toList:=by
 refine⟨SM,fun j i e v he hv=>?_⟩
 rw[List.getElem?_map] at he;obtain⟨x,hx,rfl⟩:=Option.map_eq_some_iff.1 he;have hi:i < k:=by rw[← hkV x];exact (List.getElem?_eq_some_iff.1 hv).1
 have hj:j < d.length:=(List.getElem?_eq_some_iff.1 hx).1;have hlt:j*k+i < d.length*k:=by
  have:=Nat.mul_le_mul_right k (show j+1≤d.length from hj);rw[Nat.add_mul,Nat.one_mul] at this;omega
 have e1:(j*k+i) / k=j:=(blk_iff k j _ OM).1 ⟨OM,OM⟩;have e2:(j*k+i) % k=i:=by rw[Nat.mod_eq_sub_div_mul,e1];omega
 have hdx:d.toArray[j]! = x:=by
  rw[getElem!_pos d.toArray _ (by simpa using hj)];simpa using (List.getElem?_eq_some_iff.1 hx).2
 have hel:i < (enc x).length:=by rw[hk];exact hi
 refine⟨(enc x)[i],?_,?_,?_⟩
 ·rw[Array.getElem?_toList,Array.getElem?_eq_getElem (by simpa using hlt),← getElem!_pos (flatK enc k d.toArray) (j*k+i) (by simpa using hlt),get_flatK _ _ _ _ (by simpa using hlt),e1,e2,hdx,getElem!_pos (enc x) _ hel]
 ·rw[KS];exact h1 x _ (List.getElem_mem _)
 ·cases hrep c x with
  | ag _ _ hl _ hh=>exact hh i v _ hv (by simp [hel])
def HN {i:Nat} {x:Ob} (h:o i=some x):upd o i (some x)=o:=by
 funext j;simp only[upd];split
 ·rename_i hj;rw[hj,h]
 ·rfl
def DB [Inhabited α] {enc:α→List Value} {encV:α→List V} {cf:α→α→Int} (hg:ZZ P g=true) (hk:∀ x,(enc x).length=k) (hkV:∀ x,(encV x).length=k) (h1:∀ x,∀ v∈enc x,v.oneCell'=true) (hrep:∀ (c:Cx) x,Rep c (.ag (encV x)) (.agg (enc x).toArray))
  (hinj:∀ (c:Cx) x l,Rep c (.ag (encV x)) (.agg l)→l=(enc x).toArray)
  (hT:∀ (h:Nat) (cb:Array Value) (blk off cap:Nat) (d:Array α) (w:World),(∀ args w,(callFunc h args).run P w=.ok (.enter h args) w)→CmpLays P h cb enc k cf blk off d.size w→HoldsK enc k w blk off d→blk < w.heap.size→d.size < 4611686018427387904 →
   Calls P g #[.slice (some ⟨blk,off,none⟩) d.size cap,.func (.func h) #[] cb] w fun e w'=>e=.returned (.tuple #[])∧∃ n os,w'=sortWorldK enc k w blk off n (d.toList.mergeSort fun x y=>!(ltOf cf) y x).toArray os)
  (hN:∀ (p:Option Addr) (cap:Nat) (fv:Value) (w:World),Calls P g #[.slice p 0 cap,fv] w fun e w'=>e=.returned (.tuple #[])∧w'=w) (h:JI P g k encV cf g' vs o K):Snd P g' vs o K:=by
 obtain⟨rfl,f,hs,h⟩:=h;have hb:ZZ P f=true:=(hs default default).1
 refine⟨hg,fun c w xs hp hi hx=>?_⟩
 have noEl:∀ {v0:V},vs=[v0,.fn f []]→(∀ x,Rep c v0 x→∃ p cap,x=.slice p 0 cap)→K (.tp []) o→Calls P g' xs w (fun e w'=>∃ x c' v o',e=.returned x∧After c w c' v o' x w'∧K v o'):=by
  rintro v0 rfl h0 hK;have hl:=hx.len
  match hxs:xs.toList,hl with
  | [x0,x1],_ =>
   obtain⟨p,cap,rfl⟩:=h0 x0 (hx.rep 0 _ _ rfl (by rw[hxs];rfl))
   have:xs=#[.slice p 0 cap,x1]:=by apply Array.ext';rw[hxs]
   rw[this];exact (hN p cap x1 w).mono fun e w' ⟨h1,h2⟩=>⟨_,c,_,o,h1,After.same hp hi (.tp [] #[] rfl SM) (by rw[h2]) (by rw[h2]) (by rw[h2];exact Ot.refl w),hK⟩
 rcases h with⟨has,hK⟩|⟨id',d,has,ho,hsz,hK⟩
 ·exact noEl has (fun x hr=>by cases hr;exact⟨_,_,rfl⟩) hK
 ·by_cases hd0:d=[]
  ·subst hd0;refine noEl has (fun x hr=>?_) (by have:=hK;simp only[List.mergeSort_nil,List.map_nil] at this ho;rwa [HN ho] at this);cases hr<;>exact⟨_,_,rfl⟩
  ·subst has;have hl:=hx.len
   match hxs:xs.toList,hl with
   | [x0,x1],_ =>
    have hr0:=hx.rep 0 _ _ rfl (by rw[hxs];rfl);have hr1:=hx.rep 1 _ _ rfl (by rw[hxs];rfl);obtain⟨b,sz,hph,hro⟩:=hi.ob id' _ ho;obtain⟨rfl,hs0,hlen,arr,ty,hbb,hz⟩:=QF.1 hro;have hx0:∃ cap,x0=.slice (some ⟨b,0,none⟩) d.length cap:=by
     have hdl:d.length≠0:=by simpa using hd0
     generalize hlen2:d.length=len at hr0 hdl;cases hr0 with
     | rw0=>exact absurd rfl hdl
     | rw _ _ _ _ b2 cap hp2 hn hc hf=>rw[hph] at hp2;cases hp2;exact⟨cap,SM⟩
     | rwd _ _ _ _ _ _ hp2=>rw[hph] at hp2;cases hp2
    obtain⟨cap,rfl⟩:=hx0;have hx1:x1=.func (.func f) #[] #[]:=by
     cases hr1 with
     | fn _ _ xs2 hl2 _=>have:xs2=#[]:=Array.eq_empty_of_size_eq_zero (by simpa using hl2);rw[this]
    subst hx1
    have:xs=#[.slice (some ⟨b,0,none⟩) d.length cap,.func (.func f) #[] #[]]:=by apply Array.ext';rw[hxs]
    rw[this];have hblt:b < w.heap.size:=by rw[← hp];exact (hi.lt _ _ _ hph).2.1
    have hsz2:d.toArray.size=d.length:=by simp
    have hbw:w.heap[b]?=some (.cells arr ty (0,0)):=by rw[← hp];exact hbb
    have hH:HoldsK enc k w b 0 d.toArray:=by
     intro t ht;rw[size_flatK] at ht;have ht':t < d.length*k:=by simpa using ht
     have k0:0 < k:=hs0;have hj:t / k < d.length:=Nat.div_lt_of_lt_mul (by rw[Nat.mul_comm];exact ht');have hi2:t % k < k:=Nat.mod_lt _ k0;rw[get_flatK _ _ _ _ ht];have hdx:d.toArray[t / k]! = d[t / k]:=by rw[getElem!_pos d.toArray _ (by simpa using hj)];simp
     rw[hdx];have hcell:∀ i,i < k→∃ u,arr.toList[t / k*k+i]?=some u∧oneC u=true∧∃ v,(encV d[t / k])[i]?=some v∧Rep c v u:=fun i hik=>by
      have hv:(encV d[t / k])[i]?=some ((encV d[t / k])[i]'(by rw[hkV];exact hik)):=List.getElem?_eq_getElem _;obtain⟨u,g1,g2,g3⟩:=hz.2 (t / k) i _ _ (by rw[List.getElem?_map,List.getElem?_eq_getElem hj];rfl) hv
      exact⟨u,g1,g2,_,hv,g3⟩
     have hal:∀ i,i < k→t / k*k+i < arr.size:=fun i hik=>by
      obtain⟨u,g1,_⟩:=hcell i hik
      have:=(List.getElem?_eq_some_iff.1 g1).1
      simpa using this
     let l:Array Value:=Array.ofFn (n:=k) fun i=>arr[t / k*k+i.1]'(hal i.1 i.2)
     have hrl:Rep c (.ag (encV d[t / k])) (.agg l):=by
      refine .ag _ _ (by simp [l,hkV]) (fun i x hx=>?_) fun i v x hv hx=>?_
      ·have hik:i < k:=by have:=(Array.getElem?_eq_some_iff.1 hx).1;simpa [l] using this
       obtain⟨u,g1,g2,_⟩:=hcell i hik;rw[Array.getElem?_eq_getElem (by simpa [l] using hik)] at hx;rw[Array.getElem?_toList,Array.getElem?_eq_getElem (hal i hik)] at g1;simp [l] at hx;cases g1;rw[← hx];exact g2
      ·have hik:i < k:=by have:=(Array.getElem?_eq_some_iff.1 hx).1;simpa [l] using this
       obtain⟨u,g1,g2,v2,g3,g4⟩:=hcell i hik;rw[Array.getElem?_eq_getElem (by simpa [l] using hik)] at hx;rw[Array.getElem?_toList,Array.getElem?_eq_getElem (hal i hik)] at g1;simp [l] at hx;rw[g3] at hv;cases hv;cases g1;rw[← hx];exact g4
     have hle:=hinj c _ l hrl;have hget:(enc d[t / k])[t % k]! = arr[t / k*k+t % k]'(hal _ hi2):=by
      have h2:(enc d[t / k]).toArray[t % k]! = l[t % k]! := by rw[hle]
      rw[getElem!_pos (enc d[t / k]).toArray _ (by simpa [hk] using hi2),getElem!_pos l _ (by simpa [l] using hi2)] at h2;rw[getElem!_pos (enc d[t / k]) _ (by rw[hk];exact hi2)];simpa [l] using h2
     have htt:t / k*k+t % k=t:=by rw[Nat.mul_comm];exact Nat.div_add_mod t k
     rw[hget];simp only[htt,Nat.zero_add]
     refine⟨?_,?_⟩
     ·have:t < arr.size:=by have:=hal _ hi2;rw[htt] at this;exact this
      simp [World.cell?,hbw,this]
     ·simp [World.frozen?,hbw]
    have hmain:=hT f #[] b 0 cap d.toArray w (fun args w=>KJ hb) (QeL hrep hs b 0 d.toArray.size w c.im (fun b hb=>by rw[← hp];exact hi.im b hb) (fun hh=>(hi.lt _ _ _ hph).2.2 hh) (by rw[← hp];exact hi.gl)) hH hblt (by simpa using hsz);rw[hsz2] at hmain;refine hmain.mono fun e w' hh=>?_;obtain⟨rfl,n,os,rfl⟩:=hh
    refine⟨_,_,_,_,rfl,H1 (es':=(d.mergeSort fun x y=>!(ltOf cf) y x).map encV) hp hi ho hph n os (F:=flatK enc k (d.toArray.toList.mergeSort fun x y=>!(ltOf cf) y x).toArray) SM SM (fun e he=>?_) (fun c=>?_),hK⟩
    ·obtain⟨x,_,rfl⟩:=List.mem_map.1 he;exact hkV x
    ·exact QiB hk hkV h1 hrep _ c
def Qa3 (w:World) (b off:Nat) (d:Array Int):putRow (Value.int .i64) w b off d=putRow id w b off (d.map (Value.int .i64)):=by
 unfold putRow;congr 1;funext arr
 apply Array.ext (by simp [putCells]);intro i h1 h2;simp only[putCells,Array.getElem_mapIdx,Array.size_map];split
 ·rename_i hc;rw[getElem!_pos d _ OM,getElem!_pos (d.map (Value.int .i64)) _ (by simp;omega)];simp
 ·rfl
def QeF (hg:ZZ P g=true)
  (hT:∀ (blk off cap:Nat) (zs:List Int) (w:World),Holds (Value.int .i64) w blk off zs.toArray→blk < w.heap.size→zs.length < 4611686018427387904 →
   Calls P g #[.slice (some ⟨blk,off,none⟩) zs.length cap] w fun e w'=>e=.returned (.tuple #[])∧∃ n os,w'=grow (putRow (Value.int .i64) (Sort.ahead w n) blk off (zs.mergeSort fun x y=>decide (x≤y)).toArray) os)
  (hN:∀ (p:Option Addr) (cap:Nat) (w:World),Calls P g #[.slice p 0 cap] w fun e w'=>e=.returned (.tuple #[])∧w'=w) (h:H8 g g' vs o K):Snd P g' vs o K:=by
 obtain⟨rfl,h⟩:=h
 refine⟨hg,fun c w xs hp hi hx=>?_⟩
 have noEl:∀ {v0:V},vs=[v0]→(∀ x,Rep c v0 x→∃ p cap,x=.slice p 0 cap)→K (.tp []) o→Calls P g' xs w (fun e w'=>∃ x c' v o',e=.returned x∧After c w c' v o' x w'∧K v o'):=by
  rintro v0 rfl h0 hK;have hl:=hx.len
  match hxs:xs.toList,hl with
  | [x0],_ =>
   obtain⟨p,cap,rfl⟩:=h0 x0 (hx.rep 0 _ _ rfl (by rw[hxs];rfl))
   have:xs=#[.slice p 0 cap]:=by apply Array.ext';rw[hxs]
   rw[this];exact (hN p cap w).mono fun e w' ⟨h1,h2⟩=>⟨_,c,_,o,h1,After.same hp hi (.tp [] #[] rfl SM) (by rw[h2]) (by rw[h2]) (by rw[h2];exact Ot.refl w),hK⟩
 rcases h with⟨has,hK⟩|⟨id',d,has,ho,hsz,hK⟩
 ·exact noEl has (fun x hr=>by cases hr;exact⟨_,_,rfl⟩) hK
 ·by_cases hd0:d=[]
  ·subst hd0;refine noEl has (fun x hr=>?_) (by have:=hK;simp only[List.mergeSort_nil,List.map_nil] at this ho;rwa [HN ho] at this);cases hr<;>exact⟨_,_,rfl⟩
  ·subst has;have hl:=hx.len
   match hxs:xs.toList,hl with
   | [x0],_ =>
    have hr0:=hx.rep 0 _ _ rfl (by rw[hxs];rfl);obtain⟨b,sz,hph,hro⟩:=hi.ob id' _ ho;obtain⟨rfl,hs0,hlen,arr,ty,hbb,hz⟩:=QF.1 hro;have hx0:∃ cap,x0=.slice (some ⟨b,0,none⟩) d.length cap:=by
     have hdl:d.length≠0:=by simpa using hd0
     generalize hlen2:d.length=len at hr0 hdl;cases hr0 with
     | rw0=>exact absurd rfl hdl
     | rw _ _ _ _ b2 cap hp2 hn hc hf=>rw[hph] at hp2;cases hp2;exact⟨cap,SM⟩
     | rwd _ _ _ _ _ _ hp2=>rw[hph] at hp2;cases hp2
    obtain⟨cap,rfl⟩:=hx0
    have:xs=#[.slice (some ⟨b,0,none⟩) d.length cap]:=by apply Array.ext';rw[hxs]
    rw[this];have hblt:b < w.heap.size:=by rw[← hp];exact (hi.lt _ _ _ hph).2.1
    have hbw:w.heap[b]?=some (.cells arr ty (0,0)):=by rw[← hp];exact hbb
    have hH:Holds (Value.int .i64) w b 0 d.toArray:=by
     intro t ht;have ht':t < d.length:=by simpa using ht
     obtain⟨u,g1,g2,g3⟩:=hz.2 t 0 [.i .i64 d[t]] _ (by rw[List.getElem?_map,List.getElem?_eq_getElem ht'];rfl) rfl;have hu:u=.int .i64 d[t]:=by cases g3;rfl
     subst hu;rw[Nat.mul_one,Nat.add_zero,Array.getElem?_toList] at g1;have hdx:d.toArray[t]! = d[t]:=by rw[getElem!_pos d.toArray _ ht];simp
     rw[hdx,Nat.zero_add]
     refine⟨?_,?_⟩
     ·simp [World.cell?,hbw,g1]
     ·simp [World.frozen?,hbw]
    refine (hT b 0 cap d w hH hblt hsz).mono fun e w' hh=>?_;obtain⟨rfl,n,os,rfl⟩:=hh;rw[Qa3]
    refine⟨_,_,_,_,rfl,H1 (es':=(d.mergeSort fun x y=>decide (x≤y)).map fun z=>[.i .i64 z]) hp hi ho hph n os (F:=(d.mergeSort fun x y=>decide (x≤y)).toArray.map (Value.int .i64)) SM SM (fun e he=>?_) (fun c=>⟨SM,fun j k e v he hv=>?_⟩),hK⟩
    ·obtain⟨x,_,rfl⟩:=List.mem_map.1 he;rfl
    ·rw[List.getElem?_map] at he;obtain⟨x,hx,rfl⟩:=Option.map_eq_some_iff.1 he
     match k with
     | 0 =>
      simp at hv;subst hv
      exact⟨.int .i64 x,by simp [hx],rfl,.i _ _⟩
     | k+1=>simp at hv
end Go.Proofs.YtklbhcjmaeedhaaGreatDoor

namespace Go.Proofs.YtklbhcjmaeedhaaGreatDoor
set_option linter.all false
variable {w:World} {b k g g':Nat} {o:O} {α:Type} {P:Program} {vs:List V} {K:V→O→Prop} {xs:List Value} {y:Value} {a:Int}
open Go.Sort
structure Mv where
 to:Nat
 keep:Nat
 again:Bool
 deriving DecidableEq,Inhabited
structure Cf where
 p:Int
 c0:Int
 c1:Int
 c2:Int
 c3:Int
 deriving DecidableEq,Inhabited
def Cf.c (x:Cf):Nat→Int
 | 0=>x.c0
 | 1=>x.c1
 | 2=>x.c2
 | 3=>x.c3
 | _=>0
def mkCf (p:Int) (f:Nat→Int):Cf:=⟨p,f 0,f 1,f 2,f 3⟩
def mvC (m:Mv):List V:=[.i .i64 m.to,.i .i64 m.keep,.bo m.again]
def cfC (x:Cf):List V:=[.i .i64 x.p,.i .i64 x.c0,.i .i64 x.c1,.i .i64 x.c2,.i .i64 x.c3]
def mvE (m:Mv):List Value:=[.int .i64 m.to,.int .i64 m.keep,.bool m.again]
def cfE (x:Cf):List Value:=[.int .i64 x.p,.int .i64 x.c0,.int .i64 x.c1,.int .i64 x.c2,.int .i64 x.c3]
def ZL (a b:Mv):Int :=
 if a.to < b.to then -1 else if b.to < a.to then 1
 else if a.keep < b.keep then -1 else if b.keep < a.keep then 1
 else if a.again=b.again then 0 else if b.again then -1 else 1
def cmpI (a b:Int):Int:=if a < b then -1 else if b < a then 1 else 0
def orI2 (a b:Int):Int:=if a=0 then b else a
def ordC (x y:Cf):Int:=orI2 (cmpI x.p y.p) (orI2 (cmpI x.c0 y.c0) (orI2 (cmpI x.c1 y.c1) (orI2 (cmpI x.c2 y.c2) (cmpI x.c3 y.c3))))
def HW {c:Cx} (hl:xs.length=vs.length) (h1:∀ x∈xs,oneC x=true) (h:∀ (j:Nat) v x,vs[j]?=some v→xs[j]?=some x→Rep c v x):Rep c (.ag vs) (.agg xs.toArray) :=
 .ag _ _ (by simpa using hl) (fun j x hx=>h1 x (by rw[← Array.getElem?_toList] at hx;exact List.mem_of_getElem? hx)) (fun j v x hv hx=>h j v x hv (by rw[← Array.getElem?_toList] at hx;exact hx))
def Qli (c:Cx) (m:Mv):Rep c (.ag (mvC m)) (.agg (mvE m).toArray):=by
 refine HW rfl (by simp [mvE,oneC]) fun j v x hv hx=>?_
 match j with
 | 0=>simp [mvC,mvE] at hv hx;subst hv;subst hx;exact .i _ _
 | 1=>simp [mvC,mvE] at hv hx;subst hv;subst hx;exact .i _ _
 | 2=>simp [mvC,mvE] at hv hx;subst hv;subst hx;exact .bo _
 | j+3=>simp [mvC] at hv
def QjL (c:Cx) (m:Cf):Rep c (.ag (cfC m)) (.agg (cfE m).toArray):=by
 refine HW rfl (by simp [cfE,oneC]) fun j v x hv hx=>?_
 match j with
 | 0=>simp [cfC,cfE] at hv hx;subst hv;subst hx;exact .i _ _
 | 1=>simp [cfC,cfE] at hv hx;subst hv;subst hx;exact .i _ _
 | 2=>simp [cfC,cfE] at hv hx;subst hv;subst hx;exact .i _ _
 | 3=>simp [cfC,cfE] at hv hx;subst hv;subst hx;exact .i _ _
 | 4=>simp [cfC,cfE] at hv hx;subst hv;subst hx;exact .i _ _
 | j+5=>simp [cfC] at hv
def DT {c:Cx} (hl:xs.length=vs.length) (h:∀ (j:Nat) v x,vs[j]?=some v→xs[j]?=some x→∀ y,Rep c v y→y=x) (l:Array Value) (hr:Rep c (.ag vs) (.agg l)):l=xs.toArray:=by
 cases hr with
 | ag _ _ hs _ hh =>
  refine Array.ext (by simp [hs,hl]) fun i h1 h2=>?_;have hi:i < vs.length:=by omega
  have hi2:i < xs.length:=by omega
  have:=h i vs[i] xs[i] (List.getElem?_eq_getElem hi) (List.getElem?_eq_getElem hi2) l[i] (hh i _ _ (List.getElem?_eq_getElem hi) (Array.getElem?_eq_getElem h1))
  rw[this];simp
def VB {c:Cx} {k:IntKind} {n:Int} (h:Rep c (.i k n) y):y=.int k n:=by cases h;rfl
def QmH {c:Cx} {p:Bool} (h:Rep c (.bo p) y):y=.bool p:=by cases h;rfl
def QjK (c:Cx) (m:Mv) (l:Array Value) (h:Rep c (.ag (mvC m)) (.agg l)):l=(mvE m).toArray:=by
 refine DT rfl (fun j v x hv hx y hy=>?_) l h
 match j with
 | 0=>simp [mvC,mvE] at hv hx;subst hv;subst hx;exact VB hy
 | 1=>simp [mvC,mvE] at hv hx;subst hv;subst hx;exact VB hy
 | 2=>simp [mvC,mvE] at hv hx;subst hv;subst hx;exact QmH hy
 | j+3=>simp [mvC] at hv
def Qks (c:Cx) (m:Cf) (l:Array Value) (h:Rep c (.ag (cfC m)) (.agg l)):l=(cfE m).toArray:=by
 refine DT rfl (fun j v x hv hx y hy=>?_) l h
 match j with
 | 0=>simp [cfC,cfE] at hv hx;subst hv;subst hx;exact VB hy
 | 1=>simp [cfC,cfE] at hv hx;subst hv;subst hx;exact VB hy
 | 2=>simp [cfC,cfE] at hv hx;subst hv;subst hx;exact VB hy
 | 3=>simp [cfC,cfE] at hv hx;subst hv;subst hx;exact VB hy
 | 4=>simp [cfC,cfE] at hv hx;subst hv;subst hx;exact VB hy
 | j+5=>simp [cfC] at hv
def Qhc {b:Int}:orI2 a b < 0↔a < 0∨(a=0∧b < 0):=by
 unfold orI2;split<;>omega
def QhM {b:Int}:cmpI a b < 0↔a < b:=by unfold cmpI;split<;>(try split)<;>omega
def Vp {b:Int}:cmpI a b=0↔a=b:=by unfold cmpI;split<;>(try split)<;>omega
def K9 {x y:Cf}:ordC x y < 0↔x.p < y.p∨(x.p=y.p∧(x.c0 < y.c0∨(x.c0=y.c0∧(x.c1 < y.c1∨(x.c1=y.c1∧(x.c2 < y.c2∨(x.c2=y.c2∧x.c3 < y.c3))))))):=by
 simp only[ordC,Qhc,QhM,Vp]
def WQ {x y:Mv}:ZL x y < 0↔x.to < y.to∨(x.to=y.to∧(x.keep < y.keep∨(x.keep=y.keep∧(x.again=false∧y.again=true)))):=by
 unfold ZL;rcases x with⟨a,b,c⟩;rcases y with⟨a',b',c'⟩;dsimp only;cases c<;>cases c'<;>(repeat' split)<;>simp_all<;>omega
def swoC:SWO (ltOf ordC) where
 irrefl x:=by simp only[ltOf,decide_eq_false_iff_not,K9];omega
 trans x y z h1 h2:=by simp only[ltOf,decide_eq_true_eq,K9] at *;omega
 ntrans x y z h1 h2:=by simp only[ltOf,decide_eq_false_iff_not,K9] at *;omega
def totC:∀ x y,ltOf ordC x y=false→ltOf ordC y x=false→x=y:=by
 intro x y h1 h2;simp only[ltOf,decide_eq_false_iff_not,K9] at h1 h2;rcases x with⟨a,b,c,d,e⟩;rcases y with⟨a',b',c',d',e'⟩;simp only[Cf.mk.injEq];dsimp only at h1 h2;omega
def swoM:SWO (ltOf ZL) where
 irrefl x:=by simp only[ltOf,decide_eq_false_iff_not,WQ];rcases x with⟨a,b,c⟩;cases c<;>simp
 trans x y z h1 h2:=by
  simp only[ltOf,decide_eq_true_eq,WQ] at *;rcases x with⟨a,b,c⟩;rcases y with⟨a',b',c'⟩;rcases z with⟨a2,b2,c2⟩;cases c<;>cases c'<;>cases c2<;>simp_all<;>omega
 ntrans x y z h1 h2:=by
  simp only[ltOf,decide_eq_false_iff_not,WQ] at *;rcases x with⟨a,b,c⟩;rcases y with⟨a',b',c'⟩;rcases z with⟨a2,b2,c2⟩;cases c<;>cases c'<;>cases c2<;>simp_all<;>omega
def totM:∀ x y,ltOf ZL x y=false→ltOf ZL y x=false→x=y:=by
 intro x y h1 h2;simp only[ltOf,decide_eq_false_iff_not,WQ] at h1 h2;rcases x with⟨a,b,c⟩;rcases y with⟨a',b',c'⟩;simp only[Mv.mk.injEq];dsimp only at h1 h2;cases c<;>cases c'<;>simp_all<;>omega
def BasL (P:Program) (gs gm gc:Nat):Qg:=fun g vs o K=>H8 gs g vs o K∨JI P gm 3 mvC ZL g vs o K∨JI P gc 5 cfC ordC g vs o K
end Go.Proofs.YtklbhcjmaeedhaaGreatDoor
