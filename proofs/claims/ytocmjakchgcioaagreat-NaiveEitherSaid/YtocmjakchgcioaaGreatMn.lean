import Derived.Test.YtocmjakchgcioaaGreatMc
import Derived.Shelf.SlIter.Collect
import GoSem.Core.Lib
import GoSem.Core.Region
import Derived.Test.YtocmjakchgcioaaGreatMb
import Derived.Test.YtocmjakchgcioaaGreatProg

namespace Go.Proofs.YtocmjakchgcioaaGreat
set_option linter.all false
open Go Go.RowKit Go.Maps Go.Sort Go.Shelf
structure EsOk (es:Array MapEntry) (clock:Nat):Prop where
 inc:∀ i j,i < j→j < es.size→es[i]!.born < es[j]!.born
 lt:∀ i,i < es.size→es[i]!.born < clock
structure RgAt (W:World) (b it:Nat) (es:Array MapEntry) (clock:Nat) (is:List Nat):Prop where
 m:W.heap[b]?=some (.map es clock)
 i:W.heap[it]?=some (.mapIter (some b) clock (is.map fun i=>es[i]!.born).toArray clock)
 nd:is.Nodup
 lt:∀ i∈is,i < es.size
def EsOk.inj {es:Array MapEntry} {clock:Nat} (h:EsOk es clock) {i j:Nat} (hi:i < es.size) (hj:j < es.size) (e:es[i]!.born=es[j]!.born):i=j:=by
 rcases Nat.lt_trichotomy i j with h1|h1|h1
 ·have:=h.inc i j h1 hj;omega
 ·exact h1
 ·have:=h.inc j i h1 hi;omega
def QiX {P:Program} {W:World} {b it:Nat} {es:Array MapEntry} {clock:Nat} {is:List Nat} (h:RgAt W b it es clock is) (hE:EsOk es clock) (hbi:b≠it) (ty:TypeId) :
  ((∀ i,i < es.size→i∈is)∧∃ W',(Instr.next (.pointer (some ⟨it,0,none⟩)) false ty).run P W=.ok (.tuple #[.bool false]) W'∧RgAt W' b it es clock is∧W.grownBy W' (some it)) ∨
  ∃ j W',j < es.size∧j ∉ is∧(Instr.next (.pointer (some ⟨it,0,none⟩)) false ty).run P W=.ok (.tuple #[.bool true,es[j]!.key,es[j]!.val]) W'∧RgAt W' b it es clock (is++[j])∧W.grownBy W' (some it)∧W'.heap.size=W.heap.size:=by
 obtain⟨hm,hi,hnd,hlt⟩:=h;generalize hseen:is.map (fun i=>es[i]!.born)=seen at hi;have hmem:∀ j,j < es.size→(es[j]!.born∈seen↔j∈is):=fun j hj=>by
  rw[← hseen,List.mem_map];constructor
  ·rintro⟨i,hi,e⟩
   rw[← hE.inj (hlt i hi) hj e];exact hi
  ·exact fun h=>⟨j,h,rfl⟩
 have hgi:(getObj it).run P W=.ok (.mapIter (some b) clock seen.toArray clock) W:=by simp [getObj,Sem.run,hi]
 have hget:=Zq (P:=P) hm;have at_:∀ e,e∈es↔∃ j,j < es.size∧es[j]! = e:=fun e=>by
  constructor
  ·intro he;obtain⟨a,ha,hae⟩:=Array.getElem_of_mem he
   exact⟨a,ha,by rw[getElem!_pos es a ha];exact hae⟩
  ·rintro⟨j,hj,rfl⟩
   rw[getElem!_pos es j hj];exact Array.getElem_mem hj
 have htest:(!seen.toArray.isEmpty&&!es.isEmpty&&es.all (fun e=>decide (e.born≥clock)))=false:=by
  by_cases h0:es.size=0
  ·have:es=#[]:=Array.eq_empty_of_size_eq_zero h0
   subst this;simp
  ·have:es.all (fun e=>decide (e.born≥clock))=false:=by
    rw[Array.all_eq_false]
    refine⟨0,OM,?_⟩
    have:=hE.lt 0 OM
    rw[getElem!_pos es 0 OM] at this;simp;omega
   simp [this]
 generalize hleft:es.filter (fun e=>!seen.toArray.contains e.born)=left;have hlm:∀ e,e∈left↔e∈es∧e.born ∉ seen:=by
  intro e;rw[← hleft];simp
 generalize hcand:(if (left.filter (fun e=>decide (e.born < clock))).isEmpty then #[none] else #[])++(left.filter (fun e=>decide (e.born < clock))++left.filter (fun e=>decide (e.born≥clock))).map some=cand;obtain⟨j,w1,hj,g1,g2,⟨g3,g4,g5⟩,hch⟩:=Kn (P:=P) W cand.size;have hpos:0 < cand.size:=by
  rw[← hcand];by_cases he:(left.filter (fun e=>decide (e.born < clock))).isEmpty=true
  ·rw[if_pos he];simp;omega
  ·rw[if_neg he]
   have:(left.filter (fun e=>decide (e.born < clock))).size≠0:=fun h0=>he (by simpa [Array.isEmpty] using h0)
   simp only[Array.size_append,Array.size_map,List.size_toArray,List.length_nil];omega
 have hjl:=hj hpos;have hrun:(Instr.next (.pointer (some ⟨it,0,none⟩)) false ty).run P W=(match cand[j]? with
   | some (some e)=>(do setObj it (.mapIter (some b) clock (seen.toArray.push e.born) clock);pure (.tuple #[.bool true,e.key,e.val]):Sem Value)
   | some none=>pure (.tuple #[.bool false])
   | none => stuck "Next: no such candidate").run P w1 := by
  simp only[Instr.next,Sem.run_bind,hgi,Result.andThen_ok,hget,htest,Bool.false_eq_true,if_false,hleft,hcand,hch];rfl
 have hcj:=Array.getElem?_eq_getElem hjl;cases hcv:cand[j] with
 | none =>
  rw[hcv] at hcj;rw[hcj] at hrun;have hold:(left.filter (fun e=>decide (e.born < clock))).isEmpty=true:=by
   by_cases he:(left.filter (fun e=>decide (e.born < clock))).isEmpty=true
   ·exact he
   ·exfalso;have hmem:=Array.mem_of_getElem? hcj;rw[← hcand,if_neg he] at hmem;simp at hmem
  refine .inl ⟨fun i hi=>?_,w1,hrun,⟨by rw[g1];exact hm,by rw[g1,hseen];exact hi,hnd,hlt⟩,⟨g2,g4,g3,by rw[g1];exact Nat.le_refl _,fun k _ _=>by rw[g1]⟩⟩;rw[← hmem i hi];by_cases hs:es[i]!.born∈seen
  ·exact hs
  ·exfalso;have hle:es[i]! ∈ left:=(hlm _).2 ⟨(at_ _).2 ⟨i,hi,rfl⟩,hs⟩
   have:es[i]! ∈ left.filter (fun e=>decide (e.born < clock)):=by
    rw[Array.mem_filter];exact⟨hle,by simpa using hE.lt i hi⟩
   have h0:left.filter (fun e=>decide (e.born < clock))=#[]:=Array.isEmpty_iff.1 hold;rw[h0] at this;simp at this
 | some e =>
  rw[hcv] at hcj;rw[hcj] at hrun;have hel:e∈left:=by
   have hmem:=Array.mem_of_getElem? hcj;rw[← hcand] at hmem;rcases Array.mem_append.1 hmem with hm|hm
   ·split at hm<;>simp at hm
   ·simp at hm;rcases hm with hm|hm
    ·exact hm.1
    ·exact hm.1
  obtain⟨hees,hens⟩:=(hlm e).1 hel;obtain⟨i,hil,rfl⟩:=(at_ e).1 hees;have hni:i ∉ is:=fun h=>hens ((hmem i hil).2 h);have hw1:w1.heap[it]?=some (.mapIter (some b) clock seen.toArray clock):=by rw[g1];exact hi
  have hits:it < w1.heap.size:=(Array.getElem?_eq_some_iff.1 hw1).1;refine .inr ⟨i,{ w1 with heap:=w1.heap.setIfInBounds it (.mapIter (some b) clock (seen.toArray.push es[i]!.born) clock) },hil,hni,?_,⟨?_,?_,?_,?_⟩,⟨g2,g4,g3,by simp [g1],fun k _ hk=>?_⟩,by simp [g1]⟩
  ·rw[hrun];simp only[Sem.run_bind,setObj,Sem.run,hw1,Result.andThen_ok];rfl
  ·show (w1.heap.setIfInBounds it _)[b]?=_;rw[Array.getElem?_setIfInBounds_ne (Ne.symm hbi),g1];exact hm
  ·show (w1.heap.setIfInBounds it _)[it]?=_;rw[Array.getElem?_setIfInBounds_self_of_lt hits,List.map_append,← hseen];simp
  ·rw[List.nodup_append]
   exact⟨hnd,SM,fun a ha c hc=>by rw[List.mem_singleton.1 hc];exact fun e=>hni (by rw[← e];exact ha)⟩
  ·intro k hk;rcases List.mem_append.1 hk with hk|hk
   ·exact hlt k hk
   ·rw[List.mem_singleton.1 hk];exact hil
  ·show (w1.heap.setIfInBounds it _)[k]?=_;rw[Array.getElem?_setIfInBounds_ne (fun e=>hk (by rw[e])),g1]
def QeC {P:Program} {W:World} {b it:Nat} {es:Array MapEntry} {clock:Nat} {is:List Nat} {j:Nat} (h:RgAt W b it es clock (is++[j])) (hE:EsOk es clock) :
  (Instr.entry (.pointer (some ⟨it,0,none⟩))).run P W=.ok (.tuple #[es[j]!.key,es[j]!.val]) W:=by
 obtain⟨hm,hi,hnd,hlt⟩:=h;have hj:j < es.size:=hlt j SM;have hgi:(getObj it).run P W=.ok (.mapIter (some b) clock ((is++[j]).map fun i=>es[i]!.born).toArray clock) W:=by simp [getObj,Sem.run,hi]
 have hget:=Zq (P:=P) hm;have hback:((is++[j]).map fun i=>es[i]!.born).toArray.back?=some es[j]!.born:=by simp
 have hfe:es.find? (fun e=>e.born==es[j]!.born)=some es[j]! := by
  cases hq:es.find? (fun e=>e.born==es[j]!.born) with
  | none =>
   have:=Array.find?_eq_none.1 hq es[j]! (by rw[getElem!_pos es j hj];exact Array.getElem_mem hj)
   simp at this
  | some z =>
   have hz1:z.born=es[j]!.born:=by have:=Array.find?_some hq;simpa using this
   obtain⟨i,hil,hie⟩:=Array.getElem_of_mem (Array.mem_of_find?_eq_some hq);have hz:z=es[i]! := by rw[getElem!_pos es i hil];exact hie.symm
   rw[hz] at hz1 ⊢;rw[hE.inj hil hj hz1]
 simp only[Instr.entry,Sem.run_bind,hgi,Result.andThen_ok,hback,hget,bne_self_eq_false,Bool.false_eq_true,if_false,hfe,Sem.run_pure]
end Go.Proofs.YtocmjakchgcioaaGreat

namespace Go.Proofs.YtocmjakchgcioaaGreat
set_option linter.all false
open Go
def Qdf {α:Type}:∀ (q:Ask α) (w:World),w.drawn≤(w.ask q).2.drawn:=by
 intro q;induction q with
 | done a=>intro w;exact Nat.le_refl _
 | ask what range k ih =>
  intro w;simp only[World.ask];split
  ·exact ih _ w
  ·refine Nat.le_trans ?_ (ih _ _);show w.drawn≤w.drawn+1;omega
def QdQ (w:World) (c:Sys):w.drawn≤(w.sys c).2.drawn:=by
 have:=Qdf (Kernel.perform c w.os) w
 unfold World.sys;split
 ·exact Nat.le_refl _
 ·rename_i r os w1 h;rw[h] at this;exact this
def Qby {p:Program} {w w':World} {a k:Addr} {u:TypeId} {v:Value} {b:Bool} {l:List Addr} (h:w.viewStore p a u k v b=.ok (w',l)):w'.drawn=w.drawn:=by
 unfold World.viewStore at h;simp only[bind,Except.bind,pure,Except.pure,throw,throwThe,MonadExceptOf.throw] at h;repeat' split at h
 all_goals first
  | (cases h;done)
  | (simp only[Except.ok.injEq,Prod.mk.injEq] at h;obtain⟨rfl,_⟩:=h;rfl)
  | skip
def QbP {p:Program} {w w':World} {a:Addr} {v:Value} {b:Bool} {l:List Addr} (h:w.farStore p a v b=.ok (w',l)):w'.drawn=w.drawn:=by
 unfold World.farStore at h;split at h
 ·split at h
  ·rename_i hr;cases h;exact Qby hr
  ·cases h
 ·cases h
def X3 {α:Type} (p:Program):∀ (s:Sem α) (w w':World) (x:α),s.run p w=.ok x w'→w.drawn≤w'.drawn:=by
 intro s;induction s with
 | pure a=>intro w w' x h;cases h;exact Nat.le_refl _
 | load m a k ih =>
  intro w w' x h;simp only[Sem.run] at h;split at h
  ·exact ih _ w w' x h
  ·split at h
   ·exact ih _ w w' x h
   ·cases h
 | store m a v k ih =>
  intro w w' x h;cases v<;>simp only[Sem.run] at h;all_goals first
   | (cases h;done)
   | (split at h
      ·split at h
       ·cases h
       ·exact ih (w.setCell a _) w' x h
      ·split at h
       ·rename_i hf;rw[← QbP hf];exact ih _ w' x h
       ·cases h)
 | new o k ih=>intro w w' x h;exact ih _ { w with heap:=w.heap.push o } w' x h
 | shape r k ih=>intro w w' x h;exact ih _ w w' x h
 | freeze a n k ih =>
  intro w w' x h;have h1:w.drawn=(w.freeze a n).drawn:=by unfold World.freeze;split<;>rfl
  rw[h1];exact ih _ w' x h
 | frozen a k ih=>intro w w' x h;exact ih _ w w' x h
 | getObj r k ih =>
  intro w w' x h;simp only[Sem.run] at h;split at h
  ·cases h
  ·exact ih _ w w' x h
  ·cases h
 | setObj r o k ih =>
  intro w w' x h;simp only[Sem.run] at h;split at h
  ·cases h
  ·exact ih { w with heap:=w.heap.setIfInBounds r o } w' x h
  ·cases h
 | choose q k ih =>
  intro w w' x h;simp only[Sem.run] at h;split at h
  ·exact ih _ w w' x h
  ·have:=ih _ { w with drawn:=w.drawn+1 } w' x h
   have h2:w.drawn+1≤w'.drawn:=this;omega
 | sys c k ih =>
  intro w w' x h;exact Nat.le_trans (QdQ w c) (ih _ _ w' x h)
 | program k ih=>intro w w' x h;exact ih p w w' x h
 | mark m k ih=>intro w w' x h;exact ih w w' x h
 | halt h=>intro w w' x hh;cases hh
end Go.Proofs.YtocmjakchgcioaaGreat

namespace Go.Proofs.YtocmjakchgcioaaGreat
set_option linter.all false
open Go Go.RowKit Go.Maps Go.Sort Go.Shelf
section
variable {P:Program} {F:Fence} {n:Nat} {ops:Array Oper} {rest:List Oper} {o:Oper} {a:Act} {Q:Exit→Act→World→Prop}
def WQ (w:World) (hg:o.guard=none) (it:Operand) (hop:o.op=Op.next it false) {b r:Nat} {es:Array MapEntry} {clock:Nat} {is:List Nat} (hit:a.eval it=.pointer (some ⟨r,0,none⟩)) (h:RgAt w b r es clock is) (hE:EsOk es clock) (hbr:b≠r)
  (hDone:∀ w',(∀ i,i < es.size→i∈is)→RgAt w' b r es clock is→w.grownBy w' (some r)→w.drawn≤w'.drawn→wpListIn F n P ops Q rest (a.put o.dst (.tuple #[.bool false])) w')
  (hMore:∀ j w',j < es.size→j ∉ is→RgAt w' b r es clock (is++[j])→w.grownBy w' (some r)→w'.heap.size=w.heap.size→w.drawn≤w'.drawn→wpListIn F n P ops Q rest (a.put o.dst (.tuple #[.bool true,es[j]!.key,es[j]!.val])) w') :
  wpListIn F n P ops Q (o::rest) a w:=by
 refine wpListIn_plain hg fun K' hK'=>?_;unfold Oper.wpIn
 refine⟨by simp [Oper.about,hop],?_⟩
 rw[Oper.semAt_plain F _ _ (by rw[hop];intro c hc';cases hc')];rcases QiX (P:=P) h hE hbr o.type with⟨h0,w',hrun,hrg,hgr⟩|⟨j,w',hj,hn,hrun,hrg,hgr,hsz⟩
 ·simp [execOp,hop,hit,hrun,Result.andThen];exact hK' _ _ (hDone w' h0 hrg hgr (X3 _ _ _ _ _ hrun))
 ·simp [execOp,hop,hit,hrun,Result.andThen];exact hK' _ _ (hMore j w' hj hn hrg hgr hsz (X3 _ _ _ _ _ hrun))
def Wh (w:World) (hg:o.guard=none) (t:TypeId) (m:Operand) (hop:o.op=Op.range t m) {kt et:TypeId} (hu:P.underlying t=some (.map kt et)) {b:Nat} {es:Array MapEntry} {clock:Nat} (hm:a.eval m=.map (some b)) (hb:w.heap[b]?=some (.map es clock))
  (hK:∀ w',RgAt w' b w.heap.size es clock []→w.grownBy w' none→w'.heap.size=w.heap.size+1→w.drawn≤w'.drawn→wpListIn F n P ops Q rest (a.put o.dst (.pointer (some ⟨w.heap.size,0,none⟩))) w') :
  wpListIn F n P ops Q (o::rest) a w:=by
 refine wpListIn_plain hg fun K' hK'=>?_;unfold Oper.wpIn
 refine⟨by simp [Oper.about,hop],?_⟩
 rw[Oper.semAt_plain F _ _ (by rw[hop];intro c hc';cases hc')];have hget:=Zq (P:=P) hb;have hlt:b < w.heap.size:=(Array.getElem?_eq_some_iff.1 hb).1;have hrun:(Instr.range t (.map (some b))).run P w=.ok (.pointer (some ⟨w.heap.size,0,none⟩)) { w with heap:=w.heap.push (.mapIter (some b) clock #[] clock) }:=by
  simp [Instr.range,run_underlying hu,Result.andThen,hget]
 simp [execOp,hop,hm,hrun,Result.andThen];refine hK' _ _ (hK _ ⟨?_,?_,List.nodup_nil,fun _ h=>by cases h⟩ ⟨rfl,rfl,rfl,SM,fun k hk _=>?_⟩ SM (Nat.le_refl _))
 ·show (w.heap.push _)[b]?=_;rw[Array.getElem?_push_lt hlt];exact (Array.getElem?_eq_some_iff.1 hb).2 ▸ rfl
 ·show (w.heap.push _)[w.heap.size]?=_;simp
 ·show (w.heap.push _)[k]?=_;rw[Array.getElem?_push_lt hk,Array.getElem?_eq_getElem hk]
def JR (w:World) (hgd:o.guard=none) (s x:Operand) (t:TypeId) (ho:o.op=.call { callee:=.builtin .append,args:=#[s,x],argTypes:=#[t,t] })
  (base:Nat) (e:TypeId) (i:TypeInfo) (z:Value) (size bytes:Nat) (ht:P.underlying t=some (.slice e)) (hi:P.info? e=some i) (hz:i.zero=some z) (hsize:i.size=size) (hby:i.bytes=bytes) (hzs:z.cells.size=size) (hsz:0 < size)
  (v:Value) (k:Nat) (xs:List Value) (hs:a.eval s=v) (hown:w.ownsRow base e size v k xs) (ad:Addr) (m c:Nat) (news:List Value) (hx:a.eval x=.slice (some ad) m c) (hl:news.length=m*size)
  (hnews:∀ j u,news[j]?=some u→w.cell? (ad.add j)=some u) (h1:∀ u∈news,u.oneCell'=true) (h63:k+m≤maxLen) (hbytes:(k+m)*bytes≤140737488355328) (hbase:base≤w.heap.size)
  (h:∀ v' w',w'.ownsRow base e size v' (k+m) (xs++news)→w.grownBy w' v.ownBlock→(v'=.slice none 0 0↔v=.slice none 0 0∧m=0)→w.drawn≤w'.drawn→wpListIn F n P ops Q rest (a.put o.dst v') w') :
  wpListIn F n P ops Q (o::rest) a w:=by
 refine wpListIn_plain hgd fun K hK=>?_;obtain⟨v',w',hr,h2,h3,h4,_⟩:=run_append_own_at (P:=P) w base t o.type e i z size bytes ht hi hz hsize hby hzs hsz v k xs hown ad m c news hl hnews h1 h63 hbytes hbase;unfold Oper.wpIn
 refine⟨by simp [Oper.about,ho,resolve,Target.leads,Sem.run_pure],?_⟩
 rw[Oper.semAt_plain F _ _ (by rw[ho];intro c hc';cases hc')];simp [execOp,ho,resolve,invoke,builtin,hs,hx,hr,Result.andThen];exact hK _ _ (h v' w' h2 h3 h4 (X3 _ _ _ _ _ hr))
end
end Go.Proofs.YtocmjakchgcioaaGreat

namespace Go.Proofs.YtocmjakchgcioaaGreat
set_option linter.all false
open Go Go.RowKit Go.Maps Go.Sort Go.Shelf
def encC (x:Cf):Value:=.agg (cfE x).toArray
structure KeysAt (es:Array MapEntry) (d:List Cf):Prop where
 n:es.size=d.length
 k:∀ j,j < es.size→es[j]!.key=encC d[j]!
def got (d:List Cf) (is:List Nat):List Cf:=is.map fun i=>d[i]!
def Qfo {d:List Cf} {is:List Nat} (hnd:is.Nodup) (hlt:∀ i∈is,i < d.length) (hall:∀ i,i < d.length→i∈is):(got d is).Perm d:=by
 have h1:is.Perm (List.range d.length):=by
  rw[List.perm_ext_iff_of_nodup hnd List.nodup_range];intro i;rw[List.mem_range]
  exact⟨hlt i,hall i⟩
 have h2:=h1.map fun i=>d[i]!;have h3:(List.range d.length).map (fun i=>d[i]!)=d:=by
  apply List.ext_getElem
  ·simp
  ·intro i h1 h2;simp only[List.getElem_map,List.getElem_range];exact getElem!_pos d i h2
 rw[h3] at h2;exact h2
def QgJ (d:List Cf) (is:List Nat):(got d is).length=is.length:=by simp [got]
theorem HZ:∀ (n:Nat) (l:List Nat),l.Nodup→(∀ x∈l,x < n)→l.length≤n
 | 0,[],_,_=>Nat.le_refl _
 | 0,x::_,_,h=>absurd (h x (List.mem_cons_self ..)) OM
 | n+1,l,hn,h=>by
  have h1:=HZ n (l.erase n) (hn.erase _) fun x hx=>by
   have h2:=h x (List.mem_of_mem_erase hx);have h3:x≠n:=fun e=>by rw[e] at hx;exact hn.not_mem_erase hx
   omega
  have:=List.length_erase (a:=n) (l:=l)
  split at this<;>omega
def Qkc {n:Nat} {is:List Nat} {j:Nat} (hnd:(is++[j]).Nodup) (hlt:∀ i∈is++[j],i < n):is.length < n:=by
 have:=HZ n _ hnd hlt
 rw[List.length_append] at this;simp at this;omega
def Qeg (d:List Cf) (is:List Nat) (j:Nat):got d (is++[j])=got d is++[d[j]!]:=by simp [got]
def Xj (w:World) (o:Obj):w.grownBy (w.alloc o) none:=⟨rfl,rfl,rfl,SM,fun k hk _=>Below.heap_alloc _ _ k hk⟩
def QiO (n it:Nat) (W:World):Nat:=n - (match W.heap[it]? with|some (.mapIter _ _ seen _)=>seen.size|_=>0)
def QaF {W:World} {b it:Nat} {es:Array MapEntry} {clock:Nat} {is:List Nat} (h:RgAt W b it es clock is) (n:Nat):QiO n it W=n - is.length:=by
 rw[QiO,h.i];simp
def VS (B:Nat) (J:List Cf→World→Prop):Prop :=
 ∀ s W W' row,J s W→W.grownBy W' row→W.drawn≤W'.drawn→(∀ r,row=some r→B≤r∧∃ o:Obj,W.heap[r]?=some o∧o.isWalk=true)→J s W'
def SeqG (F:Fence) (n:Nat) (P:Program) (g:Nat) (lb:Array Value) (S:List Cf→Prop) (N:Nat) (w:World):Prop :=
 ∀ (l:Nat) (J:List Cf→World→Prop) (W:World),Below w.heap.size w W→VS W.heap.size J →
  (∀ pre x W1,J pre W1→pre.length < N→YieldAt F (n - 1) P l #[encC x] W1 fun e W'=>e=.returned (.bool true)∧J (pre++[x]) W'∧KeepsWalks W1 W') →
  J [] W →
  CallsIn F n P g (#[.func (.yield l) #[] #[]]++lb) W fun e W'=>(∃ v,e=.returned v)∧∃ xs,S xs∧J xs W'
set_option maxRecDepth 100000 in
set_option maxHeartbeats 1000000 in
def Qfl (F:Fence) (n:Nat) (hK:F.fn 44) (hro:F.round=none) (hn:1≤n) (l Bm b:Nat) (es:Array MapEntry) (clock:Nat) (d:List Cf) (hE:EsOk es clock) (hk:KeysAt es d) (J:List Cf→World→Prop)
  (hY:∀ pre x W,J pre W→pre.length < d.length→YieldAt F (n - 1) Tryz.prog l #[encC x] W fun e W'=>e=.returned (.bool true)∧J (pre++[x]) W'∧KeepsWalks W W')
  (W:World) (hJ:VS W.heap.size J) (hm:W.cell? ⟨Bm,0,none⟩=some (.map (some b))) (hb:W.heap[b]?=some (.map es clock)) (h0:J [] W) :
  CallsIn F n Tryz.prog 44 #[.func (.yield l) #[] #[],.pointer (some ⟨Bm,0,none⟩)] W fun e W'=>(∃ v,e=.returned v)∧∃ ss:List Cf,ss.Perm d∧J ss W':=by
 have hbl:b < W.heap.size:=(Array.getElem?_eq_some_iff.1 hb).1;refine callsIn_of_wp Tryz.func44 rfl hK ?_ hro;simp only[Tryz.ntmps44,List.size_toArray,List.length_cons,List.length_nil,Nat.reduceAdd,Nat.reduceSub,Array.replicate_succ,Array.replicate_zero,List.push_toArray,List.append_toArray,List.nil_append,List.cons_append]
 gi_wp2_with (first
  | (gi_at_range;refine Wh _ rfl _ _ rfl Tryz.underlying62 rfl hb ?_;intro w0 hrg0 hg0 hs0 hd0)
  | gi_in)
 go_frame
 gi_loopw [3] (fun _ wr=>∃ (is:List Nat),RgAt wr b W.heap.size es clock is∧J (got d is) wr)
  (fun _ wr=>QiO es.size W.heap.size wr)
 case atStart =>
  exact⟨[],hrg0,hJ [] W w0 none h0 hg0 hd0 (fun r e=>by cases e)⟩
 case round =>
  obtain⟨is,hrg,hJs⟩:=hrel
  gi_wp2_with (first
   | (gi_at_next;refine WQ _ rfl _ rfl rfl hrg hE OM ?_ ?_)
   | gi_in)
  ·intro w1 hall hrg1 hg1 hd1
   gi_wp2
   go_end0
   exact⟨⟨_,rfl⟩,got d is,Qfo hrg.nd (fun i hi=>by rw[← hk.n];exact hrg.lt i hi) (fun i hi=>hall i (by rw[hk.n];exact hi)),hJ _ wr w1 (some W.heap.size) hJs hg1 hd1 (fun r e=>by cases e;exact⟨Nat.le_refl _,_,hrg.i,rfl⟩)⟩
  ·intro j w2 hj hnj hrg2 hg2 hs2 hd2;have hJ2:J (got d is) w2:=hJ _ wr w2 (some W.heap.size) hJs hg2 hd2 (fun r e=>by cases e;exact⟨Nat.le_refl _,_,hrg.i,rfl⟩);have hen:=QeC (P:=Tryz.prog) hrg2 hE;have hkj:=hk.k j hj;have hsn:=Qeg d is j;have hll:=Qkc hrg2.nd hrg2.lt;generalize es[j]!.val=vj at hen;generalize d[j]! = x at hkj hsn;rw[hkj] at hen;have hJ3:J (got d is) (w2.alloc (.cells (cfE x).toArray 51)):=hJ _ w2 _ none hJ2 (Xj _ _) (Nat.le_refl _) (fun r e=>by cases e);obtain⟨fn,tmps,assign,body,hy,hR⟩:=hY (got d is) x _ hJ3 (by rw[QgJ,← hk.n];exact hll);have hrgA:RgAt (w2.alloc (.cells (cfE x).toArray 51)) b W.heap.size es clock (is++[j]) :=
    ⟨(Below.heap_alloc _ _ b (Array.getElem?_eq_some_iff.1 hrg2.m).1).trans hrg2.m,(Below.heap_alloc _ _ _ (Array.getElem?_eq_some_iff.1 hrg2.i).1).trans hrg2.i,hrg2.nd,hrg2.lt⟩
   unfold encC cfE at hen hy;unfold cfE at hR hrgA
   gi_wp2
   refine hR.mono ?_;rintro e W3 ⟨rfl,hJ4,hk4⟩
   gi_wp2
   have hrg3:RgAt W3 b W.heap.size es clock (is++[j]):=⟨hk4.same _ _ hrgA.m rfl,hk4.same _ _ hrgA.i rfl,hrgA.nd,hrgA.lt⟩
   go_roundw
   case rel=>exact⟨is++[j],hrg3,by rw[hsn];exact hJ4⟩
   case measure=>rw[QaF hrg3,QaF hrg,List.length_append];simp;omega
def Qbd (F:Fence) (n:Nat) (hK:F.fn 44) (hro:F.round=none) (hn:1≤n) (Bm b:Nat) (es:Array MapEntry) (clock:Nat) (d:List Cf) (hE:EsOk es clock) (hk:KeysAt es d) (w:World) (hBm:Bm < w.heap.size)
  (hm:w.cell? ⟨Bm,0,none⟩=some (.map (some b))) (hb:w.heap[b]?=some (.map es clock)) :
  SeqG F n Tryz.prog 44 #[.pointer (some ⟨Bm,0,none⟩)] (fun ss=>ss.Perm d) d.length w:=fun l J W hW hJ hY h0 =>
 Qfl F n hK hro hn l Bm b es clock d hE hk J hY W hJ ((hW.cell (p:=⟨Bm,0,none⟩) hBm).trans hm) ((hW.block b (Array.getElem?_eq_some_iff.1 hb).1).trans hb) h0
end Go.Proofs.YtocmjakchgcioaaGreat

namespace Go.Proofs.YtocmjakchgcioaaGreat
set_option linter.all false
open Go Go.RowKit Go.Maps Go.Sort Go.Shelf
def YO (ss:List Cf):List Value:=ss.flatMap cfE
def VT (ss:List Cf) (x:Cf):YO (ss++[x])=YO ss++cfE x:=by simp [YO]
noncomputable def XK:Code × Code:=match Tryz.f68.body with
 | some (.seq _ (.seq (.seq _ (.block _ (.rangeFunc _ _ a b))) _))=>(a,b)
 | _=>(.skip,.skip)
noncomputable def XW (fn:FuncId) (sv:Value) (Bs D:Nat) (st:LoopState) (pend:Option Code):Loop :=
 { state:=st,pending:=pend,fn,tmps:=#[.slice none 0 0,sv,.pointer (some ⟨Bs,0,none⟩),undef,.slice none 0 0,undef,sv,undef,undef,undef,undef,undef,undef],params:=#[7],assign:=XK.1,body:=XK.2,defers:=D }
structure ApAt (w0:World) (fn:FuncId) (sv:Value) (Bs l D:Nat) (ss:List Cf) (W:World):Prop where
 box:∃ v,W.heap[Bs]?=some (.cells #[v] 42 (0,0))∧W.ownsRow w0.heap.size 51 5 v ss.length (YO ss)∧(v=.slice none 0 0↔ss=[])
 L:W.heap[l]?=some (.loop (XW fn sv Bs D .ready none))
 K:W.heap[D]?=some (.deferred (some []))
 below:Below w0.heap.size w0 W
 dr:w0.drawn≤W.drawn
def Qcq (w0:World) (fn:FuncId) (sv:Value) (Bs l D B:Nat) (hB:w0.heap.size≤B):VS B (ApAt w0 fn sv Bs l D):=fun s W W' row h hg hd hrow=>by
 have hrow':∀ r,row=some r→∃ o:Obj,W.heap[r]?=some o∧o.isWalk=true:=fun r e=>(hrow r e).2;obtain⟨v,hv,hr,hn⟩:=h.box
 exact⟨⟨v,(grownBy_keeps hg hrow' hv rfl).trans hv,ownsRow_abides_a hr hg hrow',hn⟩,(grownBy_keeps hg hrow' h.L rfl).trans h.L,(grownBy_keeps hg hrow' h.K rfl).trans h.K,
  h.below.grown hg h.below.size (fun k e=>Nat.le_trans hB (hrow k e).1),Nat.le_trans h.dr hd⟩
def QlL (w:World) (x:Cf) (t:TypeId):∀ j u,(cfE x)[j]?=some u→(w.alloc (.cells (cfE x).toArray t)).cell? ((⟨w.heap.size,0,none⟩:Addr).add j)=some u:=by
 intro j u hj;have hn:(w.alloc (.cells (cfE x).toArray t)).heap[w.heap.size]?=some (.cells (cfE x).toArray t (0,0)):=World.alloc_heap_new w _;have hk:(cfE x).toArray[j]?=some u:=by simpa using hj
 have hlt:j < 5:=(List.getElem?_eq_some_iff.1 hj).1
 match j,hlt with
 | 0,_ =>
  show World.cell? _ ⟨w.heap.size,0,none⟩=some u;unfold World.cell?;rw[hn];exact hk
 | 1,_ =>
  show World.cell? _ ⟨w.heap.size,1,none⟩=some u;unfold World.cell?;rw[hn];exact hk
 | 2,_ =>
  show World.cell? _ ⟨w.heap.size,2,none⟩=some u;unfold World.cell?;rw[hn];exact hk
 | 3,_ =>
  show World.cell? _ ⟨w.heap.size,3,none⟩=some u;unfold World.cell?;rw[hn];exact hk
 | 4,_ =>
  show World.cell? _ ⟨w.heap.size,4,none⟩=some u;unfold World.cell?;rw[hn];exact hk
def i51:(Tryz.prog.info? 51).map (fun i=>(i.zero,i.size,i.bytes))=some (some (.agg #[.int .i64 0,.int .i64 0,.int .i64 0,.int .i64 0,.int .i64 0]),5,40):=by kernel_rfl
set_option maxRecDepth 100000 in
set_option maxHeartbeats 4000000 in
def Qhv (F:Fence) (m:Nat) (w0:World) (fn:FuncId) (hfn:F.fn fn) (sv:Value) (Bs l D:Nat) (hBl:Bs≠l) (hDl:D≠l) (hDB:D≠Bs) (h0B:w0.heap.size≤Bs) (h0l:w0.heap.size≤l)
  (N:Nat) (hN:N≤maxLen) (hNb:N*40≤140737488355328) (ss:List Cf) (x:Cf) (W:World) (h:ApAt w0 fn sv Bs l D ss W) (hlen:ss.length < N) :
  YieldAt F m Tryz.prog l #[encC x] W fun e W'=>e=.returned (.bool true)∧ApAt w0 fn sv Bs l D (ss++[x]) W'∧KeepsWalks W W':=by
 obtain⟨i0,hi,hz0,hz1,hz2⟩:=info_parts i51;obtain⟨v,hv,hrow,_⟩:=h.box
 refine⟨fn,#[.slice none 0 0,sv,.pointer (some ⟨Bs,0,none⟩),undef,.slice none 0 0,undef,sv,encC x,undef,undef,undef,undef,undef],XK.1,XK.2,by simpa [XW] using run_yield (P:=Tryz.prog) (args:=#[encC x]) h.L rfl,roundIn_of_wpIn hfn ?_⟩
 obtain⟨Wa,hWa⟩:∃ Wa,W.alloc (.cells #[.int .i64 x.p,.int .i64 x.c0,.int .i64 x.c1,.int .i64 x.c2,.int .i64 x.c3] 51)=Wa:=⟨_,rfl⟩;have hold:∀ k,k < W.heap.size→Wa.heap[k]?=W.heap[k]?:=fun k hk=>by rw[← hWa];exact Below.heap_alloc _ _ k hk
 have hla:l < W.heap.size:=(Array.getElem?_eq_some_iff.1 h.L).1;have hBa:Bs < W.heap.size:=(Array.getElem?_eq_some_iff.1 hv).1;have hDa:D < W.heap.size:=(Array.getElem?_eq_some_iff.1 h.K).1;have hLa:=(hold l hla).trans h.L;have hva:=(hold Bs hBa).trans hv;have hKa:=(hold D hDa).trans h.K;have hxa:Wa.heap[W.heap.size]?=some (.cells #[.int .i64 x.p,.int .i64 x.c0,.int .i64 x.c1,.int .i64 x.c2,.int .i64 x.c3] 51 (0,0)):=by rw[← hWa];exact World.alloc_heap_new W _
 have hrowa:Wa.ownsRow w0.heap.size 51 5 v ss.length (YO ss):=by rw[← hWa];exact hrow.alloc _
 have hga:W.grownBy Wa none:=by rw[← hWa];exact Xj _ _
 have hba:Below w0.heap.size w0 Wa:=h.below.grown hga h.below.size (fun k e=>by cases e);have hka:KeepsWalks W Wa:=by rw[← hWa];exact KeepsWalks.alloc _ _
 have hda:Wa.drawn=W.drawn:=by rw[← hWa];rfl
 have hsa:Wa.heap.size=W.heap.size+1:=by rw[← hWa];simp
 have hbr:=run_beginRound (P:=Tryz.prog) hLa rfl;obtain⟨W2,hW2⟩:∃ W2,Wa.putObj l (.loop { XW fn sv Bs D .ready none with state:=.busy })=W2:=⟨_,rfl⟩;rw[hW2] at hbr;have hd2:W2.drawn=Wa.drawn:=by rw[← hW2];rfl
 have hg2:Wa.grownBy W2 (some l):=by rw[← hW2];exact grownBy_putObj_a _ _ _
 have hk2:KeepsWalks Wa W2:=by rw[← hW2];exact KeepsWalks.putObj _ hLa rfl
 have hv2:W2.heap[Bs]?=some (.cells #[v] 42 (0,0)):=by rw[← hW2];exact (World.putObj_heap_other hBl).trans hva
 have hK2:W2.heap[D]?=some (.deferred (some [])):=by rw[← hW2];exact (World.putObj_heap_other hDl).trans hKa
 have hL2:W2.heap[l]?=some (.loop { XW fn sv Bs D .ready none with state:=.busy }):=by rw[← hW2];exact World.putObj_heap_same OM
 have hx2:W2.heap[W.heap.size]?=some (.cells #[.int .i64 x.p,.int .i64 x.c0,.int .i64 x.c1,.int .i64 x.c2,.int .i64 x.c3] 51 (0,0)):=by rw[← hW2];exact (World.putObj_heap_other OM).trans hxa
 have hrow2:W2.ownsRow w0.heap.size 51 5 v ss.length (YO ss):=hrowa.kept hg2 (ownsRow_ne_a hrowa hLa (fun cur e=>by cases e));have hb2:Below w0.heap.size w0 W2:=hba.grown hg2 hba.size (fun k e=>by cases e;exact h0l);obtain⟨hc2,hf2⟩:=cell_of_box_a hv2;have hx20:W2.cell? ⟨W.heap.size,0,none⟩=some (.int .i64 x.p):=by simp [World.cell?,hx2]
 have hx21:W2.cell? ⟨W.heap.size,1,none⟩=some (.int .i64 x.c0):=by simp [World.cell?,hx2]
 have hx22:W2.cell? ⟨W.heap.size,2,none⟩=some (.int .i64 x.c1):=by simp [World.cell?,hx2]
 have hx23:W2.cell? ⟨W.heap.size,3,none⟩=some (.int .i64 x.c2):=by simp [World.cell?,hx2]
 have hx24:W2.cell? ⟨W.heap.size,4,none⟩=some (.int .i64 x.c3):=by simp [World.cell?,hx2]
 have hBlt:Bs < W2.heap.size:=(Array.getElem?_eq_some_iff.1 hv2).1;have hl2:l < W2.heap.size:=(Array.getElem?_eq_some_iff.1 hL2).1;have hDlt:D < W2.heap.size:=(Array.getElem?_eq_some_iff.1 hK2).1;have ne_of:∀ {j:Nat} {o:Obj},W2.heap[j]?=some o→(∀ cur,o≠.cells cur 51 (0,0))→some j≠v.ownBlock:=fun hj hno=>by
  rcases ownsRow_ne_a hrow2 hj hno with e|e
  ·rw[e];simp
  ·exact fun e'=>e e'.symm
 clear hW2;unfold encC cfE;simp only[XK,Tryz.f68]
 gi_wp2_with (first
  | (gi_at_builtin;refine JR _ rfl _ _ 42 rfl w0.heap.size 51 i0 _ 5 40 Tryz.underlying42 hi hz0 hz1 hz2 rfl LM _ _ _ rfl (hrow2.alloc _) ⟨W2.heap.size,0,none⟩ 1 1 (cfE x) rfl rfl (QlL _ _ _) (by simp [Value.oneCell',cfE]) OM OM (by have:=hb2.size;simp;omega) ?_;intro v' w3 hown' hg3 hnil3 hdr3
     have hv3:w3.heap[Bs]?=some (.cells #[v] 42 (0,0)):=(hg3.block Bs (by simp;omega) (ne_of hv2 (fun cur e=>by cases e))).trans ((Below.heap_alloc _ _ Bs hBlt).trans hv2);obtain⟨hc3,hf3⟩:=cell_of_box_a hv3;obtain⟨g',cap',cur',rfl,hbase',hgb',hr1,hr2,hr3,hr4⟩:∃ g' cap' cur',v'=.slice (some ⟨g',0,none⟩) (ss.length+1) cap'∧w0.heap.size≤g'∧w3.heap[g']?=some (.cells cur' 51 (0,0))∧ss.length+1≤cap'∧cap'≤maxLen∧cur'.size=cap'*5∧cur'.toList.take ((ss.length+1)*5)=YO ss++cfE x:=by
      rcases hown'.2 with⟨_,h0⟩|h'
      ·exact absurd h0 OM
      ·exact h'
     go_frame)
  | gi_round_op_a)
 have hg3':(W2.alloc (.cells (cfE x).toArray 51)).grownBy w3 v.ownBlock:=hg3;have hL3:w3.heap[l]?=some (.loop { XW fn sv Bs D .ready none with state:=.busy }):=(hg3'.block l (by simp;omega) (ne_of hL2 (fun cur e=>by cases e))).trans ((Below.heap_alloc _ _ l hl2).trans hL2);have hK3:w3.heap[D]?=some (.deferred (some [])):=(hg3'.block D (by simp;omega) (ne_of hK2 (fun cur e=>by cases e))).trans ((Below.heap_alloc _ _ D hDlt).trans hK2);obtain⟨w4,hw4⟩:∃ w4,w3.setCell ⟨Bs,0,none⟩ (.slice (some ⟨g',0,none⟩) (ss.length+1) cap')=w4:=⟨_,rfl⟩;rw[hw4];have hd3:W2.drawn≤w3.drawn:=hdr3;have hd4:w4.drawn=w3.drawn:=by rw[← hw4];rfl
 have hdr:=h.dr;have hg4:w3.grownBy w4 (some Bs):=by rw[← hw4];exact grownBy_setCell0_a _ _ _
 have hv4:w4.heap[Bs]?=some (.cells #[.slice (some ⟨g',0,none⟩) (ss.length+1) cap'] 42 (0,0)):=by rw[← hw4];exact heap_setCell_box_a _ hv3
 have hL4:w4.heap[l]?=some (.loop { XW fn sv Bs D .ready none with state:=.busy }):=(hg4.block l (Array.getElem?_eq_some_iff.1 hL3).1 (fun e=>hBl (by cases e;rfl))).trans hL3;have hK4:w4.heap[D]?=some (.deferred (some [])):=(hg4.block D (Array.getElem?_eq_some_iff.1 hK3).1 (fun e=>hDB (by cases e;rfl))).trans hK3;have hrow4:=hown'.kept hg4 (ownsRow_ne_a hown' hv3 (fun cur e=>by cases e));have hl4:l < w4.heap.size:=(Array.getElem?_eq_some_iff.1 hL4).1;have hb3:Below w0.heap.size w0 w3:=(hb2.alloc hb2.size _).grown hg3' (by have:=hb2.size;simp;omega) (fun k e=>(hrow2.lt k e).1);have hb4:Below w0.heap.size w0 w4:=hb3.grown hg4 hb3.size (fun k e=>by cases e;exact h0B);have hk4:KeepsWalks W w4:=(((hka.trans hk2).trans (KeepsWalks.alloc _ _)).trans (KeepsWalks.of_grownBy hg3' (ownsRow_not_walk_a (hrow2.alloc _)))).trans (by rw[← hw4];exact KeepsWalks.setCell _ _ _);clear hw4
 refine⟨_,_,run_endRound none hL4,rfl,⟨⟨_,(World.putObj_heap_other hBl).trans hv4,?_,SM⟩,World.putObj_heap_same hl4,(World.putObj_heap_other hDl).trans hK4,hb4.grown (grownBy_putObj_a _ _ _) hb4.size (fun k e=>by cases e;exact h0l),(show w0.drawn≤w4.drawn by omega)⟩,hk4.trans (KeepsWalks.putObj _ hL4 rfl)⟩
 have:=hrow4.kept (grownBy_putObj_a w4 l (.loop { { XW fn sv Bs D .ready none with state:=.busy } with state:=if (none:Option Code).isNone then .ready else .done,pending:=none })) (ownsRow_ne_a hrow4 hL4 (fun cur e=>by cases e))
 rw[VT,List.length_append];simpa using this
set_option maxRecDepth 100000 in
set_option maxHeartbeats 4000000 in
def VF (F:Fence) (n:Nat) (h68:F.fn 68) (hro:F.round=none) (hn:2≤n) (g:Nat) (lb:Array Value) (hFg:F.fn g) (eg:∀ args w,(callFunc g args).run Tryz.prog w=.ok (.enter g args) w)
  (S:List Cf→Prop) (N:Nat) (hN:N≤maxLen) (hNb:N*40≤140737488355328) (w:World) (hseq:SeqG F (n - 1) Tryz.prog g lb S N w) :
  CallsIn F n Tryz.prog 68 #[.slice none 0 0,.func (.func g) #[] lb] w fun e w'=>∃ (v:Value) (ss:List Cf),e=.returned v∧S ss∧w'.ownsRow w.heap.size 51 5 v ss.length (YO ss)∧(v=.slice none 0 0↔ss=[])∧Below w.heap.size w w'∧w.drawn≤w'.drawn:=by
 have h1:1≤n:=by omega
 refine callsIn_of_wp_marks Tryz.func68 rfl h68 ?_ hro;simp only[Tryz.ntmps68,List.size_toArray,List.length_cons,List.length_nil,Nat.reduceAdd,Nat.reduceSub,Array.replicate_succ,Array.replicate_zero,List.push_toArray,List.append_toArray,List.nil_append,List.cons_append]
 gi_wp2
 refine wpIn_rangeFunc ?_;intro fn hfn;rw[hro];obtain⟨W0,hW0⟩:∃ W0,w.alloc (.cells #[.slice none 0 0] 42)=W0:=⟨_,rfl⟩;have hs0:W0.heap.size=w.heap.size+1:=by rw[← hW0];simp
 have hv0:W0.heap[w.heap.size]?=some (.cells #[.slice none 0 0] 42 (0,0)):=by rw[← hW0];exact World.alloc_heap_new w _
 have hb0:Below w.heap.size w W0:=by rw[← hW0];exact (Below.refl _ w).alloc (Nat.le_refl _) _
 rw[hW0];obtain⟨W1,hW1⟩:∃ W1,(W0.alloc (.deferred (some []))).alloc (.loop (XW fn (.func (.func g) #[] lb) w.heap.size W0.heap.size .ready none))=W1:=⟨_,rfl⟩;have hold:∀ k,k < W0.heap.size→W1.heap[k]?=W0.heap[k]?:=fun k hk=>by
  rw[← hW1];exact (Below.heap_alloc _ _ k (by simp;omega)).trans (Below.heap_alloc _ _ k hk)
 have hb1:Below w.heap.size w W1:=by rw[← hW1];exact (hb0.alloc hb0.size _).alloc (by have:=hb0.size;simp;omega) _
 have hs1:W1.heap.size=W0.heap.size+2:=by rw[← hW1];simp
 have hM:ApAt w fn (.func (.func g) #[] lb) w.heap.size (W0.heap.size+1) W0.heap.size [] W1 :=
  ⟨⟨_,(hold w.heap.size OM).trans hv0,⟨rfl,.inl ⟨rfl,rfl⟩⟩,SM⟩,
   by rw[← hW1];have:=World.alloc_heap_new (W0.alloc (.deferred (some []))) (.loop (XW fn (.func (.func g) #[] lb) w.heap.size W0.heap.size .ready none));rwa [World.size_alloc] at this,
   by rw[← hW1];exact (Below.heap_alloc _ _ _ SM).trans (World.alloc_heap_new W0 _),hb1,by rw[← hW1,← hW0];exact Nat.le_refl _⟩
 refine⟨W0.heap.size+1,[{ target:=.collected W0.heap.size,args:=#[] }],W1,{ target:=.fn (.func g) lb,args:=#[.func (.yield (W0.heap.size+1)) #[] #[]] },W1,g,
  #[.func (.yield (W0.heap.size+1)) #[] #[]]++lb,W1,?_,?_,?_,?_,fun _=>h1,?_⟩
 ·rw[← hW1];exact run_enterLoop_outer _ _ _ _ _
 ·simp [resolve,go_sem]
 ·intro f' hf';simp [Target.leads] at hf';subst hf';exact hFg
 ·simp [invoke,go_sem,eg]
 ·refine (hseq (W0.heap.size+1) (ApAt w fn (.func (.func g) #[] lb) w.heap.size (W0.heap.size+1) W0.heap.size) W1 hb1 (Qcq _ _ _ _ _ _ _ hb1.size)
   (fun pre x W hJ hl=>Qhv F (n - 1 - 1) w fn hfn _ w.heap.size (W0.heap.size+1) W0.heap.size OM OM OM (Nat.le_refl _) OM N hN hNb pre x W hJ hl) hM).mono ?_
  rintro e W2 ⟨⟨v0,rfl⟩,ss,hS,h2⟩;obtain⟨v,hv,hrow,hnil⟩:=h2.box;have hend:=run_endLoop (P:=Tryz.prog) h2.L (by simp [XW]);obtain⟨W3,hW3⟩:∃ W3,W2.putObj (W0.heap.size+1) (.loop { XW fn (.func (.func g) #[] lb) w.heap.size W0.heap.size .ready none with state:=.exhausted })=W3:=⟨_,rfl⟩;rw[hW3] at hend;have hd3:W3.drawn=W2.drawn:=by rw[← hW3];rfl
  have hdr:=h2.dr;have hg3:W2.grownBy W3 (some (W0.heap.size+1)):=by rw[← hW3];exact grownBy_putObj_a _ _ _
  have hv3:W3.heap[w.heap.size]?=some (.cells #[v] 42 (0,0)):=by rw[← hW3];exact (World.putObj_heap_other OM).trans hv
  have hK3:W3.heap[W0.heap.size]?=some (.deferred (some [])):=by rw[← hW3];exact (World.putObj_heap_other OM).trans h2.K
  have hrow3:=hrow.kept hg3 (ownsRow_ne_a hrow h2.L (fun cur e=>by cases e));have hb3:Below w.heap.size w W3:=h2.below.grown hg3 h2.below.size (fun k e=>by cases e;omega);obtain⟨hc3,hf3⟩:=cell_of_box_a hv3;clear hW3
  refine⟨none,W3,hend,?_⟩
  gi_wp2
  rw[← hs0]
  refine⟨SM,.inl ⟨_,_,rfl,run_takeDeferred hK3,?_⟩⟩
  exact⟨_,results_tmp rfl _ _ _,v,ss,rfl,hS,hrow3.kept (grownBy_putObj_a _ _ _) (ownsRow_ne_a hrow3 hK3 (fun cur e=>by cases e)),hnil,hb3.grown (grownBy_putObj_a _ _ _) hb3.size (fun k e=>by cases e;omega),(show w.drawn≤W3.drawn by omega)⟩
set_option maxHeartbeats 1000000 in
def Qa7 (F:Fence) (n:Nat) (h42:F.fn 42) (h68:F.fn 68) (hro:F.round=none) (hn:3≤n) (g:Nat) (lb:Array Value) (hFg:F.fn g) (eg:∀ args w,(callFunc g args).run Tryz.prog w=.ok (.enter g args) w)
  (S:List Cf→Prop) (N:Nat) (hN:N≤maxLen) (hNb:N*40≤140737488355328) (w:World) (hseq:SeqG F (n - 1 - 1) Tryz.prog g lb S N w) :
  CallsIn F n Tryz.prog 42 #[.func (.func g) #[] lb] w fun e w'=>∃ (v:Value) (ss:List Cf),e=.returned v∧S ss∧w'.ownsRow w.heap.size 51 5 v ss.length (YO ss)∧(v=.slice none 0 0↔ss=[])∧Below w.heap.size w w'∧w.drawn≤w'.drawn:=by
 have h1:1≤n:=by omega
 have e68:∀ args w,(callFunc 68 args).run Tryz.prog w=.ok (.enter 68 args) w:=fun args w=>JT (by kernel_rfl);refine callsIn_of_wp Tryz.func42 rfl h42 ?_ hro;simp only[Tryz.ntmps42,List.size_toArray,List.length_cons,List.length_nil,Nat.reduceAdd,Nat.reduceSub,Array.replicate_succ,Array.replicate_zero,List.push_toArray,List.append_toArray,List.nil_append,List.cons_append]
 gi_wp2_with (gi_at_fn 68;refine (VF F (n - 1) h68 hro OM g lb hFg eg S N hN hNb _ hseq).mono ?_;rintro e w' ⟨v,ss,rfl,hS,hrow,hnil,hb,hd⟩)
 go_ret
 exact⟨v,ss,rfl,hS,hrow,hnil,hb,hd⟩
end Go.Proofs.YtocmjakchgcioaaGreat

namespace Go.Proofs.YtocmjakchgcioaaGreat
set_option linter.all false
open Go Go.RowKit Go.Maps Go.Sort Go.Shelf
structure Wid (c:Cx) (h:Array Obj):Prop where
 n:c.heap.size≤h.size
 s:∀ k,k < c.heap.size→h[k]?=c.heap[k]?
def Qc9 {c:Cx} {h:Array Obj} (hw:Wid c h):h=c.heap++(h.toList.drop c.heap.size).toArray:=by
 apply Array.ext_getElem?;intro k;by_cases hk:k < c.heap.size
 ·rw[Array.getElem?_append_left hk];exact hw.s k hk
 ·rw[Array.getElem?_append_right OM];simp
  congr 1;omega
def Qhp {c:Cx} {o:O} {h:Array Obj} (hi:Inv c o) (hw:Wid c h):Ext c { c with heap:=h }∧Inv { c with heap:=h } o:=by
 have:=Hw (c:=c) (h.toList.drop c.heap.size) hi
 rw[← Qc9 hw] at this;exact this
def Cx.adopt (c:Cx) (h:Array Obj) (g sz:Nat):Cx:={ c with heap:=h,ph:=upd c.ph c.n (some (g,sz)),n:=c.n+1 }
def Xx {c:Cx} {o:O} {h:Array Obj} (hi:Inv c o) (hw:Wid c h) {g:Nat} (sz:Nat) (hg:c.heap.size≤g):Ext c (c.adopt h g sz) where
 size:=hw.n
 keep b hb _:=hw.s b hb
 shape b arr t fz hb:=by
  have hlt:=(Array.getElem?_eq_some_iff.1 hb).1
  exact⟨arr,(hw.s b hlt).trans hb,rfl⟩
 im _ hb:=hb
 imn _ _ hb:=.inl hb
 ph id x hp:=by
  left
  have:id≠c.n:=fun hh=>by have:=(hi.lt id x.1 x.2 hp).1;omega
  simp only[Cx.adopt,upd,if_neg this];exact hp
 phn id b sz' hp:=by
  simp only[Cx.adopt,upd] at hp;split at hp
  ·cases hp;exact .inr ⟨OM,.inr hg⟩
  ·exact .inl hp
 n:=by simp [Cx.adopt]
def Qde {c:Cx} {o:O} {h:Array Obj} (hi:Inv c o) (hw:Wid c h) {g sz:Nat} {x:Ob} (hg:c.heap.size≤g) (hgl:g < h.size) (hx:RepO (c.adopt h g sz) g sz x):Inv (c.adopt h g sz) (upd o c.n (some x)) where
 dom id ho:=by
  simp only[upd] at ho;split at ho
  ·cases ho
  ·rename_i hne;simp only[Cx.adopt,upd,if_neg hne];exact hi.dom id ho
 ob id y ho:=by
  simp only[upd] at ho;split at ho
  ·rename_i he;cases ho
   exact⟨g,sz,by simp only[Cx.adopt,upd,if_pos he],hx⟩
  ·rename_i hne;obtain⟨b,sz',hp,hr⟩:=hi.ob id y ho
   exact⟨b,sz',by simp only[Cx.adopt,upd,if_neg hne];exact hp,hr.ext (Xx hi hw sz hg) hi.sep (hw.s b (hi.lt id b sz' hp).2.1)⟩
 lt id b sz' hp:=by
  simp only[Cx.adopt,upd] at hp ⊢;split at hp
  ·cases hp
   refine⟨OM,hgl,fun h2=>?_⟩
   have:=hi.im _ h2;omega
  ·have:=hi.lt id b sz' hp
   have h2:=hw.n
   exact⟨OM,OM,this.2.2⟩
 inj id id' b sz1 sz2 h1 h2:=by
  simp only[Cx.adopt,upd] at h1 h2;split at h1
  ·split at h2
   ·omega
   ·cases h1;have:=(hi.lt _ _ _ h2).2.1;omega
  ·split at h2
   ·cases h2;have:=(hi.lt _ _ _ h1).2.1;omega
   ·exact hi.inj _ _ _ _ _ h1 h2
 im b hb:=by have h1:=hi.im b hb;have h2:=hw.n;show b < h.size;omega
 gl:=hi.gl.ext (Xx hi hw sz hg) hi.sep
theorem KE:∀ (ss:List Cf) (j k:Nat) (x:Cf),ss[j]?=some x→k < 5→(YO ss)[j*5+k]?=(cfE x)[k]?
 | [],j,k,x,h,_=>by simp at h
 | y::ss,0,k,x,h,hk=>by
  simp only[List.getElem?_cons_zero,Option.some.injEq] at h;subst h;show (cfE y++YO ss)[0*5+k]?=_;rw[Nat.zero_mul,Nat.zero_add,List.getElem?_append_left (by show k < 5;exact hk)]
 | y::ss,j+1,k,x,h,hk=>by
  have h:ss[j]?=some x:=by simpa using h
  show (cfE y++YO ss)[(j+1)*5+k]?=_;rw[List.getElem?_append_right (by show 5≤_;omega),show (j+1)*5+k - (cfE y).length=j*5+k by show (j+1)*5+k - 5=_;omega];exact KE ss j k x h hk
def Qir (c:Cx) (x:Cf) {k:Nat} {v:V} (hv:(cfC x)[k]?=some v):∃ u,(cfE x)[k]?=some u∧oneC u=true∧Rep c v u:=by
 have hk:k < 5:=(List.getElem?_eq_some_iff.1 hv).1
 match k,hk with
 | 0,_=>cases hv;exact⟨_,rfl,rfl,.i _ _⟩
 | 1,_=>cases hv;exact⟨_,rfl,rfl,.i _ _⟩
 | 2,_=>cases hv;exact⟨_,rfl,rfl,.i _ _⟩
 | 3,_=>cases hv;exact⟨_,rfl,rfl,.i _ _⟩
 | 4,_=>cases hv;exact⟨_,rfl,rfl,.i _ _⟩
def Qh2 (c:Cx) (x:Cf) {u:Value} (h:Rep c (.ag (cfC x)) u):u=encC x:=by
 cases h with
 | ag _ xs hl _ hr =>
  have h5:xs.size=5:=hl;have key:∀ (k:Nat) (n:Int),(cfC x)[k]?=some (.i .i64 n)→k < 5→xs[k]?=some (.int .i64 n):=fun k n hk hlt=>by
   have hx:xs[k]?=some xs[k]:=Array.getElem?_eq_getElem OM;have h3:=hr k _ _ hk hx;rw[hx];generalize xs[k]=y at h3;cases h3;rfl
  have k0:=key 0 x.p rfl OM;have k1:=key 1 x.c0 rfl OM;have k2:=key 2 x.c1 rfl OM;have k3:=key 3 x.c2 rfl OM;have k4:=key 4 x.c3 rfl OM;unfold encC;congr 1;apply Array.ext_getElem?;intro i
  match i with
  | 0=>rw[k0];rfl
  | 1=>rw[k1];rfl
  | 2=>rw[k2];rfl
  | 3=>rw[k3];rfl
  | 4=>rw[k4];rfl
  | i+5 =>
   rw[Array.getElem?_eq_none OM];rfl
def Qit (c k1:Nat):Qf:=fun g' vs o K =>
 g'=c∧∃ (bx m:Nat) (ents:List (Nat × V × V)) (clock:Nat) (d:List Cf),vs=[.fn k1 [.pt bx 0 0]]∧o bx=some (.row 1 [[.mp m]])∧o m=some (.map ents clock)∧ents.map (·.2.1)=d.map (fun x=>.ag (cfC x))∧d.length≤2147483648 ∧
  (d=[]→K .nil o)∧∀ ss:List Cf,ss.Perm d→d≠[]→∀ id,o id=none→K (.rw id 5 0 ss.length) (upd o id (some (.row 5 (ss.map cfC))))
set_option maxHeartbeats 1000000 in
def Qjb {g':Nat} {vs:List V} {o:O} {K:V→O→Prop} (h:Qit 42 44 g' vs o K):Snd Tryz.prog g' vs o K:=by
 obtain⟨rfl,bx,m,ents,clock,d,rfl,hbx,hm,hke,hdl,h0,h1⟩:=h
 refine⟨by kernel_rfl,fun c w xs hp hi hx=>?_⟩
 have hl:=hx.len
 match hxs:xs.toList,hl with
 | [x0],_ =>
  have hr0:=hx.rep 0 _ _ rfl (by rw[hxs];rfl);obtain⟨b,sz,hph,hro⟩:=hi.ob bx _ hbx;obtain⟨rfl,hs0,hlen,arr,ty,hbb,hz⟩:=Qz.1 hro;obtain⟨u,hu,_,hru⟩:=hz.2 0 0 [.mp m] (.mp m) rfl rfl;obtain⟨bm,rfl,hphm,hrm⟩:=WC hi hru hm;obtain⟨es,hes,_,hsz,hall,hsrt,hlt⟩:=YH (id:=m) hi hrm;have hx0:x0=.func (.func 44) #[] #[.pointer (some ⟨b,0,none⟩)]:=by
   cases hr0 with
   | fn _ _ ys hl2 hys =>
    have h1:ys.size=1:=hl2;have hy:ys[0]?=some ys[0]:=Array.getElem?_eq_getElem OM
    have:=hys 0 _ _ rfl hy
    have hy0:ys[0]=.pointer (some ⟨b,0,none⟩):=by
     generalize ys[0]=y at this;cases this with
     | pt _ _ _ b2 sz2 hp2=>rw[hph] at hp2;cases hp2;rfl
     | ptd _ _ _ _ hp2=>rw[hph] at hp2;cases hp2
    have:ys=#[ys[0]]:=by
     apply Array.ext
     ·simpa using h1
     ·intro i h2 h3
      have:i=0:=by simp at h3;omega
      subst this;rfl
    rw[this,hy0]
  subst hx0;have hxe:xs=#[.func (.func 44) #[] #[.pointer (some ⟨b,0,none⟩)]]:=by apply Array.ext';rw[hxs]
  rw[hxe];have hblt:b < w.heap.size:=by rw[← hp];exact (hi.lt _ _ _ hph).2.1
  have hcell:w.cell? ⟨b,0,none⟩=some (.map (some bm)):=by
   have hbw:w.heap[b]?=some (.cells arr ty (0,0)):=by rw[← hp];exact hbb
   have hu:arr[0]?=some (.map (some bm)):=by simpa using hu
   unfold World.cell?;rw[hbw];exact hu
  have hmw:w.heap[bm]?=some (.map es clock):=by rw[← hp];exact hes
  have hn:es.size=d.length:=by rw[hsz];simpa using congrArg List.length hke
  have hborn:∀ i,i < es.size→∃ en,ents[i]?=some en∧es[i]!.born=en.1∧Rep c en.2.1 es[i]!.key:=fun i hil=>by
   have hie:i < ents.length:=by omega
   obtain⟨y,hy,h2,h3,_⟩:=hall i _ (List.getElem?_eq_getElem hie);have hy2:es[i]! = y:=by
    rw[getElem!_pos es i hil];rw[Array.getElem?_eq_getElem hil] at hy;exact Option.some.inj hy
   exact⟨_,List.getElem?_eq_getElem hie,by rw[hy2];exact h2,by rw[hy2];exact h3⟩
  have hE:EsOk es clock:=by
   refine⟨fun i j hij hj=>?_,fun i hil=>?_⟩
   ·obtain⟨en1,e1,e2,_⟩:=hborn i OM;obtain⟨en2,e3,e4,_⟩:=hborn j hj;rw[e2,e4];have hi1:=(List.getElem?_eq_some_iff.1 e1);have hi2:=(List.getElem?_eq_some_iff.1 e3)
    have:=List.pairwise_iff_getElem.1 hsrt i j (by simpa using hi1.1) (by simpa using hi2.1) hij
    simpa [hi1.2,hi2.2] using this
   ·obtain⟨en1,e1,e2,_⟩:=hborn i hil;rw[e2];exact hlt _ (List.mem_of_getElem? e1)
  have hk:KeysAt es d:=by
   refine⟨hn,fun j hj=>?_⟩
   obtain⟨en,e1,_,e3⟩:=hborn j hj;have hjd:j < d.length:=by omega
   have:(ents.map (·.2.1))[j]?=some (.ag (cfC d[j])):=by rw[hke,List.getElem?_map,List.getElem?_eq_getElem hjd];rfl
   rw[List.getElem?_map,e1] at this;have h2:en.2.1=.ag (cfC d[j]):=by simpa using this
   rw[h2] at e3;rw[Qh2 c _ e3,getElem!_pos d j hjd]
  have hmain:=Qa7 Fence.wide 5 trivial trivial rfl OM 44 #[.pointer (some ⟨b,0,none⟩)] trivial (fun args w=>JT (by kernel_rfl)) (fun ss=>ss.Perm d) d.length (by simp only[maxLen];omega) OM w
   (Qbd Fence.wide 3 trivial rfl OM b bm es clock d hE hk w hblt hcell hmw)
  refine (callsIn_wide.1 hmain).mono fun e w' hh=>?_;obtain⟨v,ss,rfl,hS,hrow,hnil,hbel,hdr⟩:=hh;have hwid:Wid c w'.heap:=⟨by rw[hp];exact hbel.size,fun k hk=>by rw[hp] at hk ⊢;exact hbel.block k hk⟩;have hOt:Ot w w':=⟨hbel.output,hbel.tape,hdr⟩;by_cases hd0:d=[]
  ·subst hd0;have hs0:ss=[]:=List.perm_nil.1 hS;obtain rfl:=hnil.2 hs0;obtain⟨hE1,hI1⟩:=Qhp hi hwid
   exact⟨_,_,.nil,o,rfl,⟨hE1,rfl,hbel.os,hOt,hI1,.nil _⟩,h0 rfl⟩
  ·have hss0:ss≠[]:=fun h=>hd0 (by rw[h] at hS;exact List.nil_perm.1 hS);rcases hrow.2 with⟨_,hz⟩|⟨g,cap,cur,rfl,hbase,hgb,r1,r2,r3,r4⟩
   ·exact absurd (List.eq_nil_of_length_eq_zero hz) hss0
   ·have hgl:g < w'.heap.size:=(Array.getElem?_eq_some_iff.1 hgb).1;have hgc:c.heap.size≤g:=by rw[hp];exact hbase
    have hrepO:RepO (c.adopt w'.heap g 5) g 5 (.row 5 (ss.map cfC)):=by
     refine Qz.2 ⟨rfl,OM,fun e he=>by obtain⟨x,_,rfl⟩:=List.mem_map.1 he;rfl,cur,_,hgb,?_,fun j k e v he hv=>?_⟩
     ·have hcl:cur.toList.length=cap*5:=by rw[Array.length_toList];exact r3
      rw[List.length_map,hcl];exact Nat.mul_le_mul_right _ r1
     ·rw[List.getElem?_map] at he;obtain⟨x,hx1,rfl⟩:=Option.map_eq_some_iff.1 he;obtain⟨u,g1,g2,g3⟩:=Qir (c.adopt w'.heap g 5) x hv;have hk5:k < 5:=(List.getElem?_eq_some_iff.1 hv).1;have hjl:=(List.getElem?_eq_some_iff.1 hx1).1
      refine⟨u,?_,g2,g3⟩
      have h5:=KE ss j k x hx1 hk5;rw[g1,← r4,List.getElem?_take_of_lt OM] at h5;exact h5
    refine⟨_,c.adopt w'.heap g 5,.rw c.n 5 0 ss.length,upd o c.n (some (.row 5 (ss.map cfC))),rfl,⟨Xx hi hwid 5 hgc,rfl,hbel.os,hOt,Qde hi hwid hgc hgl hrepO,?_⟩,h1 ss hS hd0 c.n hi.free⟩
    have:=Rep.rw (c:=c.adopt w'.heap g 5) c.n 5 0 ss.length g cap (by simp [Cx.adopt,upd]) (by simp [Cx.adopt]) r1 ⟨cur,_,hgb,by rw[r3];omega⟩
    simpa using this
end Go.Proofs.YtocmjakchgcioaaGreat
