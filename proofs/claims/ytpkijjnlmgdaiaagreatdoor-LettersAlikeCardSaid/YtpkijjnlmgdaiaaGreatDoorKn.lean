import Derived.Test.YtpkijjnlmgdaiaaGreatDoorKh

namespace Go.Proofs.YtpkijjnlmgdaiaaGreatDoor
set_option linter.all false
variable {As:List Au} {i sz:Nat} {o:O} {w:List Nat} {L:List (List V)} {l:List Stp}
attribute [-go_sem] Qp Qb rfOb V.cells
def Zc (As:List Au):List (Nat→Nat):=As.flatMap fun A=>A.sets.drop 1
def Qax (h:∀ A∈As,A.sets.length≤41):(Zc As).length≤As.length*40:=by
 induction As with
 | nil=>simp [Zc]
 | cons A As ih =>
  have h1:=h A (List.mem_cons_self ..);have h2:=ih fun B hB=>h B (List.mem_cons_of_mem _ hB);simp only[Zc,List.flatMap_cons,List.length_append,List.length_drop,List.length_cons] at h2 ⊢;omega
def QjS (h:∀ A∈As,∀ s∈A.sets,W64 s):∀ s∈Zc As,W64 s:=fun s hs=>by
 obtain⟨A,hA,hm⟩:=List.mem_flatMap.1 hs;exact h A hA s (List.mem_of_mem_drop hm)
def Qby (hi:i < As.length):Zc (As.take (i+1))=Zc (As.take i)++As[i].sets.drop 1:=by
 rw[Zc,Zc,List.take_add_one,List.getElem?_eq_getElem hi,Option.toList_some,List.flatMap_append,List.flatMap_cons,List.flatMap_nil,List.append_nil]
def QjJ (h:i < As.length):(As.map auC)[i]?=some (auC As[i]):=by rw[List.getElem?_map,List.getElem?_eq_getElem h];rfl
def Qfw (As:List Au):QA (As.map auC)=true:=Qx (fun A=>by obtain⟨⟨ak,as_,ap,al,ah⟩,S,Cs,R,Fi,Mo,La,Em⟩:=A;simp only[go_sem,Bool.and_true]) As
def ins (f:Nat→Nat):List V:=(List.range 256).map fun i=>V.i .i64 (f i:Nat)
def ZQ (f:Nat→Nat):(ins f).length=256:=by simp [ins]
def Kg (f:Nat→Nat) (h:i < 256):(ins f)[i]?=some (.i .i64 (f i:Nat)):=by simp [ins,h]
def DY {f g:Nat→Nat} (h:∀ i,i < 256→f i=g i):ins f=ins g:=by
 unfold ins;exact List.map_congr_left fun i hi=>by rw[h i (List.mem_range.1 hi)]
def QdJ (d:Nat) (f:Nat→Nat):swpL d (ins f)=ins f:=by
 have:∀ l:List Nat,swpL d (l.map fun i=>V.i .i64 (f i:Nat))=l.map fun i=>V.i .i64 (f i:Nat):=fun l=>by
  induction l with
  | nil=>rfl
  | cons a l ih=>simp only[List.map_cons,swpL,swp,ih]
 exact this _
def Qly (f:Nat→Nat):cldL (ins f)=true:=by
 have:∀ l:List Nat,cldL (l.map fun i=>V.i .i64 (f i:Nat))=true:=fun l=>by
  induction l with
  | nil=>rfl
  | cons a l ih=>simp only[List.map_cons,cldL,cld,ih,Bool.and_true]
 exact this _
def VD (f:Nat→Nat) (P:List (List V)):okf FZ (.ag (.sl P::ins f))=true:=by
 show (V.sl P::ins f).all (okf 23)=true;rw[List.all_eq_true];intro v hv;rcases List.mem_cons.1 hv with rfl|hv
 ·rfl
 ·obtain⟨i,_,rfl⟩:=List.mem_map.1 hv;rfl
def QcV (f:Nat→Nat) (P:List (List V)):clo FZ (.ag (.sl P::ins f))=true:=by
 show (V.sl P::ins f).all (clo 23)=true;rw[List.all_eq_true];intro v hv;rcases List.mem_cons.1 hv with rfl|hv
 ·rfl
 ·obtain⟨i,_,rfl⟩:=List.mem_map.1 hv;rfl
def Ql6 (f:Nat→Nat):List.take 256 (ins f)=ins f:=List.take_of_length_le (by rw[ZQ];omega)
def QlR:rp 256 (.i .i64 0)=ins fun _=>0:=by
 apply List.ext_getElem?;intro i;by_cases h:i < 256
 ·rw[Qk2 _ h,Kg _ h];rfl
 ·rw[List.getElem?_eq_none (by rw[Qf0];omega),List.getElem?_eq_none (by rw[ZQ];omega)]
theorem Qcc (v:V):∀ (n:Nat) (l:List V),n < l.length→splice n [v] l=l.set n v
 | 0,y::z,_=>by cases z<;>rfl
 | n+1,y::z,h=>by simp only[splice,List.set_cons_succ];rw[Qcc v n z (by simpa using h)]
 | _,[],h=>by simp at h
theorem VU:∀ (a z:List V),a.length=z.length→splice 0 a z=a
 | [],[],_=>rfl
 | a::l,y::z,h=>by simp only[splice];rw[VU l z (by simpa using h)]
 | [],_::_,h=>by simp at h
 | _::_,[],h=>by simp at h
def Qg2 (f:Nat→Nat) (P:V) (k:Nat) (h:i < 256):splice (1+i) [.i .i64 (k:Nat)] (P::ins f)=P::ins fun x=>if x=i then k else f x:=by
 rw[Qcc _ _ _ (by rw[List.length_cons,ZQ];omega),Nat.add_comm 1 i,List.set_cons_succ];congr 1;apply List.ext_getElem?;intro j;rw[List.getElem?_set,ZQ];by_cases hj:j < 256
 ·rw[Kg _ hj,Kg _ hj];by_cases hij:i=j
  ·subst hij;simp [h]
  ·simp [hij,Ne.symm hij]
 ·rw[List.getElem?_eq_none (by rw[ZQ];omega),List.getElem?_eq_none (by rw[ZQ];omega)];by_cases hij:i=j
  ·omega
  ·simp [hij]
def Qg0 (f g:Nat→Nat) (P Q:V):splice 0 (P::ins f) (Q::ins g)=P::ins f:=VU _ _ (by rw[List.length_cons,List.length_cons,ZQ,ZQ])
def QiK (d:Nat) (f:Nat→Nat) (P:List (List V)):swpL d (.sl P::ins f)=.sl P::ins f:=by simp only[swpL,swp,QdJ]
def Qen (f g:Nat→Nat):splice 0 (ins f) (ins g)=ins f:=VU _ _ (by rw[ZQ,ZQ])
attribute [go_sem] Qen ZQ QdJ Qly VD QcV Ql6 Qg0 QlR QiK
def Qjj (f:Nat→Nat) (P:List (List V)):fzU o (.ag (.sl P::ins f))=some (.ag (.sl P::ins f)):=Jd (VD f P)
def byF (l:List (Nat→Nat)) (i:Int):Option Nat:=if 0≤i then (match l[i.toNat]? with|some s=>YQ (Qj s)|none=>none) else none
def QgJ (l:List (Nat→Nat)) (hl:l.length < 2147483648) (hw:∀ s∈l,W64 s) (f:Nat→Nat) (i:Int):Pu F 27 [.ag (.sl (l.map u4)::ins f),.i .i64 i] (lstV (byF l i)):=by
 refine Qe e27 rfl rfl (by simp only[go_sem,Bool.and_true]) ?_;dsimp only[fn27,c27];by_cases h0:i < 0
 ·have c1:decide (i < 0)=true:=decide_eq_true h0;have he:byF l i=none:=by rw[byF,if_neg OM]
  refine RT c1 ?_;rw[he];exact Qu rfl rfl
 ·have c1:decide (i < 0)=false:=decide_eq_false h0;by_cases h1:i.toNat < l.length
  ·have c2:decide (i≥(l.length:Int))=false:=decide_eq_false OM;have hip:(0:Int)≤i:=by omega
   have gI:=Qbt h1;have hL:=Qe4 l[i.toNat] (hw _ (List.getElem_mem h1));have he:byF l i=YQ (Qj l[i.toNat]):=by rw[byF,if_pos hip,List.getElem?_eq_getElem h1]
   rw[he];generalize l[i.toNat]=s at gI hL;generalize YQ (Qj s)=x at hL;have hL:Pu F 48 [.ag (u4 s)] (.tp [.i .u8 (x.getD 0:Nat),.bo x.isSome]):=hL;refine RT (Ad4 c1 c2 hip gI) ?_;refine PRT trivial (r:=.tp [.i .u8 (x.getD 0:Nat),.bo x.isSome]) hL ?_;refine RT trivial ?_;exact Qu rfl rfl
  ·have c2:decide (i≥(l.length:Int))=true:=decide_eq_true OM;have he:byF l i=none:=by rw[byF,if_pos OM,List.getElem?_eq_none OM]
   refine RT (Ad2 c1 c2) ?_;rw[he];exact Qu rfl rfl
def wbV (w:List Nat):V:=.sl (w.map fun b:Nat=>[.i .u8 (b:Int)])
def QnE (h:i < w.length):(w.map fun b:Nat=>[V.i .u8 (b:Int)])[i]?=some [.i .u8 (w[i]:Int)]:=by rw[List.getElem?_map,List.getElem?_eq_getElem h];rfl
def Qm8 (k:IntKind) (f:Nat→Nat) (w:List Nat):QA (w.map fun b=>[V.i k (f b:Nat)])=true:=Qx (fun _=>rfl) w
def QfA (k:IntKind) (f:Nat→Nat) (w:List Nat):(w.map fun b=>[V.i k (f b:Nat)]).all Za=true:=List.all_eq_true.2 fun c hc=>by obtain⟨x,_,rfl⟩:=List.mem_map.1 hc;rfl
def Qfs (k:IntKind) (f:Nat→Nat) (w:List Nat):∀ c∈w.map fun b=>[V.i k (f b:Nat)],∀ v∈c,okf 23 v=true:=fun c hc v hv=>by
 obtain⟨x,_,rfl⟩:=List.mem_map.1 hc;rw[List.mem_singleton] at hv;rw[hv];rfl
def Qob (k:IntKind) (f:Nat→Nat) (h:i < w.length):(w.map fun b=>[V.i k (f b:Nat)])[i]?=some [.i k (f w[i]:Nat)]:=by rw[List.getElem?_map,List.getElem?_eq_getElem h];rfl
def QbC (k:IntKind) (f:Nat→Nat) (h:i < w.length):(w.take (i+1)).map (fun b=>[V.i k (f b:Nat)])=(w.take i).map (fun b=>[V.i k (f b:Nat)])++[[.i k (f w[i]:Nat)]]:=by
 rw[List.take_add_one,List.getElem?_eq_getElem h,Option.toList_some,List.map_append];rfl
attribute [go_sem] Qm8
def Qaw (P:List (List V)) (f:Nat→Nat) {v:V} (hv:okf FZ v=true):fzsU o [.ag (.sl P::ins f),v]=some [.ag (.sl P::ins f),v]:=Zu (by simp only[List.all_cons,List.all_nil,VD,hv,Bool.and_true])
def KG (P:List (List V)) (f:Nat→Nat) {v r:V} (hv:clo FZ v=true):(clos [.ag (.sl P::ins f),v]||flat FZ r)=true:=Bool.or_eq_true_iff.2 (.inl (by simp only[clos,List.all_cons,List.all_nil,QcV,hv,Bool.and_true]))
set_option maxHeartbeats 1000000 in
def Qaj (P:List (List V)) (hP:QA P=true) (f:Nat→Nat) (w:List Nat) (hw:∀ b∈w,b < 256) (hl:w.length < 2147483648):Pu F 22 [.ag (.sl P::ins f),wbV w] (.sl (w.map fun b=>[.i .i64 (f b:Nat)])):=by
 refine Qe e22 rfl rfl (by simp only[go_sem,Bool.and_true,hP,wbV]) ?_;dsimp only[fn22,c22];refine RT wbV.eq_1 ?_;refine U_lp (fun r e o=>∃ i:Nat,i+r=w.length∧e 2=.pt 2 0 0∧e 5=ownV 20 1 ((w.take i).map fun b=>[.i .i64 (f b:Nat)])∧e 8=wbV w∧e 9=.i .i64 w.length∧e 10=.i .i64 i∧o 2=some (.row 257 [.sl P::ins f])∧Own o 20 1 ((w.take i).map fun b=>[.i .i64 (f b:Nat)])) (k:=w.length) ?_ (Qa F) ?_
 ·exact⟨0,OM,Z0,Zr0,by simp only[wbV,go_sem],by simp only[List.length_map,go_sem],Zr0,Z0,⟨rfl,fun h=>absurd rfl h⟩⟩
 rintro r e o ⟨i,hir,r2,r5,r8,r9,r10,o2,ow⟩;dsimp only[Qmg];by_cases hi:i < w.length
 ·have hd:decide ((i:Int) < (w.length:Int))=true:=decide_eq_true OM;have hip:(0:Int)≤(i:Int):=by omega
  have hw1:=ZI (i:=i) OM;have gI:=QnE hi;have hS:=QbC .i64 f hi;have hb:=hw _ (List.getElem_mem hi);generalize w[i]=b at gI hS hb;have hbp:(0:Int)≤(b:Int):=by omega
  have hlt:((b:Int) < 256)=True:=by simp only[eq_iff_iff,iff_true];omega
  have gB:(V.sl P::ins f)[1+b]?=some (.i .i64 (f b:Nat)):=by rw[Nat.add_comm,List.getElem?_cons_succ,Kg f hb]
  have hln:((w.take i).map fun b=>[V.i .i64 (f b:Nat)]).length≤i:=by rw[List.length_map,List.length_take];omega
  refine RT (Ad5 r2 r5 r8 r9 (Ad5 r10 wbV.eq_1 o2 hd (Ad5 hip gI hbp hlt gB))) ?_;refine Z6 20 (L:=(w.take i).map fun b=>[.i .i64 (f b:Nat)]) (ys:=[[.i .i64 (f b:Nat)]]) (Z1 r5) ow.h (by simp only[src,List.take_succ_cons,List.take_zero,List.drop_succ_cons,List.drop_zero,go_sem]) SM SM OM ⟨by rw[List.length_cons,List.length_nil];omega,OM⟩ (QJ _ ow.c) rfl ?_;rw[← hS];refine RT (Ad2 r10 hw1) ?_
  exact⟨r - 1,OM,i+1,OM,Z1 r2,Z0,by simp only[r8,wbV,go_sem],Z1 r9,Z0,Z1 o2,Own.to (QfA _ _ _)⟩
 ·have hd:decide ((i:Int) < (w.length:Int))=false:=decide_eq_false OM;rw[List.take_of_length_le OM] at r5 ow;refine RT (Ad4 r5 r9 r10 hd) ?_;exact Jv 23 ow.h (Qfs _ _ _)
set_option maxHeartbeats 1000000 in
def Qcj (l:List (Nat→Nat)) (hl:l.length < 2147483648) (hls:∀ s∈l,W64 s) (f g:Nat→Nat) (w:List Nat) (hw:∀ b∈w,b < 256) (hwl:w.length < 2147483648) (hg:∀ b∈w,byF l (f b:Nat)=some (g b)) :
  Pu F 11 [.ag (.sl (l.map u4)::ins f),wbV w] (.sl (w.map fun b=>[.i .u8 (g b:Nat)])):=by
 have hS:=Qaj (l.map u4) (QbP l) f w hw hwl;refine Qe e11 rfl rfl (by simp only[go_sem,Bool.and_true,wbV]) ?_;dsimp only[fn11,c11];refine RT wbV.eq_1 ?_;refine U_pc (vs:=[.ag (.sl (l.map u4)::ins f),wbV w]) (ws:=[.ag (.sl (l.map u4)::ins f),wbV w]) (by simp only[wbV,List.take_succ_cons,List.take_zero,List.drop_succ_cons,List.drop_zero,go_sem]) (Qaw _ _ rfl) (KG _ _ rfl) (Z0) hS ?_;refine RT trivial ?_;refine U_lp (fun r e o=>∃ i:Nat,i+r=w.length∧e 2=.pt 2 0 0∧e 5=ownV 27 1 ((w.take i).map fun b=>[.i .u8 (g b:Nat)])∧e 12=.sl (w.map fun b=>[.i .i64 (f b:Nat)])∧e 13=.i .i64 w.length∧e 14=.i .i64 i∧o 2=some (.row 257 [.sl (l.map u4)::ins f])∧Own o 27 1 ((w.take i).map fun b=>[.i .u8 (g b:Nat)])) (k:=w.length) ?_ (Qa F) ?_
 ·exact⟨0,OM,Z0,Zr0,Z0,by simp only[List.length_map,go_sem],Zr0,Z0,⟨rfl,fun h=>absurd rfl h⟩⟩
 rintro r e o ⟨i,hir,r2,r5,r12,r13,r14,o2,ow⟩;dsimp only[QjA];by_cases hi:i < w.length
 ·have hd:decide ((i:Int) < (w.length:Int))=true:=decide_eq_true OM;have hip:(0:Int)≤(i:Int):=by omega
  have hw1:=ZI (i:=i) OM;have gI:=Qob .i64 f hi;have hS:=QbC .u8 g hi;have hB:=QgJ l hl hls f (f w[i]:Nat);rw[hg _ (List.getElem_mem hi)] at hB;generalize w[i]=b at gI hS hB;have hB:Pu F 27 [.ag (.sl (l.map u4)::ins f),.i .i64 (f b:Nat)] (.tp [.i .u8 (g b:Nat),.bo true]):=hB;have hln:((w.take i).map fun b=>[V.i .u8 (g b:Nat)]).length≤i:=by rw[List.length_map,List.length_take];omega
  refine RT (Ad4 r2 r12 r13 (Ad5 r14 o2 hd hip gI)) ?_;refine U_pc (vs:=[.ag (.sl (l.map u4)::ins f),.i .i64 (f b:Nat)]) (ws:=[.ag (.sl (l.map u4)::ins f),.i .i64 (f b:Nat)]) (by simp only[List.take_succ_cons,List.take_zero,List.drop_succ_cons,List.drop_zero,go_sem]) (Qaw _ _ rfl) (KG _ _ rfl) rfl hB ?_;refine RT r5 ?_;refine Z6 27 (L:=(w.take i).map fun b=>[.i .u8 (g b:Nat)]) (ys:=[[.i .u8 (g b:Nat)]]) (Z1 r5) ow.h (by simp only[src,List.take_succ_cons,List.take_zero,List.drop_succ_cons,List.drop_zero,go_sem]) SM SM OM ⟨by rw[List.length_cons,List.length_nil];omega,OM⟩ (QJ _ ow.c) rfl ?_;rw[← hS];refine RT (Ad2 r14 hw1) ?_
  exact⟨r - 1,OM,i+1,OM,Z1 r2,Z0,Z1 r12,Z1 r13,Z0,Z1 o2,Own.to (QfA _ _ _)⟩
 ·have hd:decide ((i:Int) < (w.length:Int))=false:=decide_eq_false OM;rw[List.take_of_length_le OM] at r5 ow;refine RT (Ad4 r5 r13 r14 hd) ?_;exact Jv 23 ow.h (Qfs _ _ _)
def Qgv (d:Nat) (f:Nat→Nat):swpL d (.nil::ins f)=.nil::ins f:=by simp only[swpL,swp,QdJ]
def Qji (d:Nat) (es:List (List V)) (f:Nat→Nat):Z7 d es (ins f)=ins f:=by
 have:∀ l:List Nat,Z7 d es (l.map fun i=>V.i .i64 (f i:Nat))=l.map fun i=>V.i .i64 (f i:Nat):=fun l=>by
  induction l with
  | nil=>rfl
  | cons a l ih=>simp only[List.map_cons,Z7,still,ih]
 exact this _
attribute [go_sem] Qgv Qji
section
variable {cl:Qc} {e:E} {o:O}
def Qkv (s:Nat) {d byt:Nat} {x y:Od} {K:E→O→Prop} (hx:x.ev e=ownV s sz L) (ho:L≠[]→o s=some (.row sz L)) (hs:src o (y.ev e)=some []) (hso:Q7 L.length byt)
  (h:wpRU cl l K (upd e d (ownV s sz L)) o):wpRU cl (⟨some d,none,.app sz byt x y,[]⟩::l) K e o:=by
 by_cases hl:L=[]
 ·subst hl;exact Xr hx hs hso.2 h
 ·rw[J2 hl] at hx h;exact Qbz hx (ho hl) (Nat.le_refl _) hs hso h
end
def QaG {cl:Qc} {e:E} {K:X→E→O→Prop} (P:E→O→Prop) (s:Nat) (hc:okLL L=true) (ho:L≠[]→o s=some (.row sz L)) (h0:L=[]→P e o) (h1:L≠[]→P (Wr s L e) (ZR s L o)) (h:∀ e o,P e o→wpU true cl (.rg l) K e o):wpU true cl (.rg l) K e o:=by
 by_cases hL:L=[]
 ·exact h _ _ (h0 hL)
 ·exact Qak s (ho hL) hc (h _ _ (h1 hL))
def Qi8 (l:List (Nat→Nat)):okLL (l.map u4)=true:=by
 show (l.map u4).all okL=true;exact List.all_eq_true.2 fun c hc=>by obtain⟨x,_,rfl⟩:=List.mem_map.1 hc;rfl
def Dq (cl:Nat→Nat→Bool) (i b:Nat):ofN cl (i+1) b=if cl i b then i else ofN cl i b:=rfl
structure Mk (P:List (List V)) (N i:Nat) (g:Nat→Nat) (e:E) (o:O):Prop where
 e2:e 2=.pt 2 0 0
 e6:e 6=.pt 6 0 0
 e32:e 32=.sl P
 e33:e 33=.i .i64 N
 e34:e 34=.i .i64 i
 o2:o 2=some (.row 257 [.nil::ins fun _=>0])
 o6:o 6=some (.row 257 [.sl P::ins g])
set_option maxHeartbeats 1000000 in
def Qee (P:List (List V)) (N i:Nat) (cl:Nat→Nat→Bool) (s:Nat→Nat) (hs:W64 s) (hcl:∀ b,b < 256→cl i b=Qj s b) (e:E) (o:O) (h:Mk P N i (ofN cl i) e o) (r7:e 7=.i .i64 i) (r8:e 8=.pt 8 0 0) (r39:e 39=.i .i64 0) (o8:o 8=some (.row 4 [u4 s])) :
  wpU true (Call F) (.lp QhZ) (fun x e o=>x=.ex 4∧Mk P N i (ofN cl (i+1)) e o) e o:=by
 refine U_lp (fun r e o=>∃ b:Nat,b+r=256∧e 7=.i .i64 i∧e 8=.pt 8 0 0∧e 39=.i .i64 b∧o 8=some (.row 4 [u4 s])∧Mk P N i (fun x=>if x < b then ofN cl (i+1) x else ofN cl i x) e o) (k:=256) ?_ (Qa F) ?_
 ·obtain⟨r2,r6,r32,r33,r34,o2,o6⟩:=h;have e1:ins (ofN cl i)=ins fun x=>if x < 0 then ofN cl (i+1) x else ofN cl i x:=DY fun x _=>by simp
  rw[e1] at o6
  exact⟨0,OM,r7,r8,r39,o8,r2,r6,r32,r33,r34,o2,o6⟩
 clear h r7 r8 r39 o8;rintro r e o ⟨b,hbr,r7,r8,r39,o8,⟨r2,r6,r32,r33,r34,o2,o6⟩⟩;dsimp only[QhZ];by_cases hb:b < 256
 ·have hd:decide ((b:Int) < 256)=true:=decide_eq_true OM;have hbp:(0:Int)≤(b:Int):=by omega
  have hlt:((b:Int) < 256)=True:=by simp only[eq_iff_iff,iff_true];omega
  have hle:1+b+1≤257:=by omega
  have hw1:=ZI (i:=b) OM;have hc8:IntKind.u8.wrap (b:Int)=(b:Int):=VV OM OM;have hH:=HU s hs b hb;rw[← hcl b hb] at hH;have key:∀ k,k=ofN cl (i+1) b→(ins fun x=>if x=b then k else if x < b then ofN cl (i+1) x else ofN cl i x)=ins fun x=>if x < b+1 then ofN cl (i+1) x else ofN cl i x:=fun k hk=>DY fun x _=>by
   by_cases h:x=b
   ·subst h;simp [hk]
   ·have:(x < b+1)↔x < b:=by omega
    simp [h,this]
  refine RT (Ad5 r8 r39 o8 hd hc8) ?_;cases hbt:cl i b with
  | true =>
   rw[hbt] at hH;have hk:=key i (by rw[Dq,hbt,if_pos rfl]);have hspl:=Qg2 (fun x=>if x < b then ofN cl (i+1) x else ofN cl i x) (.sl P) i hb;rw[hk] at hspl;refine PRT (Ad2 r39 hc8) (r:=.bo true) hH ?_;refine RT (Ad5 r6 r7 r39 o6 (Ad5 hbp hlt hle hspl hw1)) ?_
   exact⟨r - 1,OM,b+1,OM,Z1 r7,Z1 r8,Z0,Z1 o8,Z1 r2,Z1 r6,Z1 r32,Z1 r33,Z1 r34,Z1 o2,Z0⟩
  | false =>
   rw[hbt] at hH;have hk:=key (ofN cl i b) (by rw[Dq,hbt];rfl);have hself:(ins fun x=>if x=b then ofN cl i b else if x < b then ofN cl (i+1) x else ofN cl i x)=ins fun x=>if x < b then ofN cl (i+1) x else ofN cl i x:=DY fun x _=>by
    by_cases h:x=b
    ·subst h;simp
    ·simp [h]
   rw[hself] at hk;rw[hk] at o6;refine PRT (Ad2 r39 hc8) (r:=.bo false) hH ?_;refine RT (Ad2 r39 hw1) ?_
   exact⟨r - 1,OM,b+1,OM,Z1 r7,Z1 r8,Z0,Z1 o8,Z1 r2,Z1 r6,Z1 r32,Z1 r33,Z1 r34,Z1 o2,Z1 o6⟩
 ·have hd:decide ((b:Int) < 256)=false:=decide_eq_false OM;have e1:(ins fun x=>if x < b then ofN cl (i+1) x else ofN cl i x)=ins (ofN cl (i+1)):=DY fun x hx=>by rw[if_pos OM]
  rw[e1] at o6;refine RT (Ad2 r39 hd) ?_
  exact⟨rfl,Z1 r2,Z1 r6,Z1 r32,Z1 r33,Z1 r34,o2,o6⟩
set_option maxRecDepth 20000 in
set_option maxHeartbeats 4000000 in
def D8 (As:List Au) (hl:As.length≤6) (hn:∀ A∈As,A.sets.length≤41) (h1:∀ A∈As,1≤A.sets.length) (hw:∀ A∈As,∀ s∈A.sets,W64 s):Pu F 10 [.sl (As.map auC)] (.ag (.sl ((ptL (Zc As)).map u4)::ins (letF (Zc As)))):=by
 have hln:=Qax hn;have hws:=QjS hw;have hP:=Qe9 (Zc As) OM hws;refine Qe e10 rfl rfl (by simp only[go_sem,Bool.and_true,Qfw]) ?_;dsimp only[fn10,c10];refine RT trivial ?_;refine YA (fun e o=>e 2=.pt 2 0 0∧e 3=ownV 26 4 ((Zc As).map u4)∧o 2=some (.row 257 [.nil::ins fun _=>0])∧Own o 26 4 ((Zc As).map u4)) ?_ ?_
 ·refine U_lp (fun r e o=>∃ i:Nat,i+r=As.length∧e 2=.pt 2 0 0∧e 3=ownV 26 4 ((Zc (As.take i)).map u4)∧e 10=.sl (As.map auC)∧e 11=.i .i64 As.length∧e 12=.i .i64 i∧o 2=some (.row 257 [.nil::ins fun _=>0])∧Own o 26 4 ((Zc (As.take i)).map u4)) (k:=As.length) ?_ (Qa F) ?_
  ·exact⟨0,OM,Z0,Zr0,Z0,by simp only[List.length_map,go_sem],Zr0,Z0,⟨rfl,fun h=>absurd rfl h⟩⟩
  rintro r e o ⟨i,hir,r2,r3,r10,r11,r12,o2,ow⟩;dsimp only[Qls];by_cases hi:i < As.length
  ·have hd:decide ((i:Int) < (As.length:Int))=true:=decide_eq_true OM;have hip:(0:Int)≤(i:Int):=by omega
   have hw1:=ZI (i:=i) OM;have gI:=QjJ hi;have hS:=Qby hi;have hn1:=h1 _ (List.getElem_mem hi);have hnA:=hn _ (List.getElem_mem hi);have hbl:=Qax (As:=As.take i) fun A hA=>hn A (List.mem_of_mem_take hA);have htl:(As.take i).length≤6:=by rw[List.length_take];omega
   generalize As[i]=A at gI hS hn1 hnA;generalize Zc (As.take i)=L0 at r3 ow hS hbl;have hgt:decide ((A.sets.length:Int) > 0)=true:=decide_eq_true OM;have hcut:cutV 4 1 A.sets.length none (.sl (A.sets.map u4))=some (.sl ((A.sets.drop 1).map u4)):=by
    have hall:(A.sets.map u4).all (fun c=>c.length==4)=true:=List.all_eq_true.2 fun c hc=>by obtain⟨x,_,rfl⟩:=List.mem_map.1 hc;rfl
    simp only[cutV];rw[if_pos ⟨OM,SM,hall⟩,List.take_of_length_le SM,List.map_drop]
   have hdl:(A.sets.drop 1).length≤40:=by rw[List.length_drop];omega
   refine RT (Ad2 r2 (Ad5 r3 r10 r11 r12 (Ad5 hd hip gI hgt hcut))) ?_;by_cases hD:A.sets.drop 1=[]
   ·refine Qkv 26 (L:=L0.map u4) (Z1 r3) ?_ (by simp only[src,hD,go_sem]) ⟨by simp;omega,OM⟩ ?_
    ·exact (by (repeat first|with_reducible assumption|refine .up rfl ?_|refine .sw rfl ?_|refine .swN rfl ?_):Own _ 26 4 (L0.map u4)).h
    refine RT (Ad2 r12 hw1) ?_
    exact⟨r - 1,OM,i+1,OM,Z1 r2,by rw[hS,hD,List.append_nil];simp only[go_sem],Z1 r10,Z1 r11,Z0,Z1 o2,by rw[hS,hD,List.append_nil];(repeat first|with_reducible assumption|refine .up rfl ?_|refine .sw rfl ?_|refine .swN rfl ?_)⟩
   ·refine Z6 26 (L:=L0.map u4) (ys:=(A.sets.drop 1).map u4) (Z1 r3) ?_ (by simp only[src,go_sem]) (fun c hc=>by obtain⟨x,_,rfl⟩:=List.mem_map.1 hc;rfl) (fun h=>hD (List.map_eq_nil_iff.1 h)) OM ⟨by simp only[List.length_map];omega,OM⟩ (QJ _ ow.c) (QJ _ (Vf _)) ?_
    ·exact (by (repeat first|with_reducible assumption|refine .up rfl ?_|refine .sw rfl ?_|refine .swN rfl ?_):Own _ 26 4 (L0.map u4)).h
    rw[← List.map_append];refine RT (Ad2 r12 hw1) ?_
    exact⟨r - 1,OM,i+1,OM,Z1 r2,by rw[hS];simp only[go_sem],Z1 r10,Z1 r11,Z0,Z1 o2,by rw[hS];exact Own.to (Vf _)⟩
  ·have hd:decide ((i:Int) < (As.length:Int))=false:=decide_eq_false OM;rw[List.take_of_length_le OM] at r3 ow;refine RT (Ad3 r11 r12 hd) ?_
   exact⟨rfl,Z1 r2,Z1 r3,o2,ow⟩
 rintro e o ⟨r2,r3,o2,ow⟩;generalize Zc As=l at hP hln hws r3 ow;refine ZU ?_;refine QaG (fun e o=>(e 3=.nil∧l=[]∨e 3=.sl (l.map u4))∧e 2=.pt 2 0 0∧o 2=some (.row 257 [.nil::ins fun _=>0])) 26 (Qi8 l) ow.h ?_ ?_ ?_
 ·intro h;have h:l=[]:=by simpa using h
  subst h
  exact⟨.inl ⟨r3,rfl⟩,r2,o2⟩
 ·intro h
  refine⟨.inr ?_,Z1 r2,Z1 o2⟩
  rw[H5,r3,Hg _ _ h]
 clear r2 r3 o2 ow;rintro e o ⟨h3,r2,o2⟩;have hpw:∀ s∈ptL l,W64 s:=fun s hs=>by
  obtain⟨i,hi,rfl⟩:=List.mem_iff_getElem.1 hs;exact pt_w hi
 have hpl:=QfV l;have hlet:ins (letF l)=ins (ofN (inP l) (ptL l).length):=rfl;have hinP:∀ i (hi:i < (ptL l).length),∀ b,inP l i b=Qj (ptL l)[i] b:=fun i hi b=>QbZ hi b;rw[hlet];have hfz:fzsU o [e 3]=some [.sl (l.map u4)]:=by
  rcases h3 with⟨h,rfl⟩|h
  ·rw[h];rfl
  ·rw[h];exact Zu rfl
 have hcl:clos [e 3]=true:=by
  rcases h3 with⟨h,rfl⟩|h
  ·rw[h];rfl
  ·rw[h];rfl
 clear h3 hws hln;generalize inP l=cl at hinP;generalize ptL l=Ps at hP hpw hpl hinP;refine RT trivial ?_;refine U_pc (vs:=[e 3]) (ws:=[.sl (l.map u4)]) (Z0) hfz (Bool.or_eq_true_iff.2 (.inl hcl)) (Z0) hP ?_;refine RT trivial ?_;refine YA (Mk (Ps.map u4) Ps.length Ps.length (ofN cl Ps.length)) ?_ ?_
 ·refine U_lp (fun r e o=>∃ i:Nat,i+r=Ps.length∧Mk (Ps.map u4) Ps.length i (ofN cl i) e o) (k:=Ps.length) ?_ (Qa F) ?_
  ·exact⟨0,OM,Z1 r2,Z0,Z0,by simp only[List.length_map,go_sem],Zr0,Z1 o2,Zr0⟩
  clear r2 o2;rintro r e o ⟨i,hir,⟨r2,r6,r32,r33,r34,o2,o6⟩⟩;dsimp only[Qlc];by_cases hi:i < Ps.length
  ·have hd:decide ((i:Int) < (Ps.length:Int))=true:=decide_eq_true OM;have hip:(0:Int)≤(i:Int):=by omega
   have hw1:=ZI (i:=i) OM;have gI:=Qbt hi;have hs:=hpw _ (List.getElem_mem hi);have hc:=hinP i hi;generalize Ps[i]=s at gI hs hc;refine RT (Ad2 r32 (Ad5 r33 r34 hd hip gI)) ?_;refine YA (Mk (Ps.map u4) Ps.length i (ofN cl (i+1))) (Qee (Ps.map u4) Ps.length i cl s hs (fun b _=>hc b) _ _ ⟨Z1 r2,Z1 r6,Z1 r32,Z1 r33,Z1 r34,Z1 o2,Z1 o6⟩ (Z0) (Z0) (Z0) (Z0)) ?_;clear r2 r6 r32 r33 r34 o2 o6;rintro e o ⟨r2,r6,r32,r33,r34,o2,o6⟩;refine RT (Ad2 r34 hw1) ?_
   exact⟨r - 1,OM,i+1,OM,Z1 r2,Z1 r6,Z1 r32,Z1 r33,Z0,o2,o6⟩
  ·have hd:decide ((i:Int) < (Ps.length:Int))=false:=decide_eq_false OM;have hi:i=Ps.length:=by omega
   subst hi;refine RT (Ad3 r33 r34 hd) ?_
   exact⟨rfl,Z1 r2,Z1 r6,Z1 r32,Z1 r33,Z1 r34,o2,o6⟩
 clear r2 o2;rintro e o ⟨r2,r6,r32,r33,r34,o2,o6⟩;refine RT (Ad4 r2 r6 o2 o6) ?_;exact Qjj _ _
def QjD (s:Nat→Nat):eqV true [.i .u64,.i .u64,.i .u64,.i .u64] (.ag (u4 s)) (.ag (u4 s))=some true:=by simp [u4,eqV,eqps,lfEq,V.isAg,V.cells]
attribute [go_sem] QjD
set_option maxRecDepth 20000 in
def Qdu:Pu F 8 [] (.bo true):=by
 have hM:=D8 [] SM (fun _ h=>by cases h) (fun _ h=>by cases h) (fun _ h=>by cases h);have h1:(ptL (Zc [])).length=1:=Qjy;generalize ptL (Zc [])=P at hM h1;generalize letF (Zc [])=f at hM;have hS:=Qaj (P.map u4) (QbP P) f [3] SM SM;have hM:Pu F 10 [.sl []] (.ag (.sl (P.map u4)::ins f)):=hM;have hS:Pu F 22 [.ag (.sl (P.map u4)::ins f),.sl [[.i .u8 3]]] (.sl [[.i .i64 (f 3:Nat)]]):=hS;refine Qe e8 rfl rfl (by simp only[go_sem,Bool.and_true]) ?_;dsimp only[fn8,c8];have c1:((P.length:Int)==1)=true:=by rw[h1];rfl
 refine RT trivial ?_;refine U_pc (vs:=[.nil]) (ws:=[.sl []]) (Z0) rfl (Bool.or_eq_true_iff.2 (.inl rfl)) (by simp only[Bool.and_true,go_sem]) hM ?_;refine RT c1 ?_;refine U_pc (vs:=[.ag (.sl (P.map u4)::ins f),.sl [[.i .u8 3]]]) (ws:=[.ag (.sl (P.map u4)::ins f),.sl [[.i .u8 3]]]) (by simp only[List.take_succ_cons,List.take_zero,List.drop_succ_cons,List.drop_zero,go_sem]) (Qaw _ _ rfl) (KG _ _ rfl) rfl hS ?_;refine RT trivial ?_;exact Qu rfl rfl
structure Lw (L:List (List V)) (P:List (Nat→Nat)) (f:Nat→Nat) (e:E) (o:O):Prop where
 e9:e 9=.sl L
 e10:e 10=.pt 10 0 0
 e11:e 11=.sl (P.map u4)
 o10:o 10=some (.row 257 [.sl (P.map u4)::ins f])
end Go.Proofs.YtpkijjnlmgdaiaaGreatDoor
