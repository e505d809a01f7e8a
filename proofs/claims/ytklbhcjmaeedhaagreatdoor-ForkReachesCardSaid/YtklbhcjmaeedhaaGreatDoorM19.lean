import Derived.Test.YtklbhcjmaeedhaaGreatDoorM18b

namespace Go.Proofs.YtklbhcjmaeedhaaGreatDoor
set_option linter.all false
variable {o:O}
attribute [-go_sem] Qy Qj rfOb V.cells
def Qfw (l:List (List Nat)):QQ (l.map lsC)=true:=QP (fun x=>by rw[lsC,cldL,QbN,cldL];rfl) l
def Qfm (d m a:Nat) (l:List Nat) (c:Nat) (h:(m==d)=false):Qy d (.iter (some m) a l c)=some (.iter (some m) a l c):=by
 simp only[Qy];rw[if_neg];simpa using h
attribute [go_sem] Qfm
theorem DG:∀ (n:Nat) (l:List Nat),l.Nodup→(∀ x∈l,x < n)→l.length≤n
 | 0,[],_,_=>Nat.le_refl _
 | 0,x::l,_,h=>absurd (h x SM) OM
 | n+1,l,hn,h=>by
  have h1:=DG n (l.erase n) (hn.erase n) (fun x hx=>by
   have h2:=h x (List.mem_of_mem_erase hx);have h3:x≠n:=fun hh=>by subst hh;exact (hn.not_mem_erase hx)
   omega)
  rw[List.length_erase] at h1;split at h1<;>omega
def Qkn (l:List Mv):∀ c∈l.map mvC,∀ v∈c,∀ n,frzU (n+1) o v=some v:=by
 intro c hc v hv n;obtain⟨x,_,rfl⟩:=List.mem_map.1 hc;simp [mvC] at hv;rcases hv with rfl|rfl|rfl<;>rfl
theorem QbT {o:O} (g:Nat→List Mv):∀ (n k:Nat),(∀ p,p < n→Own o (6000+(k+p)) 3 ((g (k+p)).map mvC))→((mvR g k n).mapM fun c:List V=>c.mapM (frzU 21 o))=some ((List.range' k n).map fun p=>[V.sl ((g p).map mvC)])
 | 0,k,_=>rfl
 | n+1,k,h=>by
  have h1:=QbT g n (k+1) fun p hp=>by
   have:=h (p+1) OM
   rw[show k+1+p=k+(p+1) from by omega];exact this
  have h0:frzU 21 o (ownV (6000+k) 3 ((g k).map mvC))=some (.sl ((g k).map mvC)):=YT (h 0 OM) (Qkn _) 19;rw[mvR,List.mapM_cons,List.mapM_cons,h0,h1];rfl
def QiY {g:Nat→List Mv} {N:Nat} (h36:o 36=some (.row 1 (mvR g 0 N))) (hm:MO o g N):frzU 22 o (.rw 36 1 0 N)=some (.sl (((List.range N).map fun p=>g p).map mlC)):=by
 have hs:src o (.rw 36 1 0 N)=some (mvR g 0 N):=by
  simp only[src,h36];rw[if_pos (by simp [Wf])];simp [List.take_of_length_le,Wf]
 have h1:=QbT (o:=o) g N 0 fun p hp=>by rw[Nat.zero_add];exact hm p hp
 show (match src o (.rw 36 1 0 N) with
  | some es=>(es.mapM fun c:List V=>c.mapM (frzU 21 o)).map V.sl
  | none=>none)=_
 rw[hs];dsimp only;rw[h1,List.map_map,List.range_eq_range'];rfl
def Z4 {F:En} {gh:Bool} {a:C} {id:Nat} {K:X→E→O→Prop} {e:E} (P:E→O→Prop) (h:wpU gh (Call F) a (fun x e o=>x=.ex id∧P e o) e o) (h2:∀ e o,P e o→K .nx e o):wpU gh (Call F) a (blkX id K) e o :=
 Ke (Qa F) (fun x e o hx=>by obtain⟨rfl,hp⟩:=hx;simp only[blkX,if_true];exact h2 e o hp) h
structure MkS (row:List V) (q:Nds) (N:Nat) (e:E) (o:O):Prop where
 e2:e 2=.pt 2 0 0
 e6:e 6=.pt 25 0 0
 e8:e 8=.pt 8 0 0
 o2:o 2=some (.row 15 [[.i .i64 0,.i .u64 0,.i .u64 0,.i .u64 0,.i .u64 0,.nil,.i .i64 0,.i .i64 0,.nil,.nil,.nil,.nil,.nil,.nil,.bo false]])
 o8:o 8=some (.row 15 [row])
 f0:Own o 2000 1 ((srtN q.first).map inC)
def QdD (n:Nd) (h:okN n) (hc:cntN n≤900) (hpl:plOk (plT (Qb n))=true):Pu F 13 [.ag (cel n)] (.tp [.ag (auC (Qf (Qb n))),.i .i64 0]):=by
 have hO:=Qj8 n h hc;rw[hpl,if_pos rfl] at hO;obtain⟨hso,hcn⟩:=Ys n h OM;generalize Qb n=t at hO hso hcn hpl ⊢;have hW:=DL t hso 0 0 [] OM OM;obtain⟨w1,w2,w3,w4⟩:=JT t 0 0 [];have hk:=wk0 t hso.2;have hls:=hk.ls;have hfl:=hk.f;have hll:=hk.l;have hee:=hk.e;have hq:∀ x y z,(wk t 0 0 []).first=x→(wk t 0 0 []).last=y→(wk t 0 0 []).L=z→True:=fun _ _ _ _ _ _=>trivial;obtain⟨tk,ts,tp,tl,th⟩:=t;have hN1:(plT (.mk tk ts tp tl th)).sets.length≤41:=by
  simp only[plOk,Bool.and_eq_true,decide_eq_true_eq] at hpl;exact hpl.1
 simp only[Qf,auC];simp only[mpR] at hO;generalize hwq:wk (.mk tk ts tp tl th) 0 0 []=q at *;generalize hpq:plT (.mk tk ts tp tl th)=T at *;obtain⟨S,Cs,R⟩:=T;simp only at hls hN1;simp only[mpC] at hO ⊢;rw[QZ] at hO hW ⊢;simp only[nd8,List.cons_append,List.nil_append] at hO hW ⊢;refine Qh e13 rfl rfl (by simp only[go_sem,Bool.and_true]) ?_;dsimp only[fn13,c13];have hNp:(0:Int)≤(S.length:Int):=by omega
 refine RN trivial ?_;refine U_pc (vs:=[.ag (cel n)]) (ws:=[.ag (cel n)]) (Z0) (Zp (by simp only[List.all_cons,List.all_nil,Bool.and_true,go_sem])) (Bool.or_eq_true_iff.2 (.inl (by simp only[clos,List.all_cons,List.all_nil,Bool.and_true,go_sem]))) ?_ hO ?_
 ·simp only[go_sem,Qc0,QdI,Qfw,Bool.and_true]
 refine RN trivial ?_;refine QhK hW (Z0) (by simp only[go_sem,Bool.and_true]) (Z0) (Zr0) fun o1 g0 g1 g2 g3 g4=>?_;have k2:o1 2=some (.row 15 [[.i .i64 0,.i .u64 0,.i .u64 0,.i .u64 0,.i .u64 0,.nil,.i .i64 0,.i .i64 0,.nil,.nil,.nil,.nil,.nil,.nil,.bo false]]):=by rw[g4 2 LM LM LM LM];simp only[go_sem]
 have k4:o1 4=some (.row 11 [[.i .i64 tk,.i .u64 (ts 0),.i .u64 (ts 1),.i .u64 (ts 2),.i .u64 (ts 3),.sl (tp.map cel),.i .i64 tl,.i .i64 th,.sl (S.map u4),.sl (Cs.map scC),.sl (R.map lsC)]]):=by rw[g4 4 LM LM LM LM];simp only[go_sem]
 clear g4;have hqL:=wk_L (.mk tk ts tp tl th) 0 0 [] OM;rw[hwq] at hqL;simp only[List.length_nil] at hqL;generalize hNN:S.length=N at *;refine RT (Ad3 k2 k4 hNN) ?_;refine Qfo (n:=N) (c:=N) (by (simp only[hNp,Int.toNat_natCast,go_sem]<;>rfl)) (by (simp only[hNp,Int.toNat_natCast,go_sem]<;>rfl)) (Nat.le_refl _) ⟨OM,OM⟩ ?_;refine RN trivial ?_;refine Qfo (n:=N) (c:=N) (by (simp only[hNp,Int.toNat_natCast,go_sem]<;>rfl)) (by (simp only[hNp,Int.toNat_natCast,go_sem]<;>rfl)) (Nat.le_refl _) ⟨OM,OM⟩ ?_;have r1:∀ d,(List.replicate N [V.nil]).map (swpL d)=List.replicate N [V.nil]:=fun d=>by rw[List.map_replicate];rfl
 have r2:∀ d,(List.replicate N [V.bo false]).map (swpL d)=List.replicate N [V.bo false]:=fun d=>by rw[List.map_replicate];rfl
 refine RN (Ad2 g0 (Ad5 g1 k2 k4 r1 r2)) ?_;refine Qhw 2000 (l0:=q.first) OM (Z0) (by (repeat first|with_reducible assumption|refine .up rfl ?_|refine .sw rfl ?_|refine .swN rfl ?_)) fun o2 s1 s2=>?_;have hfe:ownV 2000 1 (q.first.map inC)=ownV 2000 1 ((srtN q.first).map inC):=Qbu (by simp [srtN]);have t2:o2 2=some (.row 15 [[.i .i64 0,.i .u64 0,.i .u64 0,.i .u64 0,.i .u64 0,.nil,.i .i64 0,.i .i64 0,.nil,.nil,.nil,.nil,.nil,.nil,.bo false]]):=by rw[s2 _ LM];simp only[k2,go_sem]
 have t7:o2 7=some (.row 3 [[ownV 2000 1 ((srtN q.first).map inC),ownV 2001 1 (q.last.map inC),.bo q.empty]]):=by rw[s2 _ LM];simp only[hfe,go_sem]
 have t8:o2 8=some (.row 15 [[.i .i64 tk,.i .u64 (ts 0),.i .u64 (ts 1),.i .u64 (ts 2),.i .u64 (ts 3),.sl (tp.map cel),.i .i64 tl,.i .i64 th,.sl (S.map u4),.sl (Cs.map scC),.sl (R.map lsC),ownV 2000 1 ((srtN q.first).map inC),.rw 36 1 0 N,.rw 40 1 0 N,.bo q.empty]]):=by rw[s2 _ LM];simp only[hfe,go_sem]
 have t25:o2 25=some (.row 2 [[.i .i64 q.next,.mp 23]]):=by rw[s2 _ LM];simp only[g0,go_sem]
 have t23:o2 23=some (egM q.L):=by rw[s2 _ LM];simp only[g1,go_sem]
 have t36:o2 36=some (.row 1 (mvR (fun _=>[]) 0 N)):=by rw[s2 _ LM,Qcb];simp only[r1,go_sem]
 have t40:o2 40=some (.row 1 (lsR N [])):=by rw[s2 _ LM,QgP];simp only[r2,go_sem]
 have tl1:Own o2 2001 1 (q.last.map inC):=by
  refine Own.at ?_ (s2 2001 LM);(repeat first|with_reducible assumption|refine .up rfl ?_|refine .sw rfl ?_|refine .swN rfl ?_)
 clear s2 g0 g1 g2 g3 k2 k4 r1 r2 hfe;have sl:=ZC 2001 1 (q.last.map inC);rw[List.length_map] at sl;simp only[JZ] at sl;refine RN (Ad2 t7 sl) ?_;have hrow:∀ row:List V,row=[.i .i64 tk,.i .u64 (ts 0),.i .u64 (ts 1),.i .u64 (ts 2),.i .u64 (ts 3),.sl (tp.map cel),.i .i64 tl,.i .i64 th,.sl (S.map u4),.sl (Cs.map scC),.sl (R.map lsC),ownV 2000 1 ((srtN q.first).map inC),.rw 36 1 0 N,.rw 40 1 0 N,.bo q.empty]→True:=fun _ _=>trivial;clear hrow;refine Z4 (fun e o=>MkS [.i .i64 tk,.i .u64 (ts 0),.i .u64 (ts 1),.i .u64 (ts 2),.i .u64 (ts 3),.sl (tp.map cel),.i .i64 tl,.i .i64 th,.sl (S.map u4),.sl (Cs.map scC),.sl (R.map lsC),ownV 2000 1 ((srtN q.first).map inC),.rw 36 1 0 N,.rw 40 1 0 N,.bo q.empty] q N e o∧o 25=some (.row 2 [[.i .i64 q.next,.mp 23]])∧o 23=some (egM q.L)∧o 36=some (.row 1 (mvR (fun _=>[]) 0 N))∧o 40=some (.row 1 (lsR N q.last))) ?_ ?_
 ·refine U_lp (fun r e o=>∃ i:Nat,i+r=q.last.length∧e 48=ownV 2001 1 (q.last.map inC)∧e 49=.i .i64 q.last.length∧e 50=.i .i64 i∧e 2=.pt 2 0 0∧e 6=.pt 25 0 0∧e 8=.pt 8 0 0∧o 40=some (.row 1 (lsR N (q.last.take i)))∧(∀ t,t≠40→o t=o2 t)) (k:=q.last.length) ?_ (Qa F) ?_
  ·exact⟨0,OM,Z0,Z0,Zr0,Z0,Z0,Z0,t40,fun _ _=>rfl⟩
  rintro r e o ⟨i,hir,r48,r49,r50,r2,r6,r8,m40,mo⟩;have m8:=mo 8 LM;rw[t8] at m8;dsimp only[QkN];refine RN (Ad2 r49 r50) ?_;refine Qv (q:=decide ((i:Int) < (q.last.length:Int))) (Z0) (fun hc=>?_) (fun hc=>?_)
  ·have hi:i < q.last.length:=by simpa using hc
   have hpos:(0:Int)≤(i:Int):=by omega
   have hne:q.last≠[]:=fun hh=>by rw[hh] at hi;simp at hi
   have m1:=mo 2001 LM;rw[tl1.h (W9 hne)] at m1;have hxi:(q.last.map inC)[i]?=some [.i .i64 q.last[i]]:=by rw[List.getElem?_map,List.getElem?_eq_getElem hi];rfl
   have r48':e 48=.rw 2001 1 0 q.last.length:=by rw[r48,QC hne]
   have hpN:q.last[i] < N:=by have:=hll _ (List.getElem_mem hi);omega
   have hpos2:(0:Int)≤(q.last[i]:Int):=by omega
   have hil:((i:Int) < (q.last.length:Int))=True:=by simp;omega
   have hpl2:((q.last[i]:Int) < (N:Int))=True:=by simp;omega
   have hw:IntKind.i64.wrap ((i:Int)+1)=((i+1:Nat):Int):=by rw[Qi OM OM];rfl
   have hgl:(lsR N (q.last.take i))[q.last[i]]?=some [.bo ((q.last.take i).contains q.last[i])]:=by simp [lsR,hpN]
   have hse:(lsR N (q.last.take i)).set q.last[i] [.bo true]=lsR N (q.last.take (i+1)):=by
    rw[QiD _ _ _ hpN,List.take_add_one,List.getElem?_eq_getElem hi];rfl
   refine RT (Ad2 r48' (Ad5 r50 r8 m1 m8 (Ad5 m40 hxi hpos hil (Ad5 hpos2 hpl2 hgl hse hw)))) ?_
   refine⟨r - 1,OM,i+1,OM,Z1 r48,Z1 r49,Z0,Z1 r2,Z1 r6,Z1 r8,Z0,fun t ht=>?_⟩
   show (if t=40 then _ else o t)=_;rw[if_neg ht];exact mo t ht
  ·have hi:i=q.last.length:=by
    have:¬ i < q.last.length:=by simpa using hc
    omega
   subst hi;rw[List.take_length] at m40;refine RN trivial ?_
   refine⟨rfl,⟨Z1 r2,Z1 r6,Z1 r8,by rw[mo _ LM];exact t2,m8,s1.at (mo _ LM)⟩,by rw[mo _ LM];exact t25,by rw[mo _ LM];exact t23,by rw[mo _ LM];exact t36,m40⟩
 clear t2 t7 t8 t25 t23 t36 t40 tl1 sl s1;generalize hrow:[V.i .i64 tk,.i .u64 (ts 0),.i .u64 (ts 1),.i .u64 (ts 2),.i .u64 (ts 3),.sl (tp.map cel),.i .i64 tl,.i .i64 th,.sl (S.map u4),.sl (Cs.map scC),.sl (R.map lsC),ownV 2000 1 ((srtN q.first).map inC),.rw 36 1 0 N,.rw 40 1 0 N,.bo q.empty]=row;rintro e o ⟨⟨e2,e6,e8,m2,m8,f0⟩,m25,m23,m36,m40⟩;have hrl:row.length=15:=by rw[← hrow];rfl
 have hr12:row[12]?=some (.rw 36 1 0 N):=by rw[← hrow];rfl
 have hrs:∀ d,(d==36)=false→(d==40)=false→(d==2000)=false→swpL d row=row:=fun d h1 h2 h3=>by
  have g1:((36:Nat)==d)=false:=by simp at h1 ⊢;omega
  have g2:((40:Nat)==d)=false:=by simp at h2 ⊢;omega
  have g3:((2000:Nat)==d)=false:=by simp at h3 ⊢;omega
  rw[← hrow];simp only[g1,g2,g3,go_sem]
 have hel:(encL egV (q.L.map egP)).length=q.L.length:=by simp [encL]
 refine RN (Ad2 e6 m25) ?_;refine Qmk (s:=23) (L:=encL egV (q.L.map egP)) (Z0) (Zr1 m23) RM ?_;have hs63:(mvR (fun _=>[]) 0 N).map (swpL 63)=mvR (fun _=>[]) 0 N:=K3 _ _ _ _ (.inl OM);have hl63:∀ d l,(lsR N l).map (swpL d)=lsR N l:=fun d l=>by simp [lsR,swpL,swp]
 refine RN trivial ?_;refine Z4 (fun e o=>∃ f,(∀ p,(f p).Perm (Q8 q.L p))∧(∀ p,(f p).length≤q.L.length)∧MkS row q N e o∧o 36=some (.row 1 (mvR f 0 N))∧MO o f N∧o 40=some (.row 1 (lsR N q.last))) ?_ ?_
 ·refine U_lp (fun r e o=>∃ seen:List Nat,r+seen.length=q.L.length∧seen.Nodup∧(∀ j∈seen,j < q.L.length)∧e 63=.it 63∧MkS row q N e o∧o 63=some (.iter (some 23) (encL egV (q.L.map egP)).length seen (encL egV (q.L.map egP)).length)∧o 23=some (egM q.L)∧o 36=some (.row 1 (mvR (metM q.L seen) 0 N))∧MO o (metM q.L seen) N∧o 40=some (.row 1 (lsR N q.last))) (k:=q.L.length) ?_ (Qa F) ?_
  ·refine⟨[],SM,List.nodup_nil,SM,Z0,⟨Z1 e2,Z1 e6,Z1 e8,Z1 m2,by simp only[m8,hrs 63 RM RM RM,go_sem],by (repeat first|with_reducible assumption|refine .up rfl ?_|refine .sw rfl ?_|refine .swN rfl ?_)⟩,Z0,Z1 m23,?_,?_,Z2 m40 hl63⟩
   ·have:metM q.L []=fun _=>[]:=rfl
    rw[this];simp only[m36,hs63,go_sem]
   ·exact MO.nil
  clear m2 m8 f0 m25 m23 m36 m40 e2 e6 e8 hs63;rintro r e o ⟨seen,hrs2,hnd,hsl,e63,⟨e2,e6,e8,m2,m8,f0⟩,m63,m23,m36,mo,m40⟩;dsimp only[QjZ];refine RN trivial ?_;refine QmA (s:=63) (mid:=23) (L:=encL egV (q.L.map egP)) (seen:=seen) (Z1 e63) m63 m23 (fun hall=>?_) (fun j kv vv hj hns=>?_)
  ·refine RN trivial ?_;rw[hel] at hall
   refine⟨rfl,metM q.L seen,fun p=>Qe2 hnd hsl hall p,fun p=>Nat.le_trans (QaC _ _ _) OM,⟨Z1 e2,Z1 e6,Z1 e8,m2,m8,f0⟩,m36,mo,m40⟩
  ·obtain⟨⟨k0,c0⟩,hjq,hkv⟩:∃ x,q.L[j]?=some x∧(egV x.1,V.i .i64 x.2)=(kv,vv):=by
    simp only[encL,List.getElem?_map,Option.map_map] at hj;obtain⟨x,h1,h2⟩:=Option.map_eq_some_iff.1 hj
    exact⟨x,h1,h2⟩
   cases hkv;have hjl:j < q.L.length:=(List.getElem?_eq_some_iff.1 hjq).1;have hkN:k0.1 < N:=by
    rcases hee k0 ⟨c0,List.mem_of_getElem? hjq⟩ with⟨_,hh⟩|hh
    ·cases hh
    ·have:=hh.2.1;omega
   obtain⟨kf,kt⟩:=k0;dsimp only at hkN;have hent:=Qj5 (o:=upd o 63 (some (.iter (some 23) (encL egV (q.L.map egP)).length (seen++[j]) (encL egV (q.L.map egP)).length))) (s:=63) (m:=23) (L:=encL egV (q.L.map egP)) (seen:=seen) (j:=j) (Z0) (Zr1 m23) hj;refine RN trivial ?_;refine Ql6 (by simp only[e63,go_sem];exact hent) ?_;have m23':=m23;have hs11:(mvR (metM q.L seen) 0 N).map (swpL 11)=mvR (metM q.L seen) 0 N:=K3 _ _ _ _ (.inl OM);have hs80:(mvR (metM q.L seen) 0 N).map (swpL 80)=mvR (metM q.L seen) 0 N:=K3 _ _ _ _ (.inl OM);have hgp:(mvR (metM q.L seen) 0 N)[kf]?=some [ownV (6000+kf) 3 ((metM q.L seen kf).map mvC)]:=by
    have:=Xu (metM q.L seen) N 0 kf hkN
    rw[Nat.zero_add] at this;exact this
   have hpk:(0:Int)≤(kf:Int):=by omega
   have hkl:((kf:Int) < (N:Int))=True:=by simp;omega
   obtain⟨kt1,kt2,kt3⟩:=kt;simp only[egV,mvC];obtain⟨b,hb⟩:∃ b,b=6000+kf:=⟨_,rfl⟩;have b1:((2:Nat)==b)=false:=by simp;omega
   have b2:((8:Nat)==b)=false:=by simp;omega
   have b3:((11:Nat)==b)=false:=by simp;omega
   have b4:((23:Nat)==b)=false:=by simp;omega
   have b5:((25:Nat)==b)=false:=by simp;omega
   have b6:((36:Nat)==b)=false:=by simp;omega
   have b7:((40:Nat)==b)=false:=by simp;omega
   have b8:((63:Nat)==b)=false:=by simp;omega
   have b9:((80:Nat)==b)=false:=by simp;omega
   have b10:((2000:Nat)==b)=false:=by simp;omega
   have nb:=hrs b (by simp;omega) (by simp;omega) (by simp;omega);rw[← hb] at hgp;have b11:(b==80)=false:=by simp;omega
   have b12:(b==11)=false:=by simp;omega
   have b13:(b==63)=false:=by simp;omega
   have n11:=hrs 11 RM RM RM;have n80:=hrs 80 RM RM RM;refine RT (Ad5 e8 m8 m36 n11 (Ad5 n80 hrl hr12 hs11 (Ad5 hs80 hgp hpk hkl b11))) ?_;have hfk:=mo kf hkN;rw[← hb] at hfk;have hfun:metM q.L (seen++[j])=fun p=>if p=kf then metM q.L seen kf++[⟨kt1,kt2,kt3⟩] else metM q.L seen p:=by
    funext p
    rw[Qb0 hjq];by_cases hp:p=kf
    ·subst hp;simp
    ·simp [hp]
   have hse:=Qgl (metM q.L seen) N kf (metM q.L seen kf++[(⟨kt1,kt2,kt3⟩:Mv)]) hkN;rw[← hfun,← hb] at hse;have hap:(metM q.L seen kf++[(⟨kt1,kt2,kt3⟩:Mv)]).map mvC=(metM q.L seen kf).map mvC++[[.i .i64 kt1,.i .i64 kt2,.bo kt3]]:=by rw[List.map_append];rfl
   have hms:∀ o':O,MO o' (metM q.L seen) N→MO (upd (swpO b o') b (some (.row 3 ((metM q.L seen kf).map mvC++[[.i .i64 kt1,.i .i64 kt2,.bo kt3]])))) (metM q.L (seen++[j])) N:=fun o' h'=>by
    have:=MO.set (o:=o') (l:=metM q.L seen kf++[(⟨kt1,kt2,kt3⟩:Mv)]) h' hkN
    rw[← hfun,← hb,hap] at this;exact this
   have hslt:seen.length < q.L.length:=by
    have:=DG q.L.length (j::seen) (List.nodup_cons.2 ⟨hns,hnd⟩) (fun x hx=>by
     rcases List.mem_cons.1 hx with rfl|hx
     ·exact hjl
     ·exact hsl x hx)
    simp only[List.length_cons] at this;omega
   rw[hap] at hse;have hg2:((mvR (metM q.L seen) 0 N).map (swpL b))[kf]?=some [swp b (ownV b 3 ((metM q.L seen kf).map mvC))]:=by rw[List.getElem?_map,hgp];rfl
   have hml:=QaC q.L seen kf;refine QgD b (L:=(metM q.L seen kf).map mvC) (ys:=[[.i .i64 kt1,.i .i64 kt2,.bo kt3]]) (Z1 b11) ?_ (by (simp only[src,go_sem]<;>rfl)) SM SM OM ⟨by simp;omega,OM⟩ (Q4 _ hfk.c) rfl ?_ ?_
   ·exact (Own.up b11 (Own.sw b11 (Own.up b12 (Own.up b12 (Own.sw b12 (Own.up b13 hfk)))))).h
   ·refine QfC (v:=.rw 36 1 0 N) 69 ?_ ?_ rfl LM ?_ ?_ (W8 (v:=.i .i64 kf) ?_ ?_ rfl XY)
    ·simp only[m8,n11,n80,hr12,go_sem]
    ·simp only[m8,n11,n80,nb,hr12,b2,go_sem]
    ·simp only[go_sem]
    ·simp only[b6,go_sem]
    ·simp only[go_sem]
    ·simp only[b3,go_sem]
   ·refine RT (Ad5 e8 m8 m36 n11 (Ad5 n80 nb hrl hr12 (Ad5 hs11 hs80 hgp hg2 (Ad5 hse hpk hkl b1 (Ad5 b2 b3 b4 b5 (Ad5 b6 b7 b8 b9 b10)))))) ?_
    refine⟨r - 1,OM,seen++[j],by simp;omega,?_,?_,Z2 e63 b8,⟨Z2 e2 b1,Z2 e6 b5,Z2 e8 b2,Z2 m2 b1,by simp only[m8,n11,n80,nb,b2,go_sem],?_⟩,Z2 b8 b4,Z2 m23 b4,Z0,?_,Z3 m40 hl63 b7⟩
    ·exact List.nodup_append.2 ⟨hnd,SM,fun a ha c hc=>by simp at hc;subst hc;intro h;subst h;exact hns ha⟩
    ·intro a ha;rcases List.mem_append.1 ha with ha|ha
     ·exact hsl a ha
     ·simp at ha;rw[ha];exact hjl
    ·refine Own.up RM (Own.up b10 (Own.sw b10 ?_));(repeat first|with_reducible assumption|refine .up rfl ?_|refine .sw rfl ?_|refine .swN rfl ?_)
    ·refine MO.up OM (hms _ ?_);repeat (first|exact mo|refine MO.up OM ?_|refine MO.sw OM ?_)
 clear m2 m8 f0 m25 m23 m36 m40 e2 e6 e8 hs63 hO hW;rintro e o ⟨f,hfp,hfl2,⟨e2,e6,e8,m2,m8,f0⟩,m36,mo,m40⟩;have hqb:q.L.length < 4611686018427387904:=by omega
 refine RN (Ad4 e8 m8 hr12 hrl) ?_;refine Z4 (fun e o=>e 2=.pt 2 0 0∧e 8=.pt 8 0 0∧o 2=some (.row 15 [[.i .i64 0,.i .u64 0,.i .u64 0,.i .u64 0,.i .u64 0,.nil,.i .i64 0,.i .i64 0,.nil,.nil,.nil,.nil,.nil,.nil,.bo false]])∧o 8=some (.row 15 [row])∧Own o 2000 1 ((srtN q.first).map inC)∧o 36=some (.row 1 (mvR f 0 N))∧MO o (fun p=>srtM (f p)) N∧o 40=some (.row 1 (lsR N q.last))) ?_ ?_
 ·refine U_lp (fun r e o=>∃ i:Nat,i+r=N∧e 84=.rw 36 1 0 N∧e 85=.i .i64 N∧e 86=.i .i64 i∧e 2=.pt 2 0 0∧e 8=.pt 8 0 0∧o 2=some (.row 15 [[.i .i64 0,.i .u64 0,.i .u64 0,.i .u64 0,.i .u64 0,.nil,.i .i64 0,.i .i64 0,.nil,.nil,.nil,.nil,.nil,.nil,.bo false]])∧o 8=some (.row 15 [row])∧Own o 2000 1 ((srtN q.first).map inC)∧o 36=some (.row 1 (mvR f 0 N))∧MO o (fun p=>if p < i then srtM (f p) else f p) N∧o 40=some (.row 1 (lsR N q.last))) (k:=N) ?_ (Qa F) ?_
  ·exact⟨0,OM,Z0,Z0,Zr0,Z1 e2,Z1 e8,m2,m8,f0,m36,fun p hp=>by simpa using mo p hp,m40⟩
  clear m2 m8 f0 m36 m40 e2 e6 e8 mo;rintro r e o ⟨i,hir,r84,r85,r86,e2,e8,m2,m8,f0,m36,mo,m40⟩;dsimp only[Qi4];refine RN (Ad2 r85 r86) ?_;refine Qv (q:=decide ((i:Int) < (N:Int))) (Z0) (fun hc=>?_) (fun hc=>?_)
  ·have hi:i < N:=by simpa using hc
   have hpos:(0:Int)≤(i:Int):=by omega
   have hil:((i:Int) < (N:Int))=True:=by simp;omega
   have hgi:(mvR f 0 N)[i]?=some [ownV (6000+i) 3 ((f i).map mvC)]:=by
    have:=Xu f N 0 i hi
    rw[Nat.zero_add] at this;exact this
   have hw:IntKind.i64.wrap ((i:Int)+1)=((i+1:Nat):Int):=by rw[Qi OM OM];rfl
   have hoi:Own o (6000+i) 3 ((f i).map mvC):=by
    have:=mo i hi
    simpa using this
   refine RT (Ad2 r84 (Ad5 r86 m36 hgi hpos hil)) ?_;refine QhQ (6000+i) (l0:=f i) (by have:=hfl2 i;omega) (Z0) hoi fun o1 s1 s2=>?_;refine RN (Ad2 r86 hw) ?_
   refine⟨r - 1,OM,i+1,OM,Z1 r84,Z1 r85,Z0,Z1 e2,Z1 e8,by rw[s2 _ OM];exact m2,by rw[s2 _ OM];exact m8,f0.at (s2 _ OM),by rw[s2 _ OM];exact m36,fun p hp=>?_,by rw[s2 _ OM];exact m40⟩
   dsimp only;by_cases hpi:p=i
   ·subst hpi;rw[if_pos OM];exact s1
   ·have hm:=(mo p hp).at (s2 (6000+p) OM);dsimp only at hm;by_cases hlt:p < i
    ·rw[if_pos hlt] at hm;rw[if_pos OM];exact hm
    ·rw[if_neg hlt] at hm;rw[if_neg OM];exact hm
  ·have hi:i=N:=by
    have:¬ i < N:=by simpa using hc
    omega
   subst hi;refine RN trivial ?_
   exact⟨rfl,Z1 e2,Z1 e8,m2,m8,f0,m36,fun p hp=>by have:=mo p hp;dsimp only at this;rw[if_pos hp] at this;exact this,m40⟩
 clear m2 m8 f0 m36 m40 e2 e6 e8 mo;rintro e o ⟨e2,e8,m2,m8,f0,m36,mo,m40⟩;subst hrow;refine RN (Ad4 e2 e8 m2 m8) ?_;have e1:∀ p,srtM (f p)=srtM (Q8 q.L p):=fun p=>Qbn (hfp p);have hcong:mvR f 0 N=mvR (fun p=>srtM (Q8 q.L p)) 0 N:=Vj (fun p=>by rw[← e1 p];simp [srtM]) N 0;simp only[e1] at mo;rw[hcong] at m36;generalize hrow:some (Ob.row 15 _)=row;have z1:frzU 22 (upd o 2 row) (ownV 2000 1 ((srtN q.first).map inC))=_:=YT (f0.up RM) (Qfz _) 20;have z2:frzU 22 (upd o 2 row) (.rw 36 1 0 N)=some (.sl (((List.range N).map fun p=>srtM (Q8 q.L p)).map mlC)):=QiY (Z1 m36) (mo.up (.inl OM));have z3:frzU 22 (upd o 2 row) (.rw 40 1 0 N)=some (.sl (((List.range N).map fun p=>q.last.contains p).map boC)):=by
  have h40:(upd o 2 row) 40=some (.row 1 (((List.range N).map fun p=>q.last.contains p).map boC)):=by
   rw[List.map_map]
   have:(upd o 2 row) 40=some (.row 1 (lsR N q.last)):=by simp only[m40,go_sem]
   exact this
  have hs:src (upd o 2 row) (.rw 40 1 0 N)=some (((List.range N).map fun p=>q.last.contains p).map boC):=by
   simp only[src,h40];rw[if_pos SM];simp [List.take_of_length_le]
  have hm:((((List.range N).map fun p=>q.last.contains p).map boC).mapM fun c:List V=>c.mapM (frzU 21 (upd o 2 row)))=some _:=ZR fun c hc v hv=>by
   obtain⟨x,_,rfl⟩:=List.mem_map.1 hc;simp [boC] at hv;subst hv;rfl
  show (match src (upd o 2 row) (.rw 40 1 0 N) with
   | some es=>(es.mapM fun c:List V=>c.mapM (frzU 21 (upd o 2 row))).map V.sl
   | none=>none)=_
  rw[hs];dsimp only;rw[hm];rfl
 refine DS ?_;simp only[List.mapM_cons,z1,z2,z3];rfl
end Go.Proofs.YtklbhcjmaeedhaaGreatDoor
