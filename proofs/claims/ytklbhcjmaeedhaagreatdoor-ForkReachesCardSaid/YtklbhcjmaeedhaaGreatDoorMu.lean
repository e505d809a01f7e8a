import Derived.Test.YtklbhcjmaeedhaaGreatDoorMc

namespace Go.Proofs.YtklbhcjmaeedhaaGreatDoor
set_option linter.all false
variable {K:E→O→Prop} {l:List Stp} {a b:C} {q ag p neg gh:Bool} {f f':Nat→Nat} {j d sz n s g t k h nm byt len:Nat} {i:I} {x r u w:V} {cs z vs ws ds xs pre post:List V} {y:Od} {es fs L L' es' ys:List (List V)} {as:List Od} {α:Type} {cl:Qg} {e e' e1:E} {o o' o1:O} {fn:Fn} {ks:List Lf} {D N St N' bs:List Nat} {K':V→O→Prop} {res:V→V} {A A' base base':List (Nat × Ob)} {ps:List (Nat × Od)}
section
variable {cl:Qg} {e:E} {o:O}
def C_sk {K:X→E→O→Prop} (h:K .nx e o):wpC cl .sk K e o:=h
def C_rg {K:X→E→O→Prop} (h:wpR cl l (K .nx) e o):wpC cl (.rg l) K e o:=.here h
def C_sq {K:X→E→O→Prop} (h:wpC cl a (seqX (wpC cl b K) K) e o):wpC cl (.sq a b) K e o:=h
def C_bk {id:Nat} {K:X→E→O→Prop} (h:wpC cl a (blkX id K) e o):wpC cl (.bk id a) K e o:=h
def C_ex {id:Nat} {K:X→E→O→Prop} (h:K (.ex id) e o):wpC cl (.ex id) K e o:=h
def C_rt {K:X→E→O→Prop} (h:K .rt e o):wpC cl .rt K e o:=h
def C_cd {c:Od} {K:X→E→O→Prop} (hc:c.ev e=.bo q) (h1:q=true→wpC cl a K e o) (h2:q=false→wpC cl b K e o):wpC cl (.cd c a b) K e o:=by
 simp only[wpC,hc];cases q
 ·exact h2 rfl
 ·exact h1 rfl
def Qde {c:Od} {K:X→E→O→Prop} (hc:c.ev e=.bo true) (h1:wpC cl a K e o):wpC cl (.cd c a b) K e o:=C_cd hc (fun _=>h1) (fun h=>by cases h)
def QbC {c:Od} {K:X→E→O→Prop} (hc:c.ev e=.bo false) (h1:wpC cl b K e o):wpC cl (.cd c a b) K e o:=C_cd hc (fun h=>by cases h) (fun _=>h1)
def X_nx {f:E→O→Prop} {K:X→E→O→Prop} (h:f e o):seqX f K .nx e o:=h
def X_ex {f:E→O→Prop} {K:X→E→O→Prop} {id:Nat} (h:K (.ex id) e o):seqX f K (.ex id) e o:=h
def X_rt {f:E→O→Prop} {K:X→E→O→Prop} (h:K .rt e o):seqX f K .rt e o:=h
def B_nx {id:Nat} {K:X→E→O→Prop} (h:K .nx e o):blkX id K .nx e o:=h
def Jm {id:Nat} {K:X→E→O→Prop} (h:K .nx e o):blkX id K (.ex id) e o:=by simpa [blkX] using h
def B_ne {id:Nat} {K:X→E→O→Prop} (hj:(j==id)=false) (h:K (.ex j) e o):blkX id K (.ex j) e o:=by
 have:j≠id:=by simpa using hj
 simpa [blkX,this] using h
def B_rt {id:Nat} {K:X→E→O→Prop} (h:K .rt e o):blkX id K .rt e o:=h
def QcR (h:K e o):wpR cl [] K e o:=h
def R_W {d:Option Nat} (h:W cl e o (fun v o'=>wpR cl l K (put e d v) o') i):wpR cl (⟨d,none,i,[]⟩::l) K e o:=by
 show WS cl _ e o _;simpa [WS,stb] using h
def R_q {q:Q} {v:V} (hv:qv e q=some v) (h:wpR cl l K (upd e d v) o):wpR cl (⟨some d,none,.q q,[]⟩::l) K e o:=by
 refine R_W ?_;simp only[W,rv,hv];exact h
def R_ld {x:Od} {v:V} (hv:rv e o (.ld sz ag x)=some v) (h:wpR cl l K (upd e d v) o):wpR cl (⟨some d,none,.ld sz ag x,[]⟩::l) K e o:=by
 refine R_W ?_;simp only[W,hv];exact h
def QcM {m n:Bool} {x:Od} {v:V} (hv:rv e o (.isn m n x)=some v) (h:wpR cl l K (upd e d v) o):wpR cl (⟨some d,none,.isn m n x,[]⟩::l) K e o:=by
 refine R_W ?_;simp only[W,hv];exact h
def Qa1 {x:Od} {v:V} (hv:x.ev e=v) (hc:v.cells=cs) (hne:cs.isEmpty=false) (h:∀ id,o id=none→wpR cl l K (upd e d (.pt id 0 0)) (upd o id (some (.row cs.length [cs])))) :
  wpR cl (⟨some d,none,.box x,[]⟩::l) K e o:=by
 refine R_W ?_;subst hv;subst hc
 exact⟨fun h0=>(by rw[h0] at hne;cases hne),h⟩
def QmD (h:∀ id,o id=none→wpR cl l K (upd e d (.pt id 0 0)) (upd o id (some (.row z.length [z])))) :
  wpR cl (⟨some d,none,.alc z,[]⟩::l) K e o:=R_W h
def Qif {x:Od} {v:V} {id i:Nat} (hx:x.ev e=.pt id i j) (ho:o id=some (.row s es)) (hi:es[i]?=some cs) (hv:y.ev e=v) (hc:v.cells=vs) (hl:vs.length=sz) (hj:j+sz≤cs.length)
  (h:wpR cl l K e (upd o id (some (.row s (es.set i (splice j vs cs)))))):wpR cl (⟨none,none,.sto sz x y,[]⟩::l) K e o:=by
 refine R_W ?_;subst hv;subst hc;simp only[W,hx,ho,hi]
 exact⟨hl,hj,h⟩
def R_pc (hvs:as.map (Od.ev e)=vs) (hf:fzs o vs=some ws) (hc:(clos vs||flat FZ r)=true) (hcall:cl g ws emp (fun v o'=>fz o' v=some r))
  (h:wpR cl l K (upd e d r) o):wpR cl (⟨some d,none,.pc g as,[]⟩::l) K e o:=by
 refine R_W ?_;subst hvs
 exact⟨r,⟨ws,hf,hcall,hc⟩,h⟩
def R_pv {x:Od} (hx:x.ev e=.fn g cs) (hvs:as.map (Od.ev e)++cs=vs) (hf:fzs o vs=some ws) (hc:(clos vs||flat FZ r)=true) (hcall:cl g ws emp (fun v o'=>fz o' v=some r))
  (h:wpR cl l K (upd e d r) o):wpR cl (⟨some d,none,.pv x as,[]⟩::l) K e o:=by
 refine R_W ?_;subst hvs
 refine⟨r,?_,h⟩
 rw[hx]
 exact⟨ws,hf,hcall,hc⟩
def Z9 {g:Nat→α} {x:α} (h:g t=x):upd g t x=g:=by
 funext k
 simp only[upd];split
 ·rename_i hk;rw[hk,h]
 ·rfl
def Qkr {K:X→E→O→Prop} (hc:e t=.bo q) (h1:q=true→wpC cl a K (upd e t (.bo true)) o) (h2:q=false→wpC cl b K (upd e t (.bo false)) o):wpC cl (.cd (.t t) a b) K e o:=by
 refine C_cd (q:=q) hc (fun hq=>?_) (fun hq=>?_)
 ·have:=h1 hq
  rw[Z9 (by rw[hc,hq])] at this;exact this
 ·have:=h2 hq
  rw[Z9 (by rw[hc,hq])] at this;exact this
def R_gt {d:Option Nat} (ht:e t=.bo p) (h:wpR cl (⟨d,none,i,[]⟩::l) K e o):wpR cl (⟨d,some (t,p),i,[]⟩::l) K e o:=by
 show WS cl _ e o _;have h:WS cl _ e o _:=h;simp only[WS,ht,gdV,if_true] at h ⊢;exact h
def R_gs {d:Option Nat} (ht:e t=.bo q) (hq:(q==p)=false) (h:wpR cl l K (put e d (.tp [])) o):wpR cl (⟨d,some (t,p),i,[]⟩::l) K e o:=by
 show WS cl _ e o _;have hq:q≠p:=by simpa using hq
 simp only[WS,ht,gdV,if_neg hq];exact h
def QdH {d:Option Nat} (ht:e t=.bo true) (h:wpR cl l K (put e d (.tp [])) o):wpR cl (⟨d,some (t,false),i,[]⟩::l) K e o:=R_gs ht rfl h
def Qdh {d:Option Nat} (ht:e t=.bo false) (h:wpR cl l K (put e d (.tp [])) o):wpR cl (⟨d,some (t,true),i,[]⟩::l) K e o:=R_gs ht rfl h
def R_gj {d:Option Nat} (ht:e t=.tp vs) (h:wpR cl l K (put e d (.tp [])) o):wpR cl (⟨d,some (t,p),i,[]⟩::l) K e o:=by
 show WS cl _ e o _;simp only[WS,ht,gdV];rw[if_neg (by cases p<;>simp)];exact h
def R_gb {d:Option Nat} (ht:e t=.bo q) (h1:q=p→wpR cl (⟨d,some (t,p),i,[]⟩::l) K (upd e t (.bo p)) o) (h2:q=!p→wpR cl (⟨d,some (t,p),i,[]⟩::l) K (upd e t (.bo !p)) o) :
  wpR cl (⟨d,some (t,p),i,[]⟩::l) K e o:=by
 by_cases hq:q=p
 ·have:=h1 hq
  rw[Z9 (by rw[ht,hq])] at this;exact this
 ·have hq:q=!p:=by cases q<;>cases p<;>simp_all
  have:=h2 hq
  rw[Z9 (by rw[ht,hq])] at this;exact this
def E_1 {s:Rs} {v:V} {K:V→O→Prop} (hv:resV e o s=some v) (h:K v o):endX [s] K .rt e o:=⟨[v],by simp [hv],h⟩
def E_1n {s:Rs} {v:V} {K:V→O→Prop} (hv:resV e o s=some v) (h:K v o):endX [s] K .nx e o:=⟨[v],by simp [hv],h⟩
def E_2 {s t:Rs} {v:V} {K:V→O→Prop} (hv:resV e o s=some v) (hu:resV e o t=some u) (h:K (.tp [v,u]) o):endX [s,t] K .rt e o:=⟨[v,u],by simp [hv,hu],h⟩
def E_2n {s t:Rs} {v:V} {K:V→O→Prop} (hv:resV e o s=some v) (hu:resV e o t=some u) (h:K (.tp [v,u]) o):endX [s,t] K .nx e o:=⟨[v,u],by simp [hv,hu],h⟩
def E_0 {K:V→O→Prop} (h:K (.tp []) o):endX [] K .rt e o:=⟨[],SM,h⟩
def E_0n {K:V→O→Prop} (h:K (.tp []) o):endX [] K .nx e o:=⟨[],SM,h⟩
end
def C_lp {K:X→E→O→Prop} (J:Nat→E→O→Prop) (h0:J k e o) (hcl:Le cl cl)
  (h:∀ k e o,J k e o→wpC cl a (seqX (fun e' o'=>∃ k',k' < k∧J k' e' o') K) e o):wpC cl (.lp a) K e o:=by
 intro J' hJ';have key:∀ k e o,J k e o→J' e o:=by
  intro k;induction k using Nat.strongRecOn with
  | _ k ih =>
   intro e o hJ;refine hJ' e o (Qfy hcl (fun x e o hx=>?_) (h k e o hJ));cases x with
   | nx=>obtain⟨k',h1,h2⟩:=hx;exact ih k' h1 e o h2
   | ex id=>exact hx
   | rt=>exact hx
 exact key k e o h0
def Wy (g:Nat→α) (j:Nat) (y:α):upd g j y j=y:=by simp [upd]
def Qkx (g:Nat→α) (j:Nat) (y:α) (k:Nat) (h:(k==j)=false):upd g j y k=g k:=by
 have:k≠j:=by simpa using h
 simp [upd,this]
def ev_t (e:E) (n:Nat):Od.ev e (.t n)=e n:=rfl
def ev_k (e:E) (v:V):Od.ev e (.k v)=v:=rfl
def Q0 (e:E) (d:Nat) (v:V):put e (some d) v=upd e d v:=rfl
def QeO (e:E) (v:V):put e none v=e:=rfl
def QmF (v:V) (l:List V):ini (v::l) 0=v:=rfl
def QmC (v:V) (l:List V) (n:Nat):ini (v::l) (n+1)=ini l n:=rfl
def Qmj (a b:V) (l:List V):ini (a::b::l) 1=b:=rfl
def Qmo (a b c:V) (l:List V):ini (a::b::c::l) 2=c:=rfl
def QmR (a b c d:V) (l:List V):ini (a::b::c::d::l) 3=d:=rfl
def andI (k:IntKind) (a b:Int):Int:=k.wrap (BitVec.ofInt k.bits a &&& BitVec.ofInt k.bits b).toNat
def orI (k:IntKind) (a b:Int):Int:=k.wrap (BitVec.ofInt k.bits a ||| BitVec.ofInt k.bits b).toNat
def QiX (k:IntKind) (a b:Int):Y7 .and k a b=some (.i k (andI k a b)):=rfl
def Ql7 (k:IntKind) (a b:Int):Y7 .or k a b=some (.i k (orI k a b)):=rfl
def Qla (k:IntKind) (a b:Int):Y7 .add k a b=some (.i k (k.wrap (a+b))):=rfl
def Qk5 (k:IntKind) (a b:Int):Y7 .sub k a b=some (.i k (k.wrap (a - b))):=rfl
def Qj2 (k:IntKind) (a b:Int):Y7 .mul k a b=some (.i k (k.wrap (a*b))):=rfl
def Qjx (k:IntKind) (a b:Int):Y7 .rem k a b=if b=0 then none else some (.i k (a.tmod b)):=rfl
def QkT (k:IntKind) (a b:Int):Y7 .quo k a b=if b=0 then none else some (.i k (k.wrap (a.tdiv b))):=rfl
def QlI (k:IntKind) (a b:Int):Y7 .eql k a b=some (.bo (a==b)):=rfl
def QkD (k:IntKind) (a b:Int):Y7 .neq k a b=some (.bo (a != b)):=rfl
def QjU (k:IntKind) (a b:Int):Y7 .lss k a b=some (.bo (decide (a < b))):=rfl
def QjP (k:IntKind) (a b:Int):Y7 .leq k a b=some (.bo (decide (a≤b))):=rfl
def Qkp (k:IntKind) (a b:Int):Y7 .gtr k a b=some (.bo (decide (a > b))):=rfl
def Qkb (k:IntKind) (a b:Int):Y7 .geq k a b=some (.bo (decide (a≥b))):=rfl
def okd:Nat→V→Bool
 | 0,_=>false
 | n+1,.ag cs=>cs.all (okd n)
 | n+1,.tp cs=>cs.all (okd n)
 | n+1,.fn _ cs=>cs.all (okd n)
 | _+1,.nil=>false
 | _+1,.rw ..=>false
 | _+1,.ra ..=>false
 | _+1,.pt ..=>false
 | _+1,.mp _=>false
 | _+1,.it _=>false
 | _+1,_=>true
def Yr {f:V→Option V}:∀ {cs:List V},(∀ v∈cs,f v=some v)→cs.mapM f=some cs:=by
 intro cs;induction cs with
 | nil=>intro _;rfl
 | cons v cs ih =>
  intro h;simp [h v SM,ih (fun u hu=>h u (by simp [hu]))]
def Qhb:∀ (n:Nat) (v:V),okd n v=true→frz n o v=some v:=by
 intro n;induction n with
 | zero=>intro v h;cases h
 | succ n ih =>
  intro v h;cases v<;>(first|(cases h;done)|rfl|skip);all_goals
   simp only[okd,List.all_eq_true] at h;simp only[frz];rw[Yr fun v hv=>ih v (h v hv)];rfl
def Qm7 {v:V} (h:okd FZ v=true):fz o v=some v:=Qhb _ _ h
def Jk (h:vs.all (okd FZ)=true):fzs o vs=some vs:=Yr fun v hv=>Qm7 (List.all_eq_true.1 h v hv)
def QaV (hvs:as.map (Od.ev e)=vs) (hf:fzs o vs=some ws) (hc:flat FZ r=true) (hcall:cl g ws emp (fun v o'=>fz o' v=some r))
  (h:wpR cl l K (upd e d r) o):wpR cl (⟨some d,none,.pc g as,[]⟩::l) K e o:=R_pc hvs hf (by rw[hc,Bool.or_true]) hcall h
def Yb {F:En} (hf:F g=some fn) {as:List V} {K:V→O→Prop} (hl:as.length=fn.np) (h:wpC (Call F) fn.body (endX fn.res K) (ini as) o):Call F g as o K:=by
 refine QgC ?_;unfold wpF;rw[hf]
 exact⟨hl,h⟩
attribute [go_sem] ev_t ev_k Wy Qkx Q0 QeO QmF Qmj Qmo QmR QmC qv rv resV binV Xg Dt QiX Ql7 Qla Qk5 Qj2 Qjx QkT QlI QkD QjU QjP Qkp Qkb
 eqbV unV fldV extV JZ lenV natV natO slcV adrV ixpV ixqV ixaV mxV nckV isnV Qz prt J3 Yd splice V.cells V.isAg List.getElem?_cons_zero List.getElem?_cons_succ List.length_cons List.length_nil List.map_cons List.map_nil
 List.set_cons_zero List.set_cons_succ Option.map_some if_true if_false Bool.false_eq_true Bool.not_true Bool.not_false bne_self_eq_false Bool.true_bne Bool.false_bne and_self and_true true_and IntKind.bits Nat.min_eq_left
 Nat.zero_add Nat.mul_one Nat.add_zero decide_true decide_false Bool.not_eq_true
attribute [go_sem] reduceCtorEq Nat.reduceBEq Int.reduceLT Int.reduceLE Int.reduceGT Int.reduceGE Int.reduceBEq Int.reduceBNe Int.reduceToNat Int.reduceNeg Int.reducePow Int.reduceAdd Int.reduceSub Int.reduceMul Nat.reduceAdd Nat.reduceMul Nat.reduceLT Nat.reduceLeDiff Nat.reducePow Nat.reduceEqDiff
def Z0 {p:Prop} (h:p:=by simp only[go_sem]):p:=h
def Zr0 {p:Prop} (h:p:=by (simp only[go_sem]<;>rfl)):p:=h
def Z1 {p q:Prop} (a:q) (h:q→p:=by intro a;simp only[a,go_sem]):p:=h a
def Zr1 {p q:Prop} (a:q) (h:q→p:=by intro a;(simp only[a,go_sem]<;>rfl)):p:=h a
def Z2 {p q r:Prop} (a:q) (b:r) (h:q→r→p:=by intro a b;simp only[a,b,go_sem]):p:=h a b
def Zr2 {p q r:Prop} (a:q) (b:r) (h:q→r→p:=by intro a b;(simp only[a,b,go_sem]<;>rfl)):p:=h a b
def Z3 {p q r s:Prop} (a:q) (b:r) (c:s) (h:q→r→s→p:=by intro a b c;simp only[a,b,c,go_sem]):p:=h a b c
def Ad2 {a b:Prop} (x:a) (y:b):a∧b:=⟨x,y⟩
def Ad3 {a b c:Prop} (x:a) (y:b) (z:c):a∧b∧c:=⟨x,y,z⟩
def Ad4 {a b c d:Prop} (x:a) (y:b) (z:c) (u:d):a∧b∧c∧d:=⟨x,y,z,u⟩
def Ad5 {a b c d e:Prop} (x:a) (y:b) (z:c) (u:d) (v:e):a∧b∧c∧d∧e:=⟨x,y,z,u,v⟩
def RN {c p q:Prop} (a:c) (k:q) (h:c→q→p:=by intro H k;(repeat (with_reducible (first|refine YK ?_|refine ZM ?_|refine Y3 ?_|refine K8 ?_|refine Hx ?_|refine Qbv ?_|refine WB ?_|refine X_nx ?_|refine X_ex ?_|refine X_rt ?_|refine B_nx ?_|refine Jm ?_|refine B_ne RM ?_|refine B_rt ?_|((first|refine U_q (v:=?_) ?h1 ?_|refine U_ld (v:=?_) ?h1 ?_|refine QeJ (v:=?_) ?h1 ?_|refine Qfc ?h1 ?_|refine DF (v:=?_) ?h1 ?_|refine E_1 (v:=?_) ?h1 ?_|refine E_1n (v:=?_) ?h1 ?_|refine Hz (n:=?_) ?h1 ?_|refine U_gt ?h1 ?_|refine Wp ?h1 ?_);case h1=>((try simp only[H,go_sem])<;>rfl))|(refine VI (cs:=?_) (cs':=?_) (n:=?_) ?h1 ?h2 ?h3 ?h4 ?_;case h1|h2|h3|h4=>((try simp only[H,go_sem])<;>rfl))|(refine Wd (id:=?_) (i:=?_) (j:=?_) (q:=?_) (es:=?_) (cs:=?_) (vs:=?_) (es':=?_) ?h1 ?h2 ?h3 ?h4 ?h5 ?h6 ?h7 ?_;case h1|h2|h3|h4|h5|h6|h7=>((try simp only[H,go_sem])<;>rfl))|(refine Qcy (es:=?_) (es':=?_) ?h1 ?h2 ?h3 ?_;case h1|h2|h3=>((try simp only[H,go_sem])<;>rfl))|refine Df ?_|refine Qd4 ?_|(refine QeV ?h1 ?_;case h1=>((try simp only[H,go_sem])<;>rfl))|((first|refine Qcl ?h1 ?_|refine Vs ?h1 ?_|refine Ws ?h1 ?_);case h1=>((try simp only[H,go_sem])<;>rfl))|(refine U_gj (vs:=?_) ?h1 ?_;case h1=>((try simp only[H,go_sem])<;>rfl))|((first|refine E_2 (v:=?_) (u:=?_) ?h1 ?h2 ?_|refine E_2n (v:=?_) (u:=?_) ?h1 ?h2 ?_);case h1|h2=>((try simp only[H,go_sem])<;>rfl))|refine E_0 ?_|refine E_0n ?_|rw[Q0]|(refine Dq (id:=?_) (i:=?_) (j:=?_) (q:=?_) (es:=?_) (cs:=?_) (vs:=?_) (es':=?_) ?h1 ?h2 ?h3 ?h4 ?h5 ?h6 ?h7 ?h8 ?_;(case h1|h2|h3|h4|h5|h6|h7=>((try simp only[H,go_sem])<;>rfl));(case h8=>repeat (first|exact XY|(refine W8 (v:=?_) ?g1 ?g2 ?g3 ?_;(case g1|g2=>((try simp only[H,go_sem])<;>rfl));(case g3=>first|rfl|simp only[ok,okL,go_sem]))|(refine DU ?g1 ?g2 ?_;(case g1|g2=>((try simp only[H,go_sem])<;>rfl)))))))));exact k):p:=h a k
def RT {c p q:Prop} (a:c) (k:q) (h:c→q→p:=by intro H k;(repeat (with_reducible (first|refine YK ?_|refine ZM ?_|refine Y3 ?_|refine K8 ?_|refine Hx ?_|refine Qbv ?_|refine WB ?_|refine X_nx ?_|refine X_ex ?_|refine X_rt ?_|refine B_nx ?_|refine Jm ?_|refine B_ne RM ?_|refine B_rt ?_|((first|refine U_q (v:=?_) ?h1 ?_|refine U_ld (v:=?_) ?h1 ?_|refine QeJ (v:=?_) ?h1 ?_|refine Qfc ?h1 ?_|refine DF (v:=?_) ?h1 ?_|refine E_1 (v:=?_) ?h1 ?_|refine E_1n (v:=?_) ?h1 ?_|refine Hz (n:=?_) ?h1 ?_|refine U_gt ?h1 ?_|refine Wp ?h1 ?_);case h1=>((try simp only[H,beq_self_eq_true,List.take_succ_cons,List.take_zero,List.drop_succ_cons,List.drop_zero,Int.toNat_natCast,List.length_map,go_sem])<;>rfl))|(refine VI (cs:=?_) (cs':=?_) (n:=?_) ?h1 ?h2 ?h3 ?h4 ?_;case h1|h2|h3|h4=>((try simp only[H,beq_self_eq_true,List.take_succ_cons,List.take_zero,List.drop_succ_cons,List.drop_zero,Int.toNat_natCast,List.length_map,go_sem])<;>rfl))|(refine Wd (id:=?_) (i:=?_) (j:=?_) (q:=?_) (es:=?_) (cs:=?_) (vs:=?_) (es':=?_) ?h1 ?h2 ?h3 ?h4 ?h5 ?h6 ?h7 ?_;case h1|h2|h3|h4|h5|h6|h7=>((try simp only[H,beq_self_eq_true,List.take_succ_cons,List.take_zero,List.drop_succ_cons,List.drop_zero,Int.toNat_natCast,List.length_map,go_sem])<;>rfl))|(refine Qcy (es:=?_) (es':=?_) ?h1 ?h2 ?h3 ?_;case h1|h2|h3=>((try simp only[H,beq_self_eq_true,List.take_succ_cons,List.take_zero,List.drop_succ_cons,List.drop_zero,Int.toNat_natCast,List.length_map,go_sem])<;>rfl))|refine Df ?_|refine Qd4 ?_|(refine QeV ?h1 ?_;case h1=>((try simp only[H,beq_self_eq_true,List.take_succ_cons,List.take_zero,List.drop_succ_cons,List.drop_zero,Int.toNat_natCast,List.length_map,go_sem])<;>rfl))|((first|refine Qcl ?h1 ?_|refine Vs ?h1 ?_|refine Ws ?h1 ?_);case h1=>((try simp only[H,beq_self_eq_true,List.take_succ_cons,List.take_zero,List.drop_succ_cons,List.drop_zero,Int.toNat_natCast,List.length_map,go_sem])<;>rfl))|(refine U_gj (vs:=?_) ?h1 ?_;case h1=>((try simp only[H,beq_self_eq_true,List.take_succ_cons,List.take_zero,List.drop_succ_cons,List.drop_zero,Int.toNat_natCast,List.length_map,go_sem])<;>rfl))|((first|refine E_2 (v:=?_) (u:=?_) ?h1 ?h2 ?_|refine E_2n (v:=?_) (u:=?_) ?h1 ?h2 ?_);case h1|h2=>((try simp only[H,beq_self_eq_true,List.take_succ_cons,List.take_zero,List.drop_succ_cons,List.drop_zero,Int.toNat_natCast,List.length_map,go_sem])<;>rfl))|refine E_0 ?_|refine E_0n ?_|rw[Q0]|(refine Dq (id:=?_) (i:=?_) (j:=?_) (q:=?_) (es:=?_) (cs:=?_) (vs:=?_) (es':=?_) ?h1 ?h2 ?h3 ?h4 ?h5 ?h6 ?h7 ?h8 ?_;(case h1|h2|h3|h4|h5|h6|h7=>((try simp only[H,beq_self_eq_true,List.take_succ_cons,List.take_zero,List.drop_succ_cons,List.drop_zero,Int.toNat_natCast,List.length_map,go_sem])<;>rfl));(case h8=>repeat (first|exact XY|(refine W8 (v:=?_) ?g1 ?g2 ?g3 ?_;(case g1|g2=>((try simp only[H,beq_self_eq_true,List.take_succ_cons,List.take_zero,List.drop_succ_cons,List.drop_zero,Int.toNat_natCast,List.length_map,go_sem])<;>rfl));(case g3=>first|rfl|simp only[ok,okL,go_sem]))|(refine DU ?g1 ?g2 ?_;(case g1|g2=>((try simp only[H,beq_self_eq_true,List.take_succ_cons,List.take_zero,List.drop_succ_cons,List.drop_zero,Int.toNat_natCast,List.length_map,go_sem])<;>rfl)))))))));exact k):p:=h a k
def RSN {c p q:Prop} (a:c) (k:q) (h:c→q→p:=by intro H k;(with_reducible (first|refine YK ?_|refine ZM ?_|refine Y3 ?_|refine K8 ?_|refine Hx ?_|refine Qbv ?_|refine WB ?_|refine X_nx ?_|refine X_ex ?_|refine X_rt ?_|refine B_nx ?_|refine Jm ?_|refine B_ne RM ?_|refine B_rt ?_|((first|refine U_q (v:=?_) ?h1 ?_|refine U_ld (v:=?_) ?h1 ?_|refine QeJ (v:=?_) ?h1 ?_|refine Qfc ?h1 ?_|refine DF (v:=?_) ?h1 ?_|refine E_1 (v:=?_) ?h1 ?_|refine E_1n (v:=?_) ?h1 ?_|refine Hz (n:=?_) ?h1 ?_|refine U_gt ?h1 ?_|refine Wp ?h1 ?_);case h1=>((try simp only[H,go_sem])<;>rfl))|(refine VI (cs:=?_) (cs':=?_) (n:=?_) ?h1 ?h2 ?h3 ?h4 ?_;case h1|h2|h3|h4=>((try simp only[H,go_sem])<;>rfl))|(refine Wd (id:=?_) (i:=?_) (j:=?_) (q:=?_) (es:=?_) (cs:=?_) (vs:=?_) (es':=?_) ?h1 ?h2 ?h3 ?h4 ?h5 ?h6 ?h7 ?_;case h1|h2|h3|h4|h5|h6|h7=>((try simp only[H,go_sem])<;>rfl))|(refine Qcy (es:=?_) (es':=?_) ?h1 ?h2 ?h3 ?_;case h1|h2|h3=>((try simp only[H,go_sem])<;>rfl))|refine Df ?_|refine Qd4 ?_|(refine QeV ?h1 ?_;case h1=>((try simp only[H,go_sem])<;>rfl))|((first|refine Qcl ?h1 ?_|refine Vs ?h1 ?_|refine Ws ?h1 ?_);case h1=>((try simp only[H,go_sem])<;>rfl))|(refine U_gj (vs:=?_) ?h1 ?_;case h1=>((try simp only[H,go_sem])<;>rfl))|((first|refine E_2 (v:=?_) (u:=?_) ?h1 ?h2 ?_|refine E_2n (v:=?_) (u:=?_) ?h1 ?h2 ?_);case h1|h2=>((try simp only[H,go_sem])<;>rfl))|refine E_0 ?_|refine E_0n ?_|rw[Q0]|(refine Dq (id:=?_) (i:=?_) (j:=?_) (q:=?_) (es:=?_) (cs:=?_) (vs:=?_) (es':=?_) ?h1 ?h2 ?h3 ?h4 ?h5 ?h6 ?h7 ?h8 ?_;(case h1|h2|h3|h4|h5|h6|h7=>((try simp only[H,go_sem])<;>rfl));(case h8=>repeat (first|exact XY|(refine W8 (v:=?_) ?g1 ?g2 ?g3 ?_;(case g1|g2=>((try simp only[H,go_sem])<;>rfl));(case g3=>first|rfl|simp only[ok,okL,go_sem]))|(refine DU ?g1 ?g2 ?_;(case g1|g2=>((try simp only[H,go_sem])<;>rfl))))))));exact RN H k):p:=h a k
def RST {c p q:Prop} (a:c) (k:q) (h:c→q→p:=by intro H k;(with_reducible (first|refine YK ?_|refine ZM ?_|refine Y3 ?_|refine K8 ?_|refine Hx ?_|refine Qbv ?_|refine WB ?_|refine X_nx ?_|refine X_ex ?_|refine X_rt ?_|refine B_nx ?_|refine Jm ?_|refine B_ne RM ?_|refine B_rt ?_|((first|refine U_q (v:=?_) ?h1 ?_|refine U_ld (v:=?_) ?h1 ?_|refine QeJ (v:=?_) ?h1 ?_|refine Qfc ?h1 ?_|refine DF (v:=?_) ?h1 ?_|refine E_1 (v:=?_) ?h1 ?_|refine E_1n (v:=?_) ?h1 ?_|refine Hz (n:=?_) ?h1 ?_|refine U_gt ?h1 ?_|refine Wp ?h1 ?_);case h1=>((try simp only[H,beq_self_eq_true,List.take_succ_cons,List.take_zero,List.drop_succ_cons,List.drop_zero,Int.toNat_natCast,List.length_map,go_sem])<;>rfl))|(refine VI (cs:=?_) (cs':=?_) (n:=?_) ?h1 ?h2 ?h3 ?h4 ?_;case h1|h2|h3|h4=>((try simp only[H,beq_self_eq_true,List.take_succ_cons,List.take_zero,List.drop_succ_cons,List.drop_zero,Int.toNat_natCast,List.length_map,go_sem])<;>rfl))|(refine Wd (id:=?_) (i:=?_) (j:=?_) (q:=?_) (es:=?_) (cs:=?_) (vs:=?_) (es':=?_) ?h1 ?h2 ?h3 ?h4 ?h5 ?h6 ?h7 ?_;case h1|h2|h3|h4|h5|h6|h7=>((try simp only[H,beq_self_eq_true,List.take_succ_cons,List.take_zero,List.drop_succ_cons,List.drop_zero,Int.toNat_natCast,List.length_map,go_sem])<;>rfl))|(refine Qcy (es:=?_) (es':=?_) ?h1 ?h2 ?h3 ?_;case h1|h2|h3=>((try simp only[H,beq_self_eq_true,List.take_succ_cons,List.take_zero,List.drop_succ_cons,List.drop_zero,Int.toNat_natCast,List.length_map,go_sem])<;>rfl))|refine Df ?_|refine Qd4 ?_|(refine QeV ?h1 ?_;case h1=>((try simp only[H,beq_self_eq_true,List.take_succ_cons,List.take_zero,List.drop_succ_cons,List.drop_zero,Int.toNat_natCast,List.length_map,go_sem])<;>rfl))|((first|refine Qcl ?h1 ?_|refine Vs ?h1 ?_|refine Ws ?h1 ?_);case h1=>((try simp only[H,beq_self_eq_true,List.take_succ_cons,List.take_zero,List.drop_succ_cons,List.drop_zero,Int.toNat_natCast,List.length_map,go_sem])<;>rfl))|(refine U_gj (vs:=?_) ?h1 ?_;case h1=>((try simp only[H,beq_self_eq_true,List.take_succ_cons,List.take_zero,List.drop_succ_cons,List.drop_zero,Int.toNat_natCast,List.length_map,go_sem])<;>rfl))|((first|refine E_2 (v:=?_) (u:=?_) ?h1 ?h2 ?_|refine E_2n (v:=?_) (u:=?_) ?h1 ?h2 ?_);case h1|h2=>((try simp only[H,beq_self_eq_true,List.take_succ_cons,List.take_zero,List.drop_succ_cons,List.drop_zero,Int.toNat_natCast,List.length_map,go_sem])<;>rfl))|refine E_0 ?_|refine E_0n ?_|rw[Q0]|(refine Dq (id:=?_) (i:=?_) (j:=?_) (q:=?_) (es:=?_) (cs:=?_) (vs:=?_) (es':=?_) ?h1 ?h2 ?h3 ?h4 ?h5 ?h6 ?h7 ?h8 ?_;(case h1|h2|h3|h4|h5|h6|h7=>((try simp only[H,beq_self_eq_true,List.take_succ_cons,List.take_zero,List.drop_succ_cons,List.drop_zero,Int.toNat_natCast,List.length_map,go_sem])<;>rfl));(case h8=>repeat (first|exact XY|(refine W8 (v:=?_) ?g1 ?g2 ?g3 ?_;(case g1|g2=>((try simp only[H,beq_self_eq_true,List.take_succ_cons,List.take_zero,List.drop_succ_cons,List.drop_zero,Int.toNat_natCast,List.length_map,go_sem])<;>rfl));(case g3=>first|rfl|simp only[ok,okL,go_sem]))|(refine DU ?g1 ?g2 ?_;(case g1|g2=>((try simp only[H,beq_self_eq_true,List.take_succ_cons,List.take_zero,List.drop_succ_cons,List.drop_zero,Int.toNat_natCast,List.length_map,go_sem])<;>rfl))))))));exact RT H k):p:=h a k
def RXN {c p q:Prop} (a:c) (k:q) (h:c→q→p:=by intro H k;(repeat (with_reducible (first|refine QcR ?_|refine C_sq ?_|refine C_rg ?_|refine C_bk ?_|refine C_sk ?_|refine C_ex ?_|refine C_rt ?_|refine X_nx ?_|refine X_ex ?_|refine X_rt ?_|refine B_nx ?_|refine Jm ?_|(refine B_ne RM ?_)|refine B_rt ?_|((first|refine R_q (v:=?_) ?h1 ?_|refine R_ld (v:=?_) ?h1 ?_|refine QcM (v:=?_) ?h1 ?_|refine E_1 (v:=?_) ?h1 ?_|refine E_1n (v:=?_) ?h1 ?_);case h1=>(simp only[H,go_sem]<;>rfl))|((first|refine R_gt ?h1 ?_);case h1=>(simp only[H,go_sem]<;>rfl))|((first|refine QdH ?h1 ?_);case h1=>(simp only[H,go_sem]<;>rfl))|((first|refine Qdh ?h1 ?_);case h1=>(simp only[H,go_sem]<;>rfl))|((first|refine R_gj (vs:=?_) ?h1 ?_);case h1=>(simp only[H,go_sem]<;>rfl))|((first|refine Qde ?h1 ?_);case h1=>(simp only[H,go_sem]<;>rfl))|((first|refine QbC ?h1 ?_);case h1=>(simp only[H,go_sem]<;>rfl))|((first|refine E_2 (v:=?_) (u:=?_) ?h1 ?h2 ?_|refine E_2n (v:=?_) (u:=?_) ?h1 ?h2 ?_);(case h1=>(simp only[H,go_sem]<;>rfl));(case h2=>(simp only[H,go_sem]<;>rfl)))|refine E_0 ?_|refine E_0n ?_|rw[Q0])));exact k):p:=h a k
def RXT {c p q:Prop} (a:c) (k:q) (h:c→q→p:=by intro H k;(repeat (with_reducible (first|refine QcR ?_|refine C_sq ?_|refine C_rg ?_|refine C_bk ?_|refine C_sk ?_|refine C_ex ?_|refine C_rt ?_|refine X_nx ?_|refine X_ex ?_|refine X_rt ?_|refine B_nx ?_|refine Jm ?_|(refine B_ne RM ?_)|refine B_rt ?_|((first|refine R_q (v:=?_) ?h1 ?_|refine R_ld (v:=?_) ?h1 ?_|refine QcM (v:=?_) ?h1 ?_|refine E_1 (v:=?_) ?h1 ?_|refine E_1n (v:=?_) ?h1 ?_);case h1=>(simp only[H,beq_self_eq_true,List.take_succ_cons,List.take_zero,List.drop_succ_cons,List.drop_zero,Int.toNat_natCast,List.length_map,go_sem]<;>rfl))|((first|refine R_gt ?h1 ?_);case h1=>(simp only[H,beq_self_eq_true,List.take_succ_cons,List.take_zero,List.drop_succ_cons,List.drop_zero,Int.toNat_natCast,List.length_map,go_sem]<;>rfl))|((first|refine QdH ?h1 ?_);case h1=>(simp only[H,beq_self_eq_true,List.take_succ_cons,List.take_zero,List.drop_succ_cons,List.drop_zero,Int.toNat_natCast,List.length_map,go_sem]<;>rfl))|((first|refine Qdh ?h1 ?_);case h1=>(simp only[H,beq_self_eq_true,List.take_succ_cons,List.take_zero,List.drop_succ_cons,List.drop_zero,Int.toNat_natCast,List.length_map,go_sem]<;>rfl))|((first|refine R_gj (vs:=?_) ?h1 ?_);case h1=>(simp only[H,beq_self_eq_true,List.take_succ_cons,List.take_zero,List.drop_succ_cons,List.drop_zero,Int.toNat_natCast,List.length_map,go_sem]<;>rfl))|((first|refine Qde ?h1 ?_);case h1=>(simp only[H,beq_self_eq_true,List.take_succ_cons,List.take_zero,List.drop_succ_cons,List.drop_zero,Int.toNat_natCast,List.length_map,go_sem]<;>rfl))|((first|refine QbC ?h1 ?_);case h1=>(simp only[H,beq_self_eq_true,List.take_succ_cons,List.take_zero,List.drop_succ_cons,List.drop_zero,Int.toNat_natCast,List.length_map,go_sem]<;>rfl))|((first|refine E_2 (v:=?_) (u:=?_) ?h1 ?h2 ?_|refine E_2n (v:=?_) (u:=?_) ?h1 ?h2 ?_);(case h1=>(simp only[H,beq_self_eq_true,List.take_succ_cons,List.take_zero,List.drop_succ_cons,List.drop_zero,Int.toNat_natCast,List.length_map,go_sem]<;>rfl));(case h2=>(simp only[H,beq_self_eq_true,List.take_succ_cons,List.take_zero,List.drop_succ_cons,List.drop_zero,Int.toNat_natCast,List.length_map,go_sem]<;>rfl)))|refine E_0 ?_|refine E_0n ?_|rw[Q0])));exact k):p:=h a k
mutual
def cld:V→Bool
 | .ag cs=>cldL cs
 | .tp cs=>cldL cs
 | .fn _ cs=>cldL cs
 | .sl es=>QQ es
 | .ip cs _=>cldL cs
 | .rw _ _ _ _=>false
 | .ra _ _ _ _=>false
 | .pt _ _ _=>false
 | .mp _=>false
 | .it _=>false
 | .jk=>true
 | .bo _=>true
 | .i _ _=>true
 | .s _=>true
 | .nil=>true
 | .np=>true
 | .nf=>true
 | .nm=>true
def cldL:List V→Bool
 | []=>true
 | v::vs=>cld v&&cldL vs
def QQ:List (List V)→Bool
 | []=>true
 | c::cs=>cldL c&&QQ cs
end
mutual
def swp (d:Nat):V→V
 | .ag cs=>.ag (swpL d cs)
 | .tp cs=>.tp (swpL d cs)
 | .fn g cs=>.fn g (swpL d cs)
 | .sl es=>.sl es
 | .ip cs j=>.ip cs j
 | .rw i sz off len=>if i==d then .jk else .rw i sz off len
 | .ra i k j len=>if i==d then .jk else .ra i k j len
 | .pt i k j=>if i==d then .jk else .pt i k j
 | .mp i=>if i==d then .jk else .mp i
 | .it i=>if i==d then .jk else .it i
 | .jk=>.jk
 | .bo p=>.bo p
 | .i k n=>.i k n
 | .s y=>.s y
 | .nil=>.nil
 | .np=>.np
 | .nf=>.nf
 | .nm=>.nm
def swpL (d:Nat):List V→List V
 | []=>[]
 | v::vs=>swp d v::swpL d vs
end
def swpR (d:Nat) (es:List (List V)):List (List V):=es.map (swpL d)
def Qy (d:Nat):Ob→Option Ob
 | .row sz rs=>some (.row sz (swpR d rs))
 | .map ents clock=>some (.map (ents.map fun x=>(x.1,swp d x.2.1,swp d x.2.2)) clock)
 | .iter mp since seen stepped=>if mp==some d then none else some (.iter mp since seen stepped)
def swpO (d:Nat) (o:O):O:=fun s=>if s==d then none else (o s).bind (Qy d)
def swpE (d:Nat) (e:E):E:=fun t=>swp d (e t)
def WK (d:Nat) (cs:List V):swpL d cs=cs.map (swp d):=by
 induction cs with
 | nil=>rfl
 | cons v cs ih=>simp [swpL,ih]
def Qax (cs:List V):cldL cs=true↔∀ v∈cs,cld v=true:=by
 induction cs with
 | nil=>simp [cldL]
 | cons v cs ih=>simp [cldL,ih]
def QW (es:List (List V)):QQ es=true↔∀ c∈es,cldL c=true:=by
 induction es with
 | nil=>simp [QQ]
 | cons c es ih=>simp [QQ,ih]
abbrev Nm:=Nat→Option Nat
variable {m m1 m0:Nm}
inductive VR (m:Nm):V→V→Prop where
 | jk (x:V):VR m .jk x
 | bo (p:Bool):VR m (.bo p) (.bo p)
 | i (k:IntKind) (n:Int):VR m (.i k n) (.i k n)
 | s (y:ByteArray):VR m (.s y) (.s y)
 | ag (cs ds:List V) (hl:ds.length=cs.length) (h:∀ (j:Nat) v x,cs[j]?=some v→ds[j]?=some x→VR m v x):VR m (.ag cs) (.ag ds)
 | tp (cs ds:List V) (hl:ds.length=cs.length) (h:∀ (j:Nat) v x,cs[j]?=some v→ds[j]?=some x→VR m v x):VR m (.tp cs) (.tp ds)
 | fn (g:Nat) (cs ds:List V) (hl:ds.length=cs.length) (h:∀ (j:Nat) v x,cs[j]?=some v→ds[j]?=some x→VR m v x):VR m (.fn g cs) (.fn g ds)
 | nil:VR m .nil .nil
 | sl (es:List (List V)) (h:QQ es=true):VR m (.sl es) (.sl es)
 | ip (cs:List V) (j:Nat) (h:cldL cs=true):VR m (.ip cs j) (.ip cs j)
 | rw (s id sz off len:Nat) (h:m s=some id):VR m (.rw s sz off len) (.rw id sz off len)
 | ra (s id i j len:Nat) (h:m s=some id):VR m (.ra s i j len) (.ra id i j len)
 | pt (s id i j:Nat) (h:m s=some id):VR m (.pt s i j) (.pt id i j)
 | np:VR m .np .np
 | nf:VR m .nf .nf
 | nm:VR m .nm .nm
 | mp (s id:Nat) (h:m s=some id):VR m (.mp s) (.mp id)
 | it (s id:Nat) (h:m s=some id):VR m (.it s) (.it id)
structure VRs (m:Nm) (cs ds:List V):Prop where
 len:ds.length=cs.length
 at_:∀ (j:Nat) v x,cs[j]?=some v→ds[j]?=some x→VR m v x
def VRs.nil:VRs m [] []:=⟨rfl,SM⟩
def VRs.cons {v:V} (h:VR m v x) (hs:VRs m cs ds):VRs m (v::cs) (x::ds) :=
 ⟨by simp [hs.len],fun j u y hu hy=>by cases j with
  | zero=>simp at hu hy;subst hu;subst hy;exact h
  | succ j=>exact hs.at_ j u y (by simpa using hu) (by simpa using hy)⟩
def VRs.inv {v:V} (h:VRs m (v::cs) ds):∃ x ds',ds=x::ds'∧VR m v x∧VRs m cs ds':=by
 cases ds with
 | nil=>have:=h.len;simp at this
 | cons x ds=>exact⟨x,ds,rfl,h.at_ 0 v x rfl rfl,⟨by simpa using h.len,fun j u y hu hy=>h.at_ (j+1) u y (by simpa using hu) (by simpa using hy)⟩⟩
def VRs.inv0 (h:VRs m [] ds):ds=[]:=List.eq_nil_of_length_eq_zero (by simpa using h.len)
def VRs.get (h:VRs m cs ds) {v:V} (hv:cs[j]?=some v):∃ x,ds[j]?=some x∧VR m v x:=by
 have hj:=(List.getElem?_eq_some_iff.1 hv).1;have hx:ds[j]?=some (ds[j]'(by rw[h.len];exact hj)):=List.getElem?_eq_getElem _
 exact⟨_,hx,h.at_ j v _ hv hx⟩
def VRs.sub (h:VRs m cs ds) (a b:Nat):VRs m ((cs.drop a).take b) ((ds.drop a).take b) :=
 ⟨by simp [h.len],fun j v x hv hx=>by
  have h1:=(List.getElem?_eq_some_iff.1 hv).1;have hb:j < b:=by simp at h1;omega
  rw[List.getElem?_take_of_lt hb,List.getElem?_drop] at hv hx;exact h.at_ _ v x hv hx⟩
def VRs.append {a b c d:List V} (h1:VRs m a c) (h2:VRs m b d):VRs m (a++b) (c++d) :=
 ⟨by simp [h1.len,h2.len],fun j v x hv hx=>by
  by_cases h:j < a.length
  ·rw[List.getElem?_append_left h] at hv;rw[List.getElem?_append_left (by rw[h1.len];exact h)] at hx;exact h1.at_ j v x hv hx
  ·rw[List.getElem?_append_right OM] at hv;rw[List.getElem?_append_right (by rw[h1.len];omega),h1.len] at hx;exact h2.at_ _ v x hv hx⟩
mutual
theorem YN (m:Nm):∀ (v:V),cld v=true→VR m v v
 | .ag cs,h=>by
  rw[cld] at h;exact .ag cs cs rfl (Q9 m cs h).at_
 | .tp cs,h=>by
  rw[cld] at h;exact .tp cs cs rfl (Q9 m cs h).at_
 | .fn g cs,h=>by
  rw[cld] at h;exact .fn g cs cs rfl (Q9 m cs h).at_
 | .sl es,h=>by rw[cld] at h;exact .sl es h
 | .ip cs j,h=>by rw[cld] at h;exact .ip cs j h
 | .rw _ _ _ _,h=>by rw[cld] at h;cases h
 | .ra _ _ _ _,h=>by rw[cld] at h;cases h
 | .pt _ _ _,h=>by rw[cld] at h;cases h
 | .mp _,h=>by rw[cld] at h;cases h
 | .it _,h=>by rw[cld] at h;cases h
 | .jk,_=>.jk _
 | .bo p,_=>.bo p
 | .i k n,_=>.i k n
 | .s y,_=>.s y
 | .nil,_=>.nil
 | .np,_=>.np
 | .nf,_=>.nf
 | .nm,_=>.nm
theorem Q9 (m:Nm):∀ (cs:List V),cldL cs=true→VRs m cs cs
 | [],_=>.nil
 | v::cs,h=>by
  rw[cldL,Bool.and_eq_true] at h;exact .cons (YN m v h.1) (Q9 m cs h.2)
end
theorem VR.swp {m m1:Nm} {d:Nat} (hm:∀ s,s≠d→m1 s=m s) {v x:V} (h:VR m v x):VR m1 (swp d v) x:=by
 induction h with
 | jk x=>exact .jk x
 | ag cs ds hl _ ih =>
  rw[Go.Proofs.YtklbhcjmaeedhaaGreatDoor.swp,WK];refine .ag _ ds (by simpa using hl) fun j v x hv hx=>?_;rw[List.getElem?_map] at hv;cases hc:cs[j]? with
  | none=>rw[hc] at hv;cases hv
  | some u=>rw[hc] at hv;cases hv;exact ih j u x hc hx
 | tp cs ds hl _ ih =>
  rw[Go.Proofs.YtklbhcjmaeedhaaGreatDoor.swp,WK];refine .tp _ ds (by simpa using hl) fun j v x hv hx=>?_;rw[List.getElem?_map] at hv;cases hc:cs[j]? with
  | none=>rw[hc] at hv;cases hv
  | some u=>rw[hc] at hv;cases hv;exact ih j u x hc hx
 | fn g cs ds hl _ ih =>
  rw[Go.Proofs.YtklbhcjmaeedhaaGreatDoor.swp,WK];refine .fn g _ ds (by simpa using hl) fun j v x hv hx=>?_;rw[List.getElem?_map] at hv;cases hc:cs[j]? with
  | none=>rw[hc] at hv;cases hv
  | some u=>rw[hc] at hv;cases hv;exact ih j u x hc hx
 | rw s id sz off len h =>
  rw[Go.Proofs.YtklbhcjmaeedhaaGreatDoor.swp];split
  ·exact .jk _
  ·rename_i hs;exact .rw s id sz off len (by rw[hm s (by simpa using hs)];exact h)
 | ra s id i j len h =>
  rw[Go.Proofs.YtklbhcjmaeedhaaGreatDoor.swp];split
  ·exact .jk _
  ·rename_i hs;exact .ra s id i j len (by rw[hm s (by simpa using hs)];exact h)
 | pt s id i j h =>
  rw[Go.Proofs.YtklbhcjmaeedhaaGreatDoor.swp];split
  ·exact .jk _
  ·rename_i hs;exact .pt s id i j (by rw[hm s (by simpa using hs)];exact h)
 | mp s id h =>
  rw[Go.Proofs.YtklbhcjmaeedhaaGreatDoor.swp];split
  ·exact .jk _
  ·rename_i hs;exact .mp s id (by rw[hm s (by simpa using hs)];exact h)
 | it s id h =>
  rw[Go.Proofs.YtklbhcjmaeedhaaGreatDoor.swp];split
  ·exact .jk _
  ·rename_i hs;exact .it s id (by rw[hm s (by simpa using hs)];exact h)
 | bo p=>exact .bo p
 | i k n=>exact .i k n
 | s y=>exact .s y
 | nil=>exact .nil
 | sl es h=>exact .sl es h
 | ip cs j h=>exact .ip cs j h
 | np=>exact .np
 | nf=>exact .nf
 | nm=>exact .nm
theorem VRs.swp {m m1:Nm} {d:Nat} (hm:∀ s,s≠d→m1 s=m s) {cs ds:List V} (h:VRs m cs ds):VRs m1 (swpL d cs) ds:=by
 rw[WK]
 refine⟨by simpa using h.len,fun j v x hv hx=>?_⟩
 rw[List.getElem?_map] at hv;cases hc:cs[j]? with
 | none=>rw[hc] at hv;cases hv
 | some u=>rw[hc] at hv;cases hv;exact (h.at_ j u x hc hx).swp hm
structure RRs (m:Nm) (es fs:List (List V)):Prop where
 len:fs.length=es.length
 at_:∀ (j:Nat) c d,es[j]?=some c→fs[j]?=some d→VRs m c d
def RRs.get (h:RRs m es fs) {c:List V} (hc:es[j]?=some c):∃ d,fs[j]?=some d∧VRs m c d:=by
 have hj:=(List.getElem?_eq_some_iff.1 hc).1;have hx:fs[j]?=some (fs[j]'(by rw[h.len];exact hj)):=List.getElem?_eq_getElem _
 exact⟨_,hx,h.at_ j c _ hc hx⟩
def RRs.sub (h:RRs m es fs) (a b:Nat):RRs m ((es.drop a).take b) ((fs.drop a).take b) :=
 ⟨by simp [h.len],fun j c d hc hd=>by
  have h1:=(List.getElem?_eq_some_iff.1 hc).1;have hb:j < b:=by simp at h1;omega
  rw[List.getElem?_take_of_lt hb,List.getElem?_drop] at hc hd;exact h.at_ _ c d hc hd⟩
theorem RRs.take {m:Nm} {es fs:List (List V)} (h:RRs m es fs) (b:Nat):RRs m (es.take b) (fs.take b):=by
 have:=h.sub 0 b
 simpa using this
def RRs.append {a b c d:List (List V)} (h1:RRs m a c) (h2:RRs m b d):RRs m (a++b) (c++d) :=
 ⟨by simp [h1.len,h2.len],fun j v x hv hx=>by
  by_cases h:j < a.length
  ·rw[List.getElem?_append_left h] at hv;rw[List.getElem?_append_left (by rw[h1.len];exact h)] at hx;exact h1.at_ j v x hv hx
  ·rw[List.getElem?_append_right OM] at hv;rw[List.getElem?_append_right (by rw[h1.len];omega),h1.len] at hx;exact h2.at_ _ v x hv hx⟩
theorem RRs.set {m:Nm} {es fs:List (List V)} (h:RRs m es fs) {c d:List V} (hc:VRs m c d) (i:Nat):RRs m (es.set i c) (fs.set i d) :=
 ⟨by simp [h.len],fun j v x hv hx=>by
  rw[List.getElem?_set] at hv hx;split at hv
  ·rename_i hij;subst hij;rw[if_pos rfl] at hx;split at hv
   ·split at hx
    ·cases hv;cases hx;exact hc
    ·cases hx
   ·cases hv
  ·rename_i hij;rw[if_neg hij] at hx;exact h.at_ j v x hv hx⟩
theorem RRs.swp {m m1:Nm} {d:Nat} (hm:∀ s,s≠d→m1 s=m s) {es fs:List (List V)} (h:RRs m es fs):RRs m1 (swpR d es) fs :=
 ⟨by simp [swpR,h.len],fun j v x hv hx=>by
  rw[swpR,List.getElem?_map] at hv;cases hc:es[j]? with
  | none=>rw[hc] at hv;cases hv
  | some u=>rw[hc] at hv;cases hv;exact (h.at_ j u x hc hx).swp hm⟩
def Jz (m:Nm) (h:QQ es=true):RRs m es es :=
 ⟨rfl,fun j c d hc hd=>by
  rw[hc] at hd;cases hd;exact Q9 m c ((QW es).1 h c (List.mem_of_getElem? hc))⟩
def RRs.one {c d:List V} (h:VRs m c d):RRs m [c] [d] :=
 ⟨rfl,fun j v x hv hx=>by cases j with
  | zero=>simp at hv hx;subst hv;subst hx;exact h
  | succ j=>simp at hv⟩
def RRs.rep {c d:List V} (h:VRs m c d) (n:Nat):RRs m (List.replicate n c) (List.replicate n d) :=
 ⟨SM,fun j v x hv hx=>by
  rw[List.getElem?_replicate] at hv hx;split at hv
  ·rename_i hj;rw[if_pos hj] at hx;cases hv;cases hx;exact h
  ·cases hv⟩
inductive OR (m:Nm):Ob→Ob→Prop where
 | row (sz:Nat) (es fs:List (List V)) (h:RRs m es fs):OR m (.row sz es) (.row sz fs)
 | map (es fs:List (Nat × V × V)) (clock:Nat) (hl:fs.length=es.length) (h:∀ (j:Nat) a b,es[j]?=some a→fs[j]?=some b→b.1=a.1∧VR m a.2.1 b.2.1∧VR m a.2.2 b.2.2):OR m (.map es clock) (.map fs clock)
 | iter (a:Option Nat) (b:Option Nat) (since:Nat) (seen:List Nat) (stepped:Nat) (h:match a,b with|none,none=>True|some s,some id=>m s=some id|_,_=>False):OR m (.iter a since seen stepped) (.iter b since seen stepped)
structure SR (m:Nm) (o o':O):Prop where
 inj:∀ s t id,m s=some id→m t=some id→s=t
 live:∀ s id,m s=some id→∃ x,o' id=some x
 ob:∀ s x,o s=some x→∃ id y,m s=some id∧o' id=some y∧OR m x y
theorem OR.swp {m m1:Nm} {d:Nat} (hm:∀ s,s≠d→m1 s=m s) {x y z:Ob} (h:OR m x y) (hz:Qy d x=some z):OR m1 z y:=by
 cases h with
 | row sz es fs h=>simp only[Qy,Option.some.injEq] at hz;subst hz;exact .row sz _ fs (h.swp hm)
 | map es fs clock hl h =>
  simp only[Qy,Option.some.injEq] at hz;subst hz;refine .map _ fs clock (by simpa using hl) fun j a b ha hb=>?_;rw[List.getElem?_map] at ha;cases hc:es[j]? with
  | none=>rw[hc] at ha;cases ha
  | some u =>
   rw[hc] at ha;cases ha;obtain⟨h1,h2,h3⟩:=h j u b hc hb
   exact⟨h1,h2.swp hm,h3.swp hm⟩
 | iter a b since seen stepped h =>
  simp only[Qy] at hz;split at hz
  ·cases hz
  ·rename_i hd;cases hz;refine .iter a b since seen stepped ?_;cases a with
   | none=>cases b<;>exact h
   | some s =>
    cases b with
    | none=>exact h
    | some id =>
     have:s≠d:=fun hh=>hd (by simp [hh])
     show m1 s=some id;rw[hm s this];exact h
def SR.new (h:SR m o o') {id:Nat} {x y:Ob} (hid:o' id=none) (hxy:OR (upd m d (some id)) x y):SR (upd m d (some id)) (upd (swpO d o) d (some x)) (upd o' id (some y)):=by
 have hne:∀ s i,m s=some i→i≠id:=fun s i hs hh=>by
  obtain⟨z,hz⟩:=h.live s i hs;rw[hh,hid] at hz;cases hz
 have hup:∀ s,s≠d→upd m d (some id) s=m s:=fun s hs=>by simp [upd,hs]
 refine⟨fun s t i h1 h2=>?_,fun s i h1=>?_,fun s z hz=>?_⟩
 ·simp only[upd] at h1 h2;split at h1<;>split at h2
  ·simp_all
  ·cases h1;exact absurd rfl (hne t id h2)
  ·cases h2;exact absurd rfl (hne s id h1)
  ·exact h.inj s t i h1 h2
 ·simp only[upd] at h1 ⊢;split at h1
  ·cases h1;exact⟨y,SM⟩
  ·obtain⟨z,hz⟩:=h.live s i h1
   exact⟨z,by rw[if_neg (hne s i h1)];exact hz⟩
 ·by_cases hs:s=d
  ·subst hs;simp only[upd,if_true,Option.some.injEq] at hz;subst hz
   exact⟨id,y,by simp [upd],by simp [upd],hxy⟩
  ·simp only[upd,if_neg hs,swpO] at hz;rw[if_neg (by simpa using hs)] at hz;obtain⟨x0,hx0,hx1⟩:=Option.bind_eq_some_iff.1 hz;obtain⟨i,y0,h1,h2,h3⟩:=h.ob s x0 hx0
   exact⟨i,y0,by rw[hup s hs];exact h1,by simp only[upd,if_neg (hne s i h1)];exact h2,h3.swp hup hx1⟩
def SR.gone (h:SR m o o') {id:Nat} (hs:m s=some id):SR (upd m s none) (swpO s o) (upd o' id none):=by
 have hup:∀ t,t≠s→upd m s none t=m t:=fun t ht=>by simp [upd,ht]
 have hne:∀ t i,t≠s→m t=some i→i≠id:=fun t i ht hm hh=>ht (h.inj t s id (by rw[hm,hh]) hs)
 refine⟨fun a b i h1 h2=>?_,fun a i h1=>?_,fun a z hz=>?_⟩
 ·simp only[upd] at h1 h2;split at h1
  ·cases h1
  ·split at h2
   ·cases h2
   ·exact h.inj a b i h1 h2
 ·simp only[upd] at h1 ⊢;split at h1
  ·cases h1
  ·rename_i ha;rw[if_neg (hne a i ha h1)];exact h.live a i h1
 ·simp only[swpO] at hz;split at hz
  ·cases hz
  ·rename_i ha;have ha:a≠s:=by simpa using ha
   obtain⟨x0,hx0,hx1⟩:=Option.bind_eq_some_iff.1 hz;obtain⟨i,y0,h1,h2,h3⟩:=h.ob a x0 hx0
   exact⟨i,y0,by rw[hup a ha];exact h1,by simp only[upd,if_neg (hne a i ha h1)];exact h2,h3.swp hup hx1⟩
def SR.set (h:SR m o o') {id:Nat} {x y:Ob} (hs:m s=some id) (hxy:OR m x y):SR m (upd o s (some x)) (upd o' id (some y)):=by
 refine⟨h.inj,fun t i h1=>?_,fun t z hz=>?_⟩
 ·simp only[upd];split
  ·exact⟨y,rfl⟩
  ·exact h.live t i h1
 ·by_cases ht:t=s
  ·subst ht;simp only[upd,if_true,Option.some.injEq] at hz;subst hz
   exact⟨id,y,hs,by simp [upd],hxy⟩
  ·simp only[upd,if_neg ht] at hz;obtain⟨i,y0,h1,h2,h3⟩:=h.ob t z hz
   exact⟨i,y0,h1,by simp only[upd,if_neg (fun hh:i=id=>ht (h.inj t s id (by rw[h1,hh]) hs))];exact h2,h3⟩
section
variable {m:Nm} {e e':E} (he:∀ t,VR m (e t) (e' t))
def ckO:Od→Bool
 | .t _=>true
 | .k v=>cld v
def Qn (he:∀ t,VR m (e t) (e' t)) {x:Od} (hx:ckO x=true):VR m (x.ev e) (x.ev e'):=by
 cases x with
 | t n=>exact he n
 | k v=>exact YN m v hx
def Ww (he:∀ t,VR m (e t) (e' t)) {l:List Od} (hl:l.all ckO=true):VRs m (l.map (Od.ev e)) (l.map (Od.ev e')) :=
 ⟨SM,fun j v x hv hx=>by
  rw[List.getElem?_map] at hv hx;cases h:l[j]? with
  | none=>rw[h] at hv;cases hv
  | some y =>
   rw[h] at hv hx;cases hv;cases hx;exact Qn he (List.all_eq_true.1 hl y (List.mem_of_getElem? h))⟩
def YB {v:V} (h:VR m v x) (h1:v≠.jk):VRs m v.cells x.cells:=by
 cases h with
 | jk x=>exact absurd rfl h1
 | ag cs ds hl h=>exact⟨hl,h⟩
 | tp cs ds hl h=>exact .nil
 | bo p=>exact .cons (.bo p) .nil
 | i k n=>exact .cons (.i k n) .nil
 | s y=>exact .cons (.s y) .nil
 | fn g cs ds hl h=>exact .cons (.fn g cs ds hl h) .nil
 | nil=>exact .cons .nil .nil
 | sl es h=>exact .cons (.sl es h) .nil
 | ip cs j h=>exact .cons (.ip cs j h) .nil
 | rw s id sz off len h=>exact .cons (.rw s id sz off len h) .nil
 | ra s id i j len h=>exact .cons (.ra s id i j len h) .nil
 | pt s id i j h=>exact .cons (.pt s id i j h) .nil
 | np=>exact .cons .np .nil
 | nf=>exact .cons .nf .nil
 | nm=>exact .cons .nm .nil
 | mp s id h=>exact .cons (.mp s id h) .nil
 | it s id h=>exact .cons (.it s id h) .nil
def Hg {v:V} (h:v.cells.length=n) (hn:0 < n):v≠.jk:=by
 rintro rfl;simp [V.cells] at h;omega
def Qbq {v:V} (h:VR m v x) (h1:v≠.jk):x.isAg=v.isAg:=by
 cases h<;>first|rfl|exact absurd rfl h1
def Hp {off:Nat} {v:V} (h:VRs m cs ds) (hv:prt ag off sz cs=some v):∃ x,prt ag off sz ds=some x∧VR m v x:=by
 unfold prt at hv ⊢;cases ag with
 | true =>
  simp only[if_true] at hv ⊢;split at hv
  ·rename_i hl;cases hv;have hs:=h.sub off sz
   exact⟨_,by rw[if_pos (by rw[h.len];exact hl)],.ag _ _ hs.len hs.at_⟩
  ·cases hv
 | false =>
  simp only[Bool.false_eq_true,if_false] at hv ⊢;exact h.get hv
def Xs:∀ (n:Nat) {vs xs cs ds:List V},VRs m vs xs→VRs m cs ds→VRs m (splice n vs cs) (splice n xs ds):=by
 intro n;induction n with
 | zero =>
  intro vs xs cs ds hv hc;induction vs generalizing xs cs ds with
  | nil =>
   rw[hv.inv0];cases cs with
   | nil=>rw[hc.inv0];exact .nil
   | cons c cs=>obtain⟨d,ds',rfl,h1,h2⟩:=hc.inv;exact .cons h1 h2
  | cons v vs ih =>
   obtain⟨x,xs',rfl,h1,h2⟩:=hv.inv;cases cs with
   | nil=>rw[hc.inv0];exact .nil
   | cons c cs=>obtain⟨d,ds',rfl,h3,h4⟩:=hc.inv;exact .cons h1 (ih h2 h4)
 | succ n ih =>
  intro vs xs cs ds hv hc;cases cs with
  | nil =>
   rw[hc.inv0];cases vs<;>cases xs<;>exact .nil
  | cons c cs =>
   obtain⟨d,ds',rfl,h3,h4⟩:=hc.inv
   have:=ih hv h4
   cases vs<;>cases xs<;>exact .cons h3 this
def ckP (ps:List (Nat × Nat × Od)):Bool:=ps.all fun p=>decide (0 < p.2.1)&&ckO p.2.2
def Qd1 (he:∀ t,VR m (e t) (e' t)):∀ (ps:List (Nat × Nat × Od)),ckP ps=true→∀ {cs ds zs:List V},VRs m cs ds→J3 e ps cs=some zs→∃ ws,J3 e' ps ds=some ws∧VRs m zs ws:=by
 intro ps;induction ps with
 | nil=>intro _ cs ds zs h hv;cases hv;exact⟨ds,rfl,h⟩
 | cons p ps ih =>
  intro hk cs ds zs h hv;obtain⟨off,sz,x⟩:=p;simp only[ckP,List.all_cons,Bool.and_eq_true,decide_eq_true_eq] at hk;simp only[J3] at hv ⊢;split at hv
  ·rename_i hc;have hx:=Qn he hk.1.2;have hcx:=YB hx (Hg hc.1 hk.1.1);rw[if_pos ⟨by rw[hcx.len];exact hc.1,by rw[h.len];exact hc.2⟩];exact ih hk.2 (Xs off hcx h) hv
  ·cases hv
def ckE (ps:List (Nat × Od)):Bool:=ps.all fun p=>ckO p.2
def Du (he:∀ t,VR m (e t) (e' t)) (hsz:0 < sz):∀ (ps:List (Nat × Od)),ckE ps=true→∀ {es fs gs:List (List V)},RRs m es fs→Yd e sz ps es=some gs→∃ hs,Yd e' sz ps fs=some hs∧RRs m gs hs:=by
 intro ps;induction ps with
 | nil=>intro _ es fs gs h hv;cases hv;exact⟨fs,rfl,h⟩
 | cons p ps ih =>
  intro hk es fs gs h hv;obtain⟨i,x⟩:=p;simp only[ckE,List.all_cons,Bool.and_eq_true] at hk;simp only[Yd] at hv ⊢;split at hv
  ·rename_i hc;have hcx:=YB (Qn he hk.1) (Hg hc.1 hsz);rw[if_pos ⟨by rw[hcx.len];exact hc.1,by rw[h.len];exact hc.2⟩];exact ih hk.2 (h.set hcx i) hv
  ·cases hv
def QmQ {l:Lf} {a b y:V} (ha:VR m a x) (hb:VR m b y) (h:lfEq l a b=some p):lfEq l x y=some p:=by
 cases ha<;>cases hb<;>first|exact h|(cases l<;>simp [lfEq] at h)
def Qg0:∀ (ks:List Lf) {a b x y:List V} {p:Bool},VRs m a x→VRs m b y→eqps ks a b=some p→eqps ks x y=some p:=by
 intro ks;induction ks with
 | nil =>
  intro a b x y p ha hb h;cases a<;>cases b<;>simp only[eqps] at h<;>(first|cases h;done|skip)
  ·rw[ha.inv0,hb.inv0];exact h
  all_goals cases h
 | cons k ks ih =>
  intro a b x y p ha hb h;cases a<;>cases b<;>simp only[eqps] at h<;>(first|(cases h;done)|skip);obtain⟨x1,x',rfl,h1,h2⟩:=ha.inv;obtain⟨y1,y',rfl,h3,h4⟩:=hb.inv;split at h
  ·rename_i p1 q1 e1 e2;simp only[eqps,QmQ h1 h3 e1,ih h2 h4 e2];exact h
  ·cases h
def QfQ {a b y:V} (hk:ks≠[]) (ha:VR m a x) (hb:VR m b y) (h:eqV ag ks a b=some p):eqV ag ks x y=some p:=by
 unfold eqV at h ⊢;split at h
 ·rename_i hc;have na:a≠.jk:=by
   rintro rfl;cases ks with
   | nil=>exact hk rfl
   | cons=>simp [V.cells,eqps] at h
  have nb:b≠.jk:=by
   rintro rfl;cases ks with
   | nil=>exact hk rfl
   | cons=>cases a.cells<;>simp [V.cells,eqps] at h
  rw[if_pos ⟨by rw[Qbq ha na];exact hc.1,by rw[Qbq hb nb];exact hc.2⟩];exact Qg0 ks (YB ha na) (YB hb nb) h
 ·cases h
def QgJ {v:V} (h:VR m v x) (hv:lenV v=some n):lenV x=some n:=by
 cases h<;>first|exact hv|(simp [lenV] at hv)
def QdR {v:V} (h:VR m v x) (hv:JZ v=some w):JZ x=some w∧VR m w w:=by
 cases h<;>simp only[JZ] at hv<;>(first|(cases hv;done)|skip);all_goals (cases hv;exact⟨rfl,.i _ _⟩)
def J9 {v:V} (h:VR m v x) (hv:natV v=some n):natV x=some n:=by
 cases h<;>first|exact hv|(simp [natV] at hv)
def ckOo:Option Od→Bool
 | none=>true
 | some x=>ckO x
def J4 (he:∀ t,VR m (e t) (e' t)) {z:Nat} {x:Option Od} (hx:ckOo x=true) (h:natO e z x=some n):natO e' z x=some n:=by
 cases x with
 | none=>exact h
 | some x=>exact J9 (Qn he hx) h
def QbX {l:Nat} {mx:Option Nat} {v:V} (hr:VR m v x) (hv:cutV sz l h mx v=some w):∃ y,cutV sz l h mx x=some y∧VR m w y:=by
 cases hr<;>simp only[cutV] at hv ⊢<;>(first|(cases hv;done)|skip)
 ·split at hv
  ·rename_i hc;cases hv;exact⟨_,by rw[if_pos hc],.nil⟩
  ·cases hv
 ·rename_i es hcl;cases mx with
  | none =>
   simp only at hv ⊢;split at hv
   ·rename_i hc;cases hv
    refine⟨_,by rw[if_pos hc],.sl _ ?_⟩
    rw[QW] at hcl ⊢;exact fun c hcm=>hcl c (List.mem_of_mem_take (List.mem_of_mem_drop hcm))
   ·cases hv
  | some q =>
   simp only at hv ⊢;split at hv
   ·rename_i hc;cases hv;exact⟨_,by rw[if_pos hc],.nil⟩
   ·cases hv
 ·rename_i s id sz' off len hs;cases mx with
  | none =>
   simp only at hv ⊢;split at hv
   ·rename_i hc;cases hv
    exact⟨_,by rw[if_pos hc],.rw _ _ _ _ _ hs⟩
   ·cases hv
  | some q =>
   simp only at hv ⊢;split at hv
   ·rename_i hc;cases hv;exact⟨_,by rw[if_pos hc],.nil⟩
   ·cases hv
def QdL {off:Nat} {v:V} (hr:VR m v x) (hv:adrV off v=some w):∃ y,adrV off x=some y∧VR m w y:=by
 cases hr<;>simp only[adrV] at hv ⊢<;>(first|(cases hv;done)|skip)
 ·cases hv;exact⟨_,rfl,.ip _ _ ‹_›⟩
 ·cases hv;exact⟨_,rfl,.pt _ _ _ _ ‹_›⟩
def QgY {v i i':V} (hr:VR m v x) (hi:VR m i i') (hv:ixpV sz v i=some w):∃ y,ixpV sz x i'=some y∧VR m w y:=by
 cases hi<;>(first|(cases v<;>simp [ixpV] at hv;done)|skip);cases hr<;>simp only[ixpV] at hv ⊢<;>(first|(cases hv;done)|skip)
 ·rename_i es hcl;split at hv
  ·rename_i hc;simp only[if_pos hc];split at hv
   ·rename_i c hcm;split at hv
    ·rename_i hl;cases hv
     refine⟨_,by rw[if_pos hl],.ip _ _ ?_⟩
     exact (QW es).1 hcl c (List.mem_of_getElem? hcm)
    ·cases hv
   ·cases hv
  ·cases hv
 ·split at hv
  ·rename_i hc;cases hv;exact⟨_,by rw[if_pos hc],.pt _ _ _ _ ‹_›⟩
  ·cases hv
 ·split at hv
  ·rename_i hc;cases hv;exact⟨_,by rw[if_pos hc],.pt _ _ _ _ ‹_›⟩
  ·cases hv
def QiE {l:Nat} {v:V} (hr:VR m v x) (hv:slaV n l h v=some w):∃ y,slaV n l h x=some y∧VR m w y:=by
 cases hr<;>simp only[slaV] at hv ⊢<;>(first|(cases hv;done)|skip)
 ·rename_i cs j hcl;split at hv
  ·rename_i hc;cases hv
   refine⟨_,by rw[if_pos hc],.sl _ ?_⟩
   rw[QW];intro c hcm;obtain⟨v,hv,rfl⟩:=List.mem_map.1 hcm;simp [cldL,(Qax cs).1 hcl v (List.mem_of_mem_drop (List.mem_of_mem_take hv))]
  ·cases hv
 ·split at hv
  ·rename_i hc;cases hv;exact⟨_,by rw[if_pos hc],.ra _ _ _ _ _ ‹_›⟩
  ·cases hv
def ckQ:Q→Bool
 | .mov x=>ckO x
 | .pick c a b=>ckO c&&ckO a&&ckO b
 | .bin _ x y=>ckO x&&ckO y
 | .eqb _ x y=>ckO x&&ckO y
 | .eqp _ _ ks x y=>!ks.isEmpty&&ckO x&&ckO y
 | .un _ x=>ckO x
 | .cv _ x=>ckO x
 | .fld _ _ _ x=>ckO x
 | .ixa _ _ _ x i=>ckO x&&ckO i
 | .ixs x i=>ckO x&&ckO i
 | .ext x _=>ckO x
 | .bld z ps=>cldL z&&ckP ps
 | .mkf _ cs=>cs.all ckO
 | .lit sz _ z ps=>decide (0 < sz)&&cldL z&&ckE ps
 | .len x=>ckO x
 | .lns x=>ckO x
 | .cap x=>ckO x
 | .slc _ x a b c=>ckO x&&ckOo a&&ckOo b&&ckOo c
 | .sls x a b=>ckO x&&ckOo a&&ckOo b
 | .adr _ x=>ckO x
 | .ixp _ x i=>ckO x&&ckO i
 | .ixq _ _ x i=>ckO x&&ckO i
 | .sla _ x a b=>ckO x&&ckOo a&&ckOo b
 | .mx _ x y=>ckO x&&ckO y
 | .nck x=>ckO x
def Qho {o:BinOp} {a b y:V} (ha:VR m a x) (hb:VR m b y) (hv:binV o a b=some w):binV o x y=some w∧VR m w w:=by
 have hw:∀ {w:V},binV o a b=some w→cld w=true:=by
  intro w h;cases a<;>cases b<;>simp only[binV] at h<;>(first|(cases h;done)|skip)
  ·split at h
   ·cases o<;>simp only[Dt] at h<;>(first|(cases h;done)|skip);all_goals (split at h<;>(first|(cases h;done)|(cases h;rfl)))
   ·split at h
    ·cases o<;>simp only[Y7] at h<;>(first|(cases h;done)|(cases h;rfl)|skip);all_goals (split at h<;>(first|(cases h;done)|(cases h;rfl)))
    ·cases h
  ·cases o<;>simp only[strV] at h<;>(first|(cases h;done)|(cases h;rfl)|skip);split at h<;>(first|(cases h;done)|(cases h;rfl))
 refine⟨?_,YN m w (hw hv)⟩
 cases ha<;>(first|(cases b<;>simp [binV] at hv;done)|skip);all_goals (cases hb<;>first|exact hv|(simp [binV] at hv))
def Qma (he:∀ t,VR m (e t) (e' t)) {q:Q} (hk:ckQ q=true) {v:V} (hv:qv e q=some v):∃ x,qv e' q=some x∧VR m v x:=by
 cases q with
 | mov x=>simp only[qv,Option.some.injEq] at hv;subst hv;exact⟨_,rfl,Qn he hk⟩
 | pick c a b =>
  simp only[ckQ,Bool.and_eq_true] at hk;simp only[qv] at hv ⊢;have hc:=Qn he hk.1.1;split at hv<;>rename_i hcv
  ·rw[hcv] at hc;cases hv;generalize hg:c.ev e'=z at hc;cases hc
   exact⟨_,rfl,Qn he hk.1.2⟩
  ·rw[hcv] at hc;cases hv;generalize hg:c.ev e'=z at hc;cases hc
   exact⟨_,rfl,Qn he hk.2⟩
  ·cases hv
 | bin o x y =>
  simp only[ckQ,Bool.and_eq_true] at hk;obtain⟨h1,h2⟩:=Qho (Qn he hk.1) (Qn he hk.2) hv
  exact⟨v,h1,h2⟩
 | eqb neg x y =>
  simp only[ckQ,Bool.and_eq_true] at hk;simp only[qv] at hv ⊢;have hx:=Qn he hk.1;have hy:=Qn he hk.2;generalize x.ev e=a at hv hx;generalize y.ev e=b at hv hy;cases a<;>cases b<;>simp only[eqbV] at hv<;>(first|(cases hv;done)|skip);cases hv;generalize hg:x.ev e'=a' at hx;generalize hg2:y.ev e'=b' at hy;cases hx;cases hy
  exact⟨_,rfl,.bo _⟩
 | eqp neg ag ks x y =>
  simp only[ckQ,Bool.and_eq_true,Bool.not_eq_true',List.isEmpty_eq_false_iff] at hk;simp only[qv] at hv ⊢;cases hq:eqV ag ks (x.ev e) (y.ev e) with
  | none=>rw[hq] at hv;cases hv
  | some p =>
   rw[hq] at hv;cases hv
   exact⟨_,by rw[QfQ hk.1.1 (Qn he hk.1.2) (Qn he hk.2) hq];rfl,.bo _⟩
 | un o x =>
  simp only[qv] at hv ⊢;have hx:=Qn he (x:=x) hk;generalize x.ev e=a at hv hx;generalize hg:x.ev e'=a' at hx;cases hx<;>simp only[unV] at hv<;>(first|(cases hv;done)|skip)
  ·cases o<;>simp only at hv<;>(first|(cases hv;done)|skip);cases hv;exact⟨_,rfl,.bo _⟩
  ·cases o<;>simp only at hv<;>(first|(cases hv;done)|skip);all_goals (cases hv;exact⟨_,rfl,.i _ _⟩)
 | cv k x =>
  simp only[qv] at hv ⊢;have hx:=Qn he (x:=x) hk;generalize x.ev e=a at hv hx;generalize hg:x.ev e'=a' at hx;cases hx<;>simp only at hv<;>(first|(cases hv;done)|skip);cases hv;exact⟨_,rfl,.i _ _⟩
 | fld off sz ag x =>
  simp only[qv] at hv ⊢;have hx:=Qn he (x:=x) hk;generalize x.ev e=a at hv hx;generalize hg:x.ev e'=a' at hx;cases hx<;>simp only[fldV] at hv<;>(first|(cases hv;done)|skip);exact Hp ⟨‹_›,‹_›⟩ hv
 | ixa n sz ag x i =>
  simp only[ckQ,Bool.and_eq_true] at hk;simp only[qv] at hv ⊢;have hx:=Qn he hk.1;have hi:=Qn he hk.2;generalize x.ev e=a at hv hx;generalize hg:x.ev e'=a' at hx;generalize i.ev e=b at hv hi;generalize hg2:i.ev e'=b' at hi;cases hi<;>(first|(cases a<;>simp [ixaV] at hv;done)|skip);cases hx<;>simp only[ixaV] at hv ⊢<;>(first|(cases hv;done)|skip);split at hv
  ·rename_i hc;rw[if_pos hc];exact Hp ⟨‹_›,‹_›⟩ hv
  ·cases hv
 | ixs x i =>
  simp only[ckQ,Bool.and_eq_true] at hk;simp only[qv] at hv ⊢;have hx:=Qn he hk.1;have hi:=Qn he hk.2;generalize x.ev e=a at hv hx;generalize hg:x.ev e'=a' at hx;generalize i.ev e=b at hv hi;generalize hg2:i.ev e'=b' at hi;cases hi<;>(first|(cases a<;>simp [ixsV] at hv;done)|skip);cases hx<;>simp only[ixsV] at hv ⊢<;>(first|(cases hv;done)|skip)
  refine⟨v,hv,YN m v ?_⟩
  split at hv
  ·obtain⟨c,_,rfl⟩:=Option.map_eq_some_iff.1 hv;rfl
  ·cases hv
 | ext x j =>
  simp only[qv] at hv ⊢;have hx:=Qn he (x:=x) hk;generalize x.ev e=a at hv hx;generalize hg:x.ev e'=a' at hx;cases hx<;>simp only[extV] at hv ⊢<;>(first|(cases hv;done)|skip);exact VRs.get ⟨‹_›,‹_›⟩ hv
 | bld z ps =>
  simp only[ckQ,Bool.and_eq_true] at hk;simp only[qv] at hv ⊢;obtain⟨zs,h1,rfl⟩:=Option.map_eq_some_iff.1 hv;obtain⟨ws,h2,h3⟩:=Qd1 he ps hk.2 (Q9 m z hk.1) h1
  exact⟨.ag ws,by rw[h2];rfl,.ag _ _ h3.len h3.at_⟩
 | lit sz n z ps =>
  simp only[ckQ,Bool.and_eq_true,decide_eq_true_eq] at hk;simp only[qv,litV] at hv ⊢;split at hv
  ·rename_i es hf;split at hv
   ·rename_i hc;cases hv;obtain⟨fs,h1,h2⟩:=Du he hk.1.1 ps hk.2 (RRs.rep (Q9 m z hk.1.2) n) hf;have hsc:∀ {v x:V},Qd8 v=true→VR m v x→x=v∧cld v=true:=fun {v x} h1 h2=>by cases h2<;>first|exact⟨rfl,rfl⟩|exact⟨rfl,‹_›⟩|(cases h1)
    have hall:∀ c∈es,∀ v∈c,Qd8 v=true:=fun c hc2 v hv=>List.all_eq_true.1 (List.all_eq_true.1 hc.2 c hc2) v hv;have hfs:fs=es:=by
     apply List.ext_getElem?;intro j;cases hcj:es[j]? with
     | none=>rw[List.getElem?_eq_none_iff] at hcj ⊢;rw[h2.len];exact hcj
     | some c =>
      obtain⟨d,hd,hcd⟩:=h2.get hcj;rw[hd];congr 1;apply List.ext_getElem?;intro i;cases hvi:c[i]? with
      | none=>rw[List.getElem?_eq_none_iff] at hvi ⊢;rw[hcd.len];exact hvi
      | some v =>
       obtain⟨x,hx,hvx⟩:=hcd.get hvi;rw[hx,(hsc (hall c (List.mem_of_getElem? hcj) v (List.mem_of_getElem? hvi)) hvx).1]
    subst hfs
    refine⟨_,by rw[h1];simp only;rw[if_pos hc],.sl _ ?_⟩
    rw[QW];intro c hc2;obtain⟨c0,hc3,rfl⟩:=List.mem_map.1 hc2;rw[Qax];intro v hv;obtain⟨v0,hv0,rfl⟩:=List.mem_map.1 hv;obtain⟨j,hj⟩:=List.mem_iff_getElem?.1 hc3;obtain⟨i,hi⟩:=List.mem_iff_getElem?.1 hv0;obtain⟨d,_,hcd⟩:=h2.get hj;obtain⟨x,_,hvx⟩:=hcd.get hi;have hcl:=(hsc (hall c0 hc3 v0 hv0) hvx).2;cases v0<;>first|exact hcl|rfl
   ·cases hv
  ·cases hv
 | mkf g cs =>
  simp only[qv,Option.some.injEq] at hv;subst hv;have h:=Ww he (l:=cs) hk
  exact⟨_,rfl,.fn g _ _ h.len h.at_⟩
 | len x=>exact⟨v,QdR (Qn he (x:=x) hk) hv⟩
 | lns x =>
  simp only[qv] at hv ⊢;have hx:=Qn he (x:=x) hk;generalize x.ev e=a at hv hx;generalize hg:x.ev e'=a' at hx;cases hx<;>simp only at hv<;>(first|(cases hv;done)|skip);cases hv;exact⟨_,rfl,.i _ _⟩
 | cap x =>
  simp only[qv] at hv ⊢;have hx:=Qn he (x:=x) hk;generalize x.ev e=a at hv hx;generalize hg:x.ev e'=a' at hx;cases hx<;>simp only at hv<;>(first|(cases hv;done)|skip);cases hv;exact⟨_,rfl,.i _ _⟩
 | slc sz x lo hi mx =>
  simp only[ckQ,Bool.and_eq_true] at hk;have hx:=Qn he hk.1.1.1;simp only[qv,slcV] at hv ⊢;cases hl:lenV (x.ev e) with
  | none=>rw[hl] at hv;cases hv
  | some n =>
   rw[hl] at hv;rw[QgJ hx hl];simp only at hv ⊢;cases h1:natO e 0 lo with
   | none=>rw[h1] at hv;cases hv
   | some l =>
    rw[h1] at hv;rw[J4 he hk.1.1.2 h1];cases h2:natO e n hi with
    | none=>rw[h2] at hv;cases hv
    | some h =>
     rw[h2] at hv;rw[J4 he hk.1.2 h2];cases mx with
     | none=>exact QbX hx hv
     | some q =>
      simp only at hv ⊢;cases h3:natV (q.ev e) with
      | none=>rw[h3] at hv;cases hv
      | some z =>
       rw[h3] at hv;rw[J9 (Qn he (x:=q) hk.2) h3];exact QbX hx hv
 | sls x lo hi =>
  simp only[ckQ,Bool.and_eq_true] at hk;have hx:=Qn he hk.1.1;simp only[qv] at hv ⊢;generalize x.ev e=a at hv hx;generalize hg:x.ev e'=a' at hx;cases hx<;>simp only at hv ⊢<;>(first|(cases hv;done)|skip);rename_i y;cases h1:natO e 0 lo with
  | none=>rw[h1] at hv;cases hv
  | some l =>
   cases h2:natO e y.size hi with
   | none=>rw[h1,h2] at hv;cases hv
   | some h =>
    rw[h1,h2] at hv;rw[J4 he hk.1.2 h1,J4 he hk.2 h2];simp only at hv ⊢
    refine⟨v,hv,YN m v ?_⟩
    split at hv
    ·cases hv;rfl
    ·cases hv
 | adr off x=>exact QdL (Qn he (x:=x) hk) hv
 | ixp sz x i =>
  simp only[ckQ,Bool.and_eq_true] at hk;exact QgY (Qn he hk.1) (Qn he hk.2) hv
 | ixq n sz x i =>
  simp only[ckQ,Bool.and_eq_true] at hk;simp only[qv] at hv ⊢;have hx:=Qn he hk.1;have hi:=Qn he hk.2;generalize i.ev e=b at hv hi;generalize hg2:i.ev e'=b' at hi;cases hi<;>simp only[ixqV] at hv ⊢<;>(first|(cases hv;done)|skip);split at hv
  ·rename_i hc;rw[if_pos hc];exact QdL hx hv
  ·cases hv
 | sla n x lo hi =>
  simp only[ckQ,Bool.and_eq_true] at hk;have hx:=Qn he hk.1.1;simp only[qv] at hv ⊢;cases h1:natO e 0 lo with
  | none=>rw[h1] at hv;cases hv
  | some l =>
   cases h2:natO e n hi with
   | none=>rw[h1,h2] at hv;cases hv
   | some h =>
    rw[h1,h2] at hv;rw[J4 he hk.1.2 h1,J4 he hk.2 h2];exact QiE hx hv
 | mx b x y =>
  simp only[ckQ,Bool.and_eq_true] at hk;simp only[qv] at hv ⊢;have hx:=Qn he hk.1;have hy:=Qn he hk.2;generalize x.ev e=a at hv hx;generalize y.ev e=c at hv hy;cases a<;>cases c<;>simp only[mxV] at hv<;>(first|(cases hv;done)|skip);cases hv;generalize hg:x.ev e'=a' at hx;generalize hg2:y.ev e'=b' at hy;cases hx;cases hy
  exact⟨_,rfl,.i _ _⟩
 | nck x =>
  simp only[qv] at hv ⊢;have hx:=Qn he (x:=x) hk;generalize x.ev e=a at hv hx;generalize hg:x.ev e'=a' at hx;cases hx<;>simp only[nckV] at hv ⊢<;>(first|(cases hv;done)|skip)
  ·cases hv;exact⟨_,rfl,.fn _ _ _ ‹_› ‹_›⟩
  ·cases hv;exact⟨_,rfl,.ip _ _ ‹_›⟩
  ·cases hv;exact⟨_,rfl,.pt _ _ _ _ ‹_›⟩
end
section
variable {m:Nm} {o o':O}
def Je (hs:SR m o o') {v:V} (hr:VR m v x) (hv:Qz o v=some (cs,j)):∃ ds,Qz o' x=some (ds,j)∧VRs m cs ds:=by
 cases hr<;>simp only[Qz] at hv ⊢<;>(first|(cases hv;done)|skip)
 ·cases hv;exact⟨_,rfl,Q9 m _ ‹_›⟩
 ·rename_i s id i j2 hm;cases ho:o s with
  | none=>rw[ho] at hv;cases hv
  | some ob =>
   obtain⟨id2,y,h1,h2,h3⟩:=hs.ob s ob ho;rw[hm] at h1;cases h1;rw[ho] at hv;cases h3 with
   | row sz es fs h =>
    simp only at hv;cases hc:es[i]? with
    | none=>rw[hc] at hv;cases hv
    | some c =>
     rw[hc] at hv;cases hv;obtain⟨d,hd,hcd⟩:=h.get hc
     exact⟨d,by simp only[h2,hd],hcd⟩
   | map=>simp at hv
   | iter=>simp at hv
def QcI (hs:SR m o o') {mp:Bool} {v:V} (hr:VR m v x) (hv:isnV o mp neg v=some w):isnV o' mp neg x=some w∧VR m w w:=by
 have hcl:∀ {w:V},isnV o mp neg v=some w→cld w=true:=by
  intro w h;cases v<;>simp only[isnV] at h<;>(first|(cases h;done)|skip);all_goals (split at h<;>(first|(cases h;done)|(cases h;rfl)|skip))
  all_goals (obtain⟨_,_,rfl⟩:=Option.map_eq_some_iff.1 h;rfl)
 refine⟨?_,YN m w (hcl hv)⟩
 cases hr<;>simp only[isnV] at hv ⊢<;>(first|(cases hv;done)|exact hv|skip)
 ·rename_i s id i j hm;split at hv
  ·cases hv
  ·rename_i hc;rw[if_neg hc];obtain⟨y,hy,rfl⟩:=Option.map_eq_some_iff.1 hv;obtain⟨z,hz⟩:=hs.live s id hm;rw[hz];rfl
 ·rename_i s id hm;split at hv
  ·rename_i hc;rw[if_pos hc];obtain⟨y,hy,rfl⟩:=Option.map_eq_some_iff.1 hv;obtain⟨z,hz⟩:=hs.live s id hm;rw[hz];rfl
  ·cases hv
def DM (hs:SR m o o') {v:V} (hr:VR m v x) (hv:src o v=some es):∃ fs,src o' x=some fs∧RRs m es fs:=by
 cases hr<;>simp only[src] at hv ⊢<;>(first|(cases hv;done)|skip)
 ·cases hv;exact⟨_,rfl,rfl,SM⟩
 ·cases hv;exact⟨_,rfl,Jz m ‹_›⟩
 ·rename_i s id sz off len hm;cases ho:o s with
  | none=>rw[ho] at hv;cases hv
  | some ob =>
   obtain⟨id2,y,h1,h2,h3⟩:=hs.ob s ob ho;rw[hm] at h1;cases h1;rw[ho] at hv;cases h3 with
   | row sz2 es2 fs h =>
    simp only at hv;split at hv
    ·rename_i hl;cases hv
     exact⟨_,by simp only[h2];rw[if_pos (by rw[h.len];exact hl)],h.sub off len⟩
    ·cases hv
   | map=>simp at hv
   | iter=>simp at hv
 ·rename_i s id i j len hm;cases ho:o s with
  | none=>rw[ho] at hv;cases hv
  | some ob =>
   obtain⟨id2,y,h1,h2,h3⟩:=hs.ob s ob ho;rw[hm] at h1;cases h1;rw[ho] at hv;cases h3 with
   | row sz2 es2 fs h =>
    simp only at hv;cases hc:es2[i]? with
    | none=>rw[hc] at hv;cases hv
    | some c =>
     rw[hc] at hv;simp only at hv;obtain⟨d,hd,hcd⟩:=h.get hc;split at hv
     ·rename_i hl;cases hv
      refine⟨_,by simp only[h2,hd];rw[if_pos (by rw[hcd.len];exact hl)],?_⟩
      have hsub:=hcd.sub j len
      refine⟨by simp [hcd.len],fun q a b ha hb=>?_⟩
      rw[List.getElem?_map] at ha hb;cases h5:((c.drop j).take len)[q]? with
      | none=>rw[h5] at ha;cases ha
      | some u =>
       obtain⟨z,hz,hzu⟩:=hsub.get h5;rw[h5] at ha;rw[hz] at hb;cases ha;cases hb;exact .cons hzu .nil
     ·cases hv
   | map=>simp at hv
   | iter=>simp at hv
def frzU:Nat→O→V→Option V
 | 0,_,_=>none
 | n+1,o,.ag cs=>(cs.mapM (frzU n o)).map .ag
 | n+1,o,.tp vs=>(vs.mapM (frzU n o)).map .tp
 | _+1,_,.nil=>some (.sl [])
 | n+1,o,.rw id sz off len=>match src o (.rw id sz off len) with
  | some es=>(es.mapM fun c:List V=>c.mapM (frzU n o)).map .sl
  | none=>none
 | n+1,o,.ra id i j len=>match src o (.ra id i j len) with
  | some es=>(es.mapM fun c:List V=>c.mapM (frzU n o)).map .sl
  | none=>none
 | n+1,o,.pt id i j=>match Qz o (.pt id i j) with
  | some (cs,j)=>(cs.mapM (frzU n o)).map fun cs=>.ip cs j
  | none=>none
 | n+1,o,.fn g cs=>(cs.mapM (frzU n o)).map (.fn g)
 | _+1,_,.mp _=>none
 | _+1,_,.it _=>none
 | _+1,_,.jk=>none
 | _+1,_,v=>some v
def fzU (o:O) (v:V):Option V:=frzU FZ o v
def fzsU (o:O) (vs:List V):Option (List V):=vs.mapM (fzU o)
def Wn {f g:V→Option V} (h:VRs m cs ds) (hf:∀ v x w,VR m v x→f v=some w→g x=some w) (hv:cs.mapM f=some ws):ds.mapM g=some ws:=by
 induction cs generalizing ds ws with
 | nil=>rw[h.inv0];exact hv
 | cons c cs ih =>
  obtain⟨d,ds',rfl,h1,h2⟩:=h.inv;obtain⟨w,ws',e1,e2,rfl⟩:=Z6 hv;simp [hf c d w h1 e1,ih h2 e2]
def D1 {f g:V→Option V} {ws:List (List V)} (h:RRs m es fs) (hf:∀ v x w,VR m v x→f v=some w→g x=some w) (hv:(es.mapM fun c:List V=>c.mapM f)=some ws):(fs.mapM fun c:List V=>c.mapM g)=some ws:=by
 induction es generalizing fs ws with
 | nil =>
  have:fs=[]:=List.eq_nil_of_length_eq_zero (by simpa using h.len)
  rw[this];exact hv
 | cons c es ih =>
  cases fs with
  | nil=>have:=h.len;simp at this
  | cons d fs =>
   obtain⟨w,ws',e1,e2,rfl⟩:=Z6 hv;have h1:=h.at_ 0 c d rfl rfl;have h2:RRs m es fs:=⟨by simpa using h.len,fun j a b ha hb=>h.at_ (j+1) a b (by simpa using ha) (by simpa using hb)⟩;simp [Wn h1 hf e1,ih h2 e2]
def Qk4 (hs:SR m o o'):∀ (n:Nat) (v x w:V),VR m v x→frzU n o v=some w→frz n o' x=some w:=by
 intro n;induction n with
 | zero=>intro v x w _ h;cases h
 | succ n ih =>
  intro v x w hr h;cases hr with
  | jk x=>cases h
  | ag cs ds hl hh =>
   simp only[frzU] at h;simp only[frz];obtain⟨ws,h1,rfl⟩:=Option.map_eq_some_iff.1 h;rw[Wn ⟨hl,hh⟩ ih h1];rfl
  | tp cs ds hl hh =>
   simp only[frzU] at h;simp only[frz];obtain⟨ws,h1,rfl⟩:=Option.map_eq_some_iff.1 h;rw[Wn ⟨hl,hh⟩ ih h1];rfl
  | fn g cs ds hl hh =>
   simp only[frzU] at h;simp only[frz];obtain⟨ws,h1,rfl⟩:=Option.map_eq_some_iff.1 h;rw[Wn ⟨hl,hh⟩ ih h1];rfl
  | rw s id sz off len hm =>
   simp only[frzU] at h;simp only[frz];cases hsrc:src o (.rw s sz off len) with
   | none=>rw[hsrc] at h;cases h
   | some es =>
    rw[hsrc] at h;obtain⟨fs,h1,h2⟩:=DM hs (.rw s id sz off len hm) hsrc;obtain⟨ws,h3,rfl⟩:=Option.map_eq_some_iff.1 h;rw[h1];simp only;rw[D1 h2 ih h3];rfl
  | ra s id i j len hm =>
   simp only[frzU] at h;simp only[frz];cases hsrc:src o (.ra s i j len) with
   | none=>rw[hsrc] at h;cases h
   | some es =>
    rw[hsrc] at h;obtain⟨fs,h1,h2⟩:=DM hs (.ra s id i j len hm) hsrc;obtain⟨ws,h3,rfl⟩:=Option.map_eq_some_iff.1 h;rw[h1];simp only;rw[D1 h2 ih h3];rfl
  | pt s id i j hm =>
   simp only[frzU] at h;simp only[frz];cases hc:Qz o (.pt s i j) with
   | none=>rw[hc] at h;cases h
   | some p =>
    obtain⟨cs,j2⟩:=p;rw[hc] at h;obtain⟨ds,h1,h2⟩:=Je hs (.pt s id i j hm) hc;obtain⟨ws,h3,rfl⟩:=Option.map_eq_some_iff.1 h;rw[h1];simp only;rw[Wn h2 ih h3];rfl
  | mp=>cases h
  | it=>cases h
  | bo p=>exact h
  | i k n=>exact h
  | s y=>exact h
  | nil=>exact h
  | sl es hh=>exact h
  | ip cs j hh=>exact h
  | np=>exact h
  | nf=>exact h
  | nm=>exact h
def Qka (hs:SR m o o') {v:V} (h:VR m v x) (hf:fzU o v=some w):fz o' x=some w:=Qk4 hs FZ v x w h hf
def Qi7 (hs:SR m o o') (h:VRs m vs xs) (hf:fzsU o vs=some ws):fzs o' xs=some ws:=Wn h (fun _ _ _ h1 h2=>Qka hs h1 h2) hf
end
mutual
def ren (f:Nat→Nat):V→V
 | .ag cs=>.ag (renL f cs)
 | .tp cs=>.tp (renL f cs)
 | .fn g cs=>.fn g (renL f cs)
 | .sl es=>.sl es
 | .ip cs j=>.ip cs j
 | .rw i sz off len=>.rw (f i) sz off len
 | .ra i k j len=>.ra (f i) k j len
 | .pt i k j=>.pt (f i) k j
 | .mp i=>.mp (f i)
 | .it i=>.it (f i)
 | .jk=>.jk
 | .bo p=>.bo p
 | .i k n=>.i k n
 | .s y=>.s y
 | .nil=>.nil
 | .np=>.np
 | .nf=>.nf
 | .nm=>.nm
def renL (f:Nat→Nat):List V→List V
 | []=>[]
 | v::vs=>ren f v::renL f vs
end
def Qj (f:Nat→Nat):Ob→Ob
 | .row sz rs=>.row sz (rs.map (renL f))
 | .map ents clock=>.map (ents.map fun x=>(x.1,ren f x.2.1,ren f x.2.2)) clock
 | .iter mp since seen stepped=>.iter (mp.map f) since seen stepped
mutual
def rfI (D:List Nat):V→Bool
 | .ag cs=>rfL D cs
 | .tp cs=>rfL D cs
 | .fn _ cs=>rfL D cs
 | .sl _=>true
 | .ip _ _=>true
 | .rw i _ _ _=>D.contains i
 | .ra i _ _ _=>D.contains i
 | .pt i _ _=>D.contains i
 | .mp i=>D.contains i
 | .it i=>D.contains i
 | .jk=>true
 | .bo _=>true
 | .i _ _=>true
 | .s _=>true
 | .nil=>true
 | .np=>true
 | .nf=>true
 | .nm=>true
def rfL (D:List Nat):List V→Bool
 | []=>true
 | v::vs=>rfI D v&&rfL D vs
end
def rfOb (D:List Nat):Ob→Bool
 | .row _ rs=>rs.all (rfL D)
 | .map ents _=>ents.all fun x=>rfI D x.2.1&&rfI D x.2.2
 | .iter mp _ _ _=>match mp with
  | some s=>D.contains s
  | none=>true
def WE (f:Nat→Nat) (cs:List V):renL f cs=cs.map (ren f):=by
 induction cs with
 | nil=>rfl
 | cons v cs ih=>simp [renL,ih]
def Qbx (D:List Nat) (cs:List V):rfL D cs=true↔∀ v∈cs,rfI D v=true:=by
 induction cs with
 | nil=>simp [rfL]
 | cons v cs ih=>simp [rfL,ih]
mutual
theorem XF (D:List Nat):∀ (v:V),cld v=true→rfI D v=true
 | .ag cs,h=>by rw[cld] at h;rw[rfI];exact Xv D cs h
 | .tp cs,h=>by rw[cld] at h;rw[rfI];exact Xv D cs h
 | .fn _ cs,h=>by rw[cld] at h;rw[rfI];exact Xv D cs h
 | .sl _,_=>by rw[rfI]
 | .ip _ _,_=>by rw[rfI]
 | .rw _ _ _ _,h=>by rw[cld] at h;cases h
 | .ra _ _ _ _,h=>by rw[cld] at h;cases h
 | .pt _ _ _,h=>by rw[cld] at h;cases h
 | .mp _,h=>by rw[cld] at h;cases h
 | .it _,h=>by rw[cld] at h;cases h
 | .jk,_=>by rw[rfI]
 | .bo _,_=>by rw[rfI]
 | .i _ _,_=>by rw[rfI]
 | .s _,_=>by rw[rfI]
 | .nil,_=>by rw[rfI]
 | .np,_=>by rw[rfI]
 | .nf,_=>by rw[rfI]
 | .nm,_=>by rw[rfI]
theorem Xv (D:List Nat):∀ (vs:List V),cldL vs=true→rfL D vs=true
 | [],_=>rfl
 | v::vs,h=>by
  rw[cldL,Bool.and_eq_true] at h;rw[rfL,XF D v h.1,Xv D vs h.2];rfl
end
mutual
theorem Kr (f:Nat→Nat):∀ (v:V),cld v=true→ren f v=v
 | .ag cs,h=>by rw[cld] at h;rw[ren,JY f cs h]
 | .tp cs,h=>by rw[cld] at h;rw[ren,JY f cs h]
 | .fn _ cs,h=>by rw[cld] at h;rw[ren,JY f cs h]
 | .sl _,_=>by rw[ren]
 | .ip _ _,_=>by rw[ren]
 | .rw _ _ _ _,h=>by rw[cld] at h;cases h
 | .ra _ _ _ _,h=>by rw[cld] at h;cases h
 | .pt _ _ _,h=>by rw[cld] at h;cases h
 | .mp _,h=>by rw[cld] at h;cases h
 | .it _,h=>by rw[cld] at h;cases h
 | .jk,_=>by rw[ren]
 | .bo _,_=>by rw[ren]
 | .i _ _,_=>by rw[ren]
 | .s _,_=>by rw[ren]
 | .nil,_=>by rw[ren]
 | .np,_=>by rw[ren]
 | .nf,_=>by rw[ren]
 | .nm,_=>by rw[ren]
theorem JY (f:Nat→Nat):∀ (vs:List V),cldL vs=true→renL f vs=vs
 | [],_=>rfl
 | v::vs,h=>by
  rw[cldL,Bool.and_eq_true] at h;rw[renL,Kr f v h.1,JY f vs h.2]
end
def VR.push (D:List Nat) (hm:∀ s id,D.contains s=true→m s=some id→m1 (f s)=some id) {v:V} (h:VR m v x) (hr:rfI D v=true):VR m1 (ren f v) x:=by
 have lst:∀ {cs ds:List V},ds.length=cs.length→(∀ (j:Nat) v x,cs[j]?=some v→ds[j]?=some x→rfI D v=true→VR m1 (ren f v) x)→rfL D cs=true→VRs m1 (renL f cs) ds:=by
  intro cs ds hl hh hk;rw[WE]
  refine⟨by simpa using hl,fun j v x hv hx=>?_⟩
  rw[List.getElem?_map] at hv;cases hc:cs[j]? with
  | none=>rw[hc] at hv;cases hv
  | some u=>rw[hc] at hv;cases hv;exact hh j u x hc hx ((Qbx D cs).1 hk u (List.mem_of_getElem? hc))
 induction h with
 | jk x=>rw[ren];exact .jk x
 | ag cs ds hl _ ih=>rw[rfI] at hr;rw[ren];exact .ag _ _ (lst hl ih hr).len (lst hl ih hr).at_
 | tp cs ds hl _ ih=>rw[rfI] at hr;rw[ren];exact .tp _ _ (lst hl ih hr).len (lst hl ih hr).at_
 | fn g cs ds hl _ ih=>rw[rfI] at hr;rw[ren];exact .fn g _ _ (lst hl ih hr).len (lst hl ih hr).at_
 | rw s id sz off len h=>rw[rfI] at hr;rw[ren];exact .rw _ id sz off len (hm s id hr h)
 | ra s id i j len h=>rw[rfI] at hr;rw[ren];exact .ra _ id i j len (hm s id hr h)
 | pt s id i j h=>rw[rfI] at hr;rw[ren];exact .pt _ id i j (hm s id hr h)
 | mp s id h=>rw[rfI] at hr;rw[ren];exact .mp _ id (hm s id hr h)
 | it s id h=>rw[rfI] at hr;rw[ren];exact .it _ id (hm s id hr h)
 | bo p=>rw[ren];exact .bo p
 | i k n=>rw[ren];exact .i k n
 | s y=>rw[ren];exact .s y
 | nil=>rw[ren];exact .nil
 | sl es h=>rw[ren];exact .sl es h
 | ip cs j h=>rw[ren];exact .ip cs j h
 | np=>rw[ren];exact .np
 | nf=>rw[ren];exact .nf
 | nm=>rw[ren];exact .nm
theorem VRs.push {m m1:Nm} {f:Nat→Nat} (D:List Nat) (hm:∀ s id,D.contains s=true→m s=some id→m1 (f s)=some id) {cs ds:List V} (h:VRs m cs ds) (hr:rfL D cs=true):VRs m1 (renL f cs) ds:=by
 rw[WE]
 refine⟨by simpa using h.len,fun j v x hv hx=>?_⟩
 rw[List.getElem?_map] at hv;cases hc:cs[j]? with
 | none=>rw[hc] at hv;cases hv
 | some u=>rw[hc] at hv;cases hv;exact (h.at_ j u x hc hx).push D hm ((Qbx D cs).1 hr u (List.mem_of_getElem? hc))
theorem OR.push {m m1:Nm} {f:Nat→Nat} (D:List Nat) (hm:∀ s id,D.contains s=true→m s=some id→m1 (f s)=some id) {x y:Ob} (h:OR m x y) (hr:rfOb D x=true):OR m1 (Qj f x) y:=by
 cases h with
 | row sz es fs h =>
  simp only[rfOb,List.all_eq_true] at hr;refine .row sz _ fs ⟨by simpa using h.len,fun j c d hc hd=>?_⟩;rw[List.getElem?_map] at hc;cases hk:es[j]? with
  | none=>rw[hk] at hc;cases hc
  | some u=>rw[hk] at hc;cases hc;exact (h.at_ j u d hk hd).push D hm (hr u (List.mem_of_getElem? hk))
 | map es fs clock hl h =>
  simp only[rfOb,List.all_eq_true,Bool.and_eq_true] at hr;refine .map _ fs clock (by simpa using hl) fun j a b ha hb=>?_;rw[List.getElem?_map] at ha;cases hk:es[j]? with
  | none=>rw[hk] at ha;cases ha
  | some u =>
   rw[hk] at ha;cases ha;obtain⟨h1,h2,h3⟩:=h j u b hk hb
   have:=hr u (List.mem_of_getElem? hk)
   exact⟨h1,h2.push D hm this.1,h3.push D hm this.2⟩
 | iter a b since seen stepped h =>
  refine .iter (a.map f) b since seen stepped ?_;cases a with
  | none=>cases b<;>exact h
  | some s =>
   cases b with
   | none=>exact h
   | some id=>exact hm s id hr h
def VR.push0 (hm:∀ s id,m s=some id→m1 (f s)=some id) {v:V} (h:VR m v x):VR m1 (ren f v) x:=by
 have lst:∀ {cs ds:List V},ds.length=cs.length→(∀ (j:Nat) v x,cs[j]?=some v→ds[j]?=some x→VR m1 (ren f v) x)→VRs m1 (renL f cs) ds:=by
  intro cs ds hl hh;rw[WE]
  refine⟨by simpa using hl,fun j v x hv hx=>?_⟩
  rw[List.getElem?_map] at hv;cases hc:cs[j]? with
  | none=>rw[hc] at hv;cases hv
  | some u=>rw[hc] at hv;cases hv;exact hh j u x hc hx
 induction h with
 | jk x=>rw[ren];exact .jk x
 | ag cs ds hl _ ih=>rw[ren];exact .ag _ _ (lst hl ih).len (lst hl ih).at_
 | tp cs ds hl _ ih=>rw[ren];exact .tp _ _ (lst hl ih).len (lst hl ih).at_
 | fn g cs ds hl _ ih=>rw[ren];exact .fn g _ _ (lst hl ih).len (lst hl ih).at_
 | rw s id sz off len h=>rw[ren];exact .rw _ id sz off len (hm s id h)
 | ra s id i j len h=>rw[ren];exact .ra _ id i j len (hm s id h)
 | pt s id i j h=>rw[ren];exact .pt _ id i j (hm s id h)
 | mp s id h=>rw[ren];exact .mp _ id (hm s id h)
 | it s id h=>rw[ren];exact .it _ id (hm s id h)
 | bo p=>rw[ren];exact .bo p
 | i k n=>rw[ren];exact .i k n
 | s y=>rw[ren];exact .s y
 | nil=>rw[ren];exact .nil
 | sl es h=>rw[ren];exact .sl es h
 | ip cs j h=>rw[ren];exact .ip cs j h
 | np=>rw[ren];exact .np
 | nf=>rw[ren];exact .nf
 | nm=>rw[ren];exact .nm
theorem OR.push0 {m m1:Nm} {f:Nat→Nat} (hm:∀ s id,m s=some id→m1 (f s)=some id) {x y:Ob} (h:OR m x y):OR m1 (Qj f x) y:=by
 cases h with
 | row sz es fs h =>
  refine .row sz _ fs ⟨by simpa using h.len,fun j c d hc hd=>?_⟩;rw[List.getElem?_map] at hc;cases hk:es[j]? with
  | none=>rw[hk] at hc;cases hc
  | some u =>
   rw[hk] at hc;cases hc;have hud:=h.at_ j u d hk hd;rw[WE]
   refine⟨by simpa using hud.len,fun q v x hv hx=>?_⟩
   rw[List.getElem?_map] at hv;cases hc:u[q]? with
   | none=>rw[hc] at hv;cases hv
   | some w=>rw[hc] at hv;cases hv;exact (hud.at_ q w x hc hx).push0 hm
 | map es fs clock hl h =>
  refine .map _ fs clock (by simpa using hl) fun j a b ha hb=>?_;rw[List.getElem?_map] at ha;cases hk:es[j]? with
  | none=>rw[hk] at ha;cases ha
  | some u =>
   rw[hk] at ha;cases ha;obtain⟨h1,h2,h3⟩:=h j u b hk hb
   exact⟨h1,h2.push0 hm,h3.push0 hm⟩
 | iter a b since seen stepped h =>
  refine .iter (a.map f) b since seen stepped ?_;cases a with
  | none=>cases b<;>exact h
  | some s =>
   cases b with
   | none=>exact h
   | some id=>exact hm s id h
def tof (s t:Nat):Nat→Nat:=fun x=>if x==s then t else x
def renE (s t:Nat) (e:E):E:=fun r=>ren (tof s t) (swp t (e r))
def renO (s t:Nat) (o:O):O:=fun x=>if x==t then (swpO t o s).map (Qj (tof s t)) else if x==s then none else (swpO t o x).map (Qj (tof s t))
mutual
theorem VR.pull {m m1:Nm} {f:Nat→Nat} {D:List Nat} (hm:∀ s id,D.contains s=true→m (f s)=some id→m1 s=some id):∀ (v:V) (x:V),rfI D v=true→VR m (ren f v) x→VR m1 v x
 | .ag cs,x,hr,h=>by
  rw[rfI] at hr;rw[ren] at h;cases h with
  | ag _ ds hl hh=>have:=VRs.pull hm cs ds hr ⟨hl,hh⟩;exact .ag _ _ this.len this.at_
 | .tp cs,x,hr,h=>by
  rw[rfI] at hr;rw[ren] at h;cases h with
  | tp _ ds hl hh=>have:=VRs.pull hm cs ds hr ⟨hl,hh⟩;exact .tp _ _ this.len this.at_
 | .fn g cs,x,hr,h=>by
  rw[rfI] at hr;rw[ren] at h;cases h with
  | fn _ _ ds hl hh=>have:=VRs.pull hm cs ds hr ⟨hl,hh⟩;exact .fn g _ _ this.len this.at_
 | .sl es,x,_,h=>by rw[ren] at h;cases h;exact .sl _ ‹_›
 | .ip cs j,x,_,h=>by rw[ren] at h;cases h;exact .ip _ _ ‹_›
 | .rw s _ _ _,x,hr,h=>by rw[rfI] at hr;rw[ren] at h;cases h;exact .rw _ _ _ _ _ (hm _ _ hr ‹_›)
 | .ra s _ _ _,x,hr,h=>by rw[rfI] at hr;rw[ren] at h;cases h;exact .ra _ _ _ _ _ (hm _ _ hr ‹_›)
 | .pt s _ _,x,hr,h=>by rw[rfI] at hr;rw[ren] at h;cases h;exact .pt _ _ _ _ (hm _ _ hr ‹_›)
 | .mp s,x,hr,h=>by rw[rfI] at hr;rw[ren] at h;cases h;exact .mp _ _ (hm _ _ hr ‹_›)
 | .it s,x,hr,h=>by rw[rfI] at hr;rw[ren] at h;cases h;exact .it _ _ (hm _ _ hr ‹_›)
 | .jk,x,_,_=>.jk x
 | .bo _,x,_,h=>by rw[ren] at h;cases h;exact .bo _
 | .i _ _,x,_,h=>by rw[ren] at h;cases h;exact .i _ _
 | .s _,x,_,h=>by rw[ren] at h;cases h;exact .s _
 | .nil,x,_,h=>by rw[ren] at h;cases h;exact .nil
 | .np,x,_,h=>by rw[ren] at h;cases h;exact .np
 | .nf,x,_,h=>by rw[ren] at h;cases h;exact .nf
 | .nm,x,_,h=>by rw[ren] at h;cases h;exact .nm
theorem VRs.pull {m m1:Nm} {f:Nat→Nat} {D:List Nat} (hm:∀ s id,D.contains s=true→m (f s)=some id→m1 s=some id):∀ (cs:List V) (ds:List V),rfL D cs=true→VRs m (renL f cs) ds→VRs m1 cs ds
 | [],ds,_,h=>by rw[renL] at h;rw[h.inv0];exact .nil
 | v::cs,ds,hr,h=>by
  rw[rfL,Bool.and_eq_true] at hr;rw[renL] at h;obtain⟨x,ds',rfl,h1,h2⟩:=h.inv;exact .cons (VR.pull hm v x hr.1 h1) (VRs.pull hm cs ds' hr.2 h2)
end
theorem OR.pull {m m1:Nm} {f:Nat→Nat} {D:List Nat} (hm:∀ s id,D.contains s=true→m (f s)=some id→m1 s=some id) {x y:Ob} (hr:rfOb D x=true) (h:OR m (Qj f x) y):OR m1 x y:=by
 cases x with
 | row sz es =>
  cases h with
  | row _ _ fs h =>
   simp only[rfOb,List.all_eq_true] at hr;refine .row sz es fs ⟨by simpa using h.len,fun j c d hc hd=>?_⟩;exact VRs.pull hm c d (hr c (List.mem_of_getElem? hc)) (h.at_ j (renL f c) d (by rw[List.getElem?_map,hc];rfl) hd)
 | map es clock =>
  cases h with
  | map _ fs _ hl h =>
   simp only[rfOb,List.all_eq_true,Bool.and_eq_true] at hr;refine .map es fs clock (by simpa using hl) fun j a b ha hb=>?_;obtain⟨h1,h2,h3⟩:=h j (a.1,ren f a.2.1,ren f a.2.2) b (by rw[List.getElem?_map,ha];rfl) hb
   have:=hr a (List.mem_of_getElem? ha)
   exact⟨h1,VR.pull hm _ _ this.1 h2,VR.pull hm _ _ this.2 h3⟩
 | iter a since seen stepped =>
  cases h with
  | iter _ b _ _ _ h =>
   refine .iter a b since seen stepped ?_;cases a with
   | none=>cases b<;>exact h
   | some s =>
    cases b with
    | none=>exact h
    | some id=>exact hm s id hr h
def VR.mono (hm:∀ s id,m s=some id→m1 s=some id) {v:V} (h:VR m v x):VR m1 v x:=by
 induction h with
 | jk x=>exact .jk x
 | ag cs ds hl _ ih=>exact .ag cs ds hl ih
 | tp cs ds hl _ ih=>exact .tp cs ds hl ih
 | fn g cs ds hl _ ih=>exact .fn g cs ds hl ih
 | rw s id sz off len h=>exact .rw s id sz off len (hm _ _ h)
 | ra s id i j len h=>exact .ra s id i j len (hm _ _ h)
 | pt s id i j h=>exact .pt s id i j (hm _ _ h)
 | mp s id h=>exact .mp s id (hm _ _ h)
 | it s id h=>exact .it s id (hm _ _ h)
 | bo p=>exact .bo p
 | i k n=>exact .i k n
 | s y=>exact .s y
 | nil=>exact .nil
 | sl es h=>exact .sl es h
 | ip cs j h=>exact .ip cs j h
 | np=>exact .np
 | nf=>exact .nf
 | nm=>exact .nm
theorem OR.mono {m m1:Nm} (hm:∀ s id,m s=some id→m1 s=some id) {x y:Ob} (h:OR m x y):OR m1 x y:=by
 cases h with
 | row sz es fs h=>exact .row sz es fs ⟨h.len,fun j c d hc hd=>⟨(h.at_ j c d hc hd).len,fun k v x hv hx=>((h.at_ j c d hc hd).at_ k v x hv hx).mono hm⟩⟩
 | map es fs clock hl h=>exact .map es fs clock hl fun j a b ha hb=>(let ⟨h1,h2,h3⟩:=h j a b ha hb;⟨h1,h2.mono hm,h3.mono hm⟩)
 | iter a b since seen stepped h =>
  refine .iter a b since seen stepped ?_;cases a with
  | none=>cases b<;>exact h
  | some s =>
   cases b with
   | none=>exact h
   | some id=>exact hm s id h
def swpN:List Nat→V→V
 | [],v=>v
 | d::D,v=>swpN D (swp d v)
def Zx:List Nat→E→E
 | [],e=>e
 | d::D,e=>Zx D (swpE d e)
def ZH:List Nat→O→O
 | [],o=>o
 | d::D,o=>ZH D (swpO d o)
def off (m:Nm) (D:List Nat):Nm:=fun s=>if D.contains s then none else m s
def QbS (m:Nm):off m []=m:=by funext s;simp [off]
def D0 (m:Nm) (d:Nat) (D:List Nat):off m (d::D)=off (upd m d none) D:=by
 funext s
 simp only[off,upd,List.contains_cons];by_cases hd:s=d
 ·subst hd;simp
 ·simp [hd]
def Qek (D:List Nat):∀ {m:Nm} {e e':E},(∀ t,VR m (e t) (e' t))→∀ t,VR (off m D) (Zx D e t) (e' t):=by
 induction D with
 | nil=>intro m e e' h t;rw[QbS];exact h t
 | cons d D ih =>
  intro m e e' h t;rw[D0];exact ih (fun t=>(h t).swp fun s hs=>by simp [upd,hs]) t
def QdY (D:List Nat):∀ {m:Nm} {o o':O},(∀ s x,o s=some x→∃ id y,m s=some id∧o' id=some y∧OR m x y)→∀ s x,ZH D o s=some x→∃ id y,off m D s=some id∧o' id=some y∧OR (off m D) x y:=by
 induction D with
 | nil=>intro m o o' h s x hx;rw[QbS];exact h s x hx
 | cons d D ih =>
  intro m o o' h s x hx;rw[D0];refine ih (m:=upd m d none) (o:=swpO d o) (fun s x hx=>?_) s x hx;simp only[swpO] at hx;split at hx
  ·cases hx
  ·rename_i hd;have hd:s≠d:=by simpa using hd
   obtain⟨x0,h0,h1⟩:=Option.bind_eq_some_iff.1 hx;obtain⟨id,y,g1,g2,g3⟩:=h s x0 h0
   exact⟨id,y,by simp [upd,hd,g1],g2,g3.swp (fun t ht=>by simp [upd,ht]) h1⟩
def ofA:List (Nat × Ob)→O
 | []=>emp
 | p::A=>upd (ofA A) p.1 (some p.2)
def domA (A:List (Nat × Ob)):List Nat:=A.map (·.1)
def putA (f:Nat→Nat):List (Nat × Ob)→O→O
 | [],o=>o
 | p::A,o=>upd (putA f A o) (f p.1) (some (Qj f p.2))
def QcG:∀ {A:List (Nat × Ob)} {s:Nat} {x:Ob},ofA A s=some x→(s,x)∈A:=by
 intro A;induction A with
 | nil=>intro s x h;cases h
 | cons p A ih =>
  intro s x h;simp only[ofA,upd] at h;split at h
  ·rename_i hs;cases h;rw[hs];exact List.mem_cons_self
  ·exact List.mem_cons_of_mem _ (ih h)
def Qda:∀ {A:List (Nat × Ob)},(domA A).Nodup→∀ {s:Nat} {x:Ob},(s,x)∈A→ofA A s=some x:=by
 intro A;induction A with
 | nil=>intro _ s x h;cases h
 | cons p A ih =>
  intro hn s x h;simp only[domA,List.map_cons,List.nodup_cons] at hn;rcases List.mem_cons.1 h with h|h
  ·rw[← h];simp [ofA,upd]
  ·have:s≠p.1:=fun hh=>hn.1 (by rw[← hh];exact List.mem_map.2 ⟨_,h,rfl⟩)
   simp only[ofA,upd,if_neg this];exact ih hn.2 h
def Qe7:∀ {A:List (Nat × Ob)} {t:Nat} {x:Ob},putA f A o t=some x→(∃ p∈A,f p.1=t∧Qj f p.2=x)∨((∀ p∈A,f p.1≠t)∧o t=some x):=by
 intro A;induction A with
 | nil=>intro t x h;exact .inr ⟨SM,h⟩
 | cons p A ih =>
  intro t x h;simp only[putA,upd] at h;split at h
  ·rename_i ht;cases h;exact .inl ⟨p,List.mem_cons_self,ht.symm,rfl⟩
  ·rename_i ht;rcases ih h with⟨q,h1,h2⟩|⟨h1,h2⟩
   ·exact .inl ⟨q,List.mem_cons_of_mem _ h1,h2⟩
   ·refine .inr ⟨fun q hq=>?_,h2⟩;rcases List.mem_cons.1 hq with rfl|hq
    ·exact fun hh=>ht hh.symm
    ·exact h1 q hq
def Qe0:∀ {o:O} {t:Nat},(t∈D∨o t=none)→ZH D o t=none:=by
 induction D with
 | nil=>intro o t h;rcases h with h|h;cases h;exact h
 | cons d D ih =>
  intro o t h;refine ih (o:=swpO d o) ?_;rcases h with h|h
  ·rcases List.mem_cons.1 h with h|h
   ·right;rw[h];simp [swpO]
   ·exact .inl h
  ·right;simp [swpO,h]
def GenC (cl:Qg) (g:Nat) (vs:List V) (N:List Nat) (A:List (Nat × Ob)) (r:V) (N':List Nat) (A':List (Nat × Ob)) (St:List Nat):Prop :=
 ∀ (m:Nm) (xs:List V) (o:O) (K:V→O→Prop),VRs m vs xs→SR m (ofA A) o→(∀ s id,m s=some id→s∈N) →
  (∀ m1 v' o1,VR m1 r v'→SR m1 (ofA A') o1→(∀ s∈St,m1 s=m s)→(∀ s id,m1 s=some id→s∈N')→(∀ i x,o i=some x→(∀ s,m s≠some i)→o1 i=some x∧∀ s,m1 s≠some i)→K v' o1)→cl g xs o K
def GenI (cl:Qg) (g:Nat) (vs:List V) (N:List Nat) (A:List (Nat × Ob)) {ι:Type} (P:ι→Prop) (r:ι→V) (N':ι→List Nat) (A':ι→List (Nat × Ob)) (St:List Nat):Prop :=
 ∀ (m:Nm) (xs:List V) (o:O) (K:V→O→Prop),VRs m vs xs→SR m (ofA A) o→(∀ s id,m s=some id→s∈N) →
  (∀ i,P i→∀ m1 v' o1,VR m1 (r i) v'→SR m1 (ofA (A' i)) o1→(∀ s∈St,m1 s=m s)→(∀ s id,m1 s=some id→s∈N' i)→(∀ j x,o j=some x→(∀ s,m s≠some j)→o1 j=some x∧∀ s,m1 s≠some j)→K v' o1)→cl g xs o K
mutual
def ok:V→Bool
 | .ag cs=>okL cs
 | .tp cs=>okL cs
 | .fn _ cs=>okL cs
 | .sl es=>QQ es
 | .ip cs _=>cldL cs
 | .rw _ _ _ _=>false
 | .ra _ _ _ _=>false
 | .pt _ _ _=>false
 | .mp _=>false
 | .it _=>false
 | .jk=>false
 | .bo _=>true
 | .i _ _=>true
 | .s _=>true
 | .nil=>true
 | .np=>true
 | .nf=>true
 | .nm=>true
def okL:List V→Bool
 | []=>true
 | v::vs=>ok v&&okL vs
end
def okLL (es:List (List V)):Bool:=es.all okL
mutual
theorem Qgh:∀ (v:V),ok v=true→cld v=true
 | .ag cs,h=>by rw[ok] at h;rw[cld];exact YV cs h
 | .tp cs,h=>by rw[ok] at h;rw[cld];exact YV cs h
 | .fn _ cs,h=>by rw[ok] at h;rw[cld];exact YV cs h
 | .sl es,h=>by rw[ok] at h;rw[cld];exact h
 | .ip cs _,h=>by rw[ok] at h;rw[cld];exact h
 | .rw _ _ _ _,h=>by rw[ok] at h;cases h
 | .ra _ _ _ _,h=>by rw[ok] at h;cases h
 | .pt _ _ _,h=>by rw[ok] at h;cases h
 | .mp _,h=>by rw[ok] at h;cases h
 | .it _,h=>by rw[ok] at h;cases h
 | .jk,_=>by rw[cld]
 | .bo _,_=>by rw[cld]
 | .i _ _,_=>by rw[cld]
 | .s _,_=>by rw[cld]
 | .nil,_=>by rw[cld]
 | .np,_=>by rw[cld]
 | .nf,_=>by rw[cld]
 | .nm,_=>by rw[cld]
theorem YV:∀ (vs:List V),okL vs=true→cldL vs=true
 | [],_=>rfl
 | v::vs,h=>by
  rw[okL,Bool.and_eq_true] at h;rw[cldL,Qgh v h.1,YV vs h.2];rfl
end
def Qgr (cs:List V):okL cs=true↔∀ v∈cs,ok v=true:=by
 induction cs with
 | nil=>simp [okL]
 | cons v cs ih=>simp [okL,ih]
def WI (h:okLL es=true):QQ es=true :=
 (QW es).2 fun c hc=>YV c (List.all_eq_true.1 h c hc)
def Qdc {v:V} (h:VR m v x):ok v=true→x=v:=by
 have lst:∀ {cs ds:List V},ds.length=cs.length→(∀ (j:Nat) v x,cs[j]?=some v→ds[j]?=some x→ok v=true→x=v)→okL cs=true→ds=cs:=by
  intro cs ds hl hh hk;apply List.ext_getElem?;intro j;cases hc:cs[j]? with
  | none=>rw[List.getElem?_eq_none_iff] at hc ⊢;omega
  | some v =>
   have hj:=(List.getElem?_eq_some_iff.1 hc).1;have hd:ds[j]?=some (ds[j]'(by omega)):=List.getElem?_eq_getElem _;rw[hd,hh j v _ hc hd ((Qgr cs).1 hk v (List.mem_of_getElem? hc))]
 induction h with
 | jk=>intro h;rw[ok] at h;cases h
 | ag cs ds hl _ ih=>intro h;rw[ok] at h;rw[lst hl ih h]
 | tp cs ds hl _ ih=>intro h;rw[ok] at h;rw[lst hl ih h]
 | fn g cs ds hl _ ih=>intro h;rw[ok] at h;rw[lst hl ih h]
 | rw=>intro h;rw[ok] at h;cases h
 | ra=>intro h;rw[ok] at h;cases h
 | pt=>intro h;rw[ok] at h;cases h
 | mp=>intro h;rw[ok] at h;cases h
 | it=>intro h;rw[ok] at h;cases h
 | _=>intro _;rfl
def QfN (h:VRs m cs ds) (hk:okL cs=true):ds=cs:=by
 have:=Qdc (.ag cs ds h.len h.at_) (by rw[ok];exact hk)
 cases this;rfl
def KP (h:RRs m es fs) (hk:okLL es=true):fs=es:=by
 apply List.ext_getElem?;intro j;cases hc:es[j]? with
 | none=>rw[List.getElem?_eq_none_iff] at hc ⊢;rw[h.len];exact hc
 | some c =>
  obtain⟨d,hd,hcd⟩:=h.get hc;rw[hd,QfN hcd (List.all_eq_true.1 hk c (List.mem_of_getElem? hc))]
mutual
theorem Qh1:∀ (v:V),ok v=true→cls1 v=true
 | .ag cs,h=>by rw[ok] at h;rw[cls1];exact JF cs h
 | .tp cs,h=>by rw[ok] at h;rw[cls1];exact JF cs h
 | .fn _ cs,h=>by rw[ok] at h;rw[cls1];exact JF cs h
 | .sl _,_=>by rw[cls1]
 | .ip _ _,_=>by rw[cls1]
 | .rw _ _ _ _,h=>by rw[ok] at h;cases h
 | .ra _ _ _ _,h=>by rw[ok] at h;cases h
 | .pt _ _ _,h=>by rw[ok] at h;cases h
 | .mp _,h=>by rw[ok] at h;cases h
 | .it _,h=>by rw[ok] at h;cases h
 | .jk,_=>by rw[cls1]
 | .bo _,_=>by rw[cls1]
 | .i _ _,_=>by rw[cls1]
 | .s _,_=>by rw[cls1]
 | .nil,_=>by rw[cls1]
 | .np,_=>by rw[cls1]
 | .nf,_=>by rw[cls1]
 | .nm,_=>by rw[cls1]
theorem JF:∀ (vs:List V),okL vs=true→Zc vs=true
 | [],_=>rfl
 | v::vs,h=>by
  rw[okL,Bool.and_eq_true] at h;rw[Zc,Qh1 v h.1,JF vs h.2];rfl
end
abbrev UK:=V→E→O→Prop
def pcU (cl:Qg) (o:O) (g:Nat) (vs:List V) (r:V):Prop :=
 ∃ ws,fzsU o vs=some ws∧cl g ws emp (fun v o'=>fz o' v=some r)∧(clos vs||flat FZ r)=true∧cld r=true
def UpdC (cl:Qg) (g:Nat) (vs:Nat→List V) (q:Nat) (es es':List (List V)) (r:V):Prop :=
 ∀ (id:Nat) (o:O) (K:V→O→Prop),o id=some (.row q es)→(∀ o1,o1 id=some (.row q es')→(∀ i x,i≠id→o i=some x→o1 i=some x)→K r o1)→cl g (vs id) o K
def refV (s:Nat):V→Nat→V
 | .rw i sz off len,id=>if i==s then .rw id sz off len else .jk
 | .ra i k j len,id=>if i==s then .ra id k j len else .jk
 | .pt i k j,id=>if i==s then .pt id k j else .jk
 | v,_=>v
def Wz (s:Nat):V→Bool
 | .rw i _ _ _=>i==s
 | .ra i _ _ _=>i==s
 | .pt i _ _=>i==s
 | v=>ok v
def ownV (s sz:Nat) (L:List (List V)):V:=if L=[] then .nil else .rw s sz 0 L.length
def LsV (o:O) (sz:Nat) (v:V) (L:List (List V)):Prop:=(L=[]∧v=.nil)∨(L≠[]∧∃ id,v=.rw id sz 0 L.length∧o id=some (.row sz L))
def ApC (cl:Qg) (g:Nat) (f:V→List V) (sz:Nat) (L L':List (List V)):Prop :=
 ∀ (v:V) (o:O) (K:V→O→Prop),LsV o sz v L →
  (∀ v' o1,LsV o1 sz v' L'→(∀ i x,o i=some x→(∀ off len,v≠.rw i sz off len)→o1 i=some x∧∀ off len,v'≠.rw i sz off len)→K v' o1)→cl g (f v) o K
def RdC (cl:Qg) (g:Nat) (f:V→List V) (sz:Nat) (L:List (List V)) (res:V→V):Prop :=
 ∀ (v:V) (o:O) (K:V→O→Prop),LsV o sz v L→(∀ o1,(∀ i x,o i=some x→o1 i=some x)→K (res v) o1)→cl g (f v) o K
structure GenK (vs:List V) (N:List Nat) (A:List (Nat × Ob)) (r:V) (N':List Nat) (A':List (Nat × Ob)) (St:List Nat) (f f':Nat→Nat) (D:List Nat):Prop where
 an:(N.map f).Nodup
 an':(N'.map f').Nodup
 v:rfL N vs=true
 ai:∀ s∈domA A,s∈N
 ai':∀ s∈domA A',s∈N'
 ad0:(domA A').Nodup
 ao:(A.all fun p=>rfOb N p.2)=true
 r:rfI N' r=true
 ao':(A'.all fun p=>rfOb N' p.2)=true
 st:∀ s∈St,s∈N∧s∈domA A'∧f' s=f s∧f s ∉ D
 d:∀ s∈N',s∈St∨f' s < 1000000
 ad:∀ s∈N,s∈St∨f s∈D
 ad':∀ s∈N',s∈St∨f' s∈D
def UW (cl:Qg) (nm:Nat) (e:E) (o:O) (K:UK):I→Prop
 | .pc g as=>∃ r,pcU cl o g (as.map (Od.ev e)) r∧K r e o
 | .pv g as=>∃ r,(match g.ev e with
   | .fn h cs=>pcU cl o h (as.map (Od.ev e)++cs) r
   | _=>False)∧K r e o
 | .alc z=>K (.pt nm 0 0) (swpE nm e) (upd (swpO nm o) nm (some (.row z.length [z])))
 | .box x=>(x.ev e).cells≠[]∧K (.pt nm 0 0) (swpE nm e) (upd (swpO nm o) nm (some (.row (x.ev e).cells.length [swpL nm (x.ev e).cells])))
 | .bsl sz n z ps =>
  if n=0 then K .nil e o else
  match Yd e sz ps (List.replicate n z) with
  | some es=>K (.rw nm sz 0 n) (swpE nm e) (upd (swpO nm o) nm (some (.row sz (swpR nm es))))
  | none=>False
 | .mks sz byt z l c=>match natV (l.ev e),natV (c.ev e) with
  | some l,some c=>l≤c∧Zl c byt∧K (.rw nm sz 0 l) (swpE nm e) (upd (swpO nm o) nm (some (.row sz (List.replicate l z))))
  | _,_=>False
 | .sto sz x v=>match x.ev e with
  | .pt id i j=>match o id with
   | some (.row s es)=>match es[i]? with
    | some cs=>(v.ev e).cells.length=sz∧j+sz≤cs.length∧K .jk e (upd o id (some (.row s (es.set i (splice j (v.ev e).cells cs)))))
    | none=>False
   | _=>False
  | _=>False
 | .app sz byt x y=>match src o (y.ev e) with
  | some ys=>(∀ c∈ys,c.length=sz)∧(match x.ev e with
   | .nil=>Zl ys.length byt∧(ys=[]→K .nil e o) ∧
     (ys≠[]→∃ s,s < 1000000∧K (.rw s sz 0 ys.length) (swpE s e) (upd (swpO s o) s (some (.row sz (swpR s ys)))))
   | .rw s sz' off len=>sz'=sz∧off=0∧(match o s with
    | some (.row _ es)=>len≤es.length∧Zl (len+ys.length) byt∧(ys=[]→K (.rw s sz 0 len) e o) ∧
      (ys≠[]→if s < 1000000 then K (.rw s sz 0 (len+ys.length)) (swpE s e) (upd (swpO s o) s (some (.row sz (swpR s (es.take len++ys)))))
       else K (.rw nm sz 0 (len+ys.length)) (swpE nm (swpE s e)) (upd (swpO nm (swpO s o)) nm (some (.row sz (swpR nm (swpR s (es.take len++ys)))))))
    | _=>False)
   | _=>False)
  | none=>False
 | .nc g as=>(∃ s q es es' r,o s=some (.row q es)∧okLL es=true∧okLL es'=true∧ok r=true∧(as.map (Od.ev e)).all (Wz s)=true ∧
   UpdC cl g (fun id=>(as.map (Od.ev e)).map fun v=>refV s v id) q es es' r∧K r e (upd o s (some (.row q es')))) ∨
   (∃ s sz L L' pre post,s < 1000000∧as.map (Od.ev e)=pre++ownV s sz L::post∧okL pre=true∧okL post=true∧okLL L=true∧okLL L'=true∧(L≠[]→o s=some (.row sz L)) ∧
    ApC cl g (fun v=>pre++v::post) sz L L'∧K (ownV s sz L') (swpE s e) (if L'=[] then swpO s o else upd (swpO s o) s (some (.row sz L')))) ∨
   (∃ s sz L res pre post,as.map (Od.ev e)=pre++ownV s sz L::post∧okL pre=true∧okL post=true∧okLL L=true∧(L≠[]→o s=some (.row sz L)) ∧
    RdC cl g (fun v=>pre++v::post) sz L res∧(∀ m x,VR m (ownV s sz L) x→VR m (res (ownV s sz L)) (res x))∧K (res (ownV s sz L)) e o) ∨
   (∃ vs N A r N' A' St f f' D,as.map (Od.ev e)=renL f vs∧GenC cl g vs N A r N' A' St∧(∀ p∈A,o (f p.1)=some (Qj f p.2))∧GenK vs N A r N' A' St f f' D∧K (ren f' r) (Zx D e) (putA f' A' (ZH D o))) ∨
   (∃ (ι:Type) (P:ι→Prop) (vs:List V) (N:List Nat) (A:List (Nat × Ob)) (r:ι→V) (N':ι→List Nat) (A':ι→List (Nat × Ob)) (St:List Nat) (f f':Nat→Nat) (D:List Nat),as.map (Od.ev e)=renL f vs∧GenI cl g vs N A P r N' A' St∧(∀ p∈A,o (f p.1)=some (Qj f p.2))∧(∃ i,P i) ∧
    (∀ i,P i→GenK vs N A (r i) (N' i) (A' i) St f f' D)∧∀ i,P i→K (ren f' (r i)) (Zx D e) (putA f' (A' i) (ZH D o)))
 | .nv g as=>∃ (h:Nat) (cs:List V),g.ev e=.fn h cs ∧
   ∃ (ι:Type) (P:ι→Prop) (vs:List V) (N:List Nat) (A:List (Nat × Ob)) (r:ι→V) (N':ι→List Nat) (A':ι→List (Nat × Ob)) (St:List Nat) (f f':Nat→Nat) (D:List Nat),as.map (Od.ev e)++cs=renL f vs∧GenI cl h vs N A P r N' A' St∧(∀ p∈A,o (f p.1)=some (Qj f p.2))∧(∃ i,P i) ∧
    (∀ i,P i→GenK vs N A (r i) (N' i) (A' i) St f f' D)∧∀ i,P i→K (ren f' (r i)) (Zx D e) (putA f' (A' i) (ZH D o))
 | .mkm=>K (.mp nm) (swpE nm e) (upd (swpO nm o) nm (some (.map [] 0)))
 | .men kg ks z m k=>match m.ev e with
  | .mp s=>match o s with
   | some (.map ents clock)=>match QN kg ks (k.ev e) ents with
    | some (some j)=>(match ents[j]? with
     | some (st,_,v)=>K (.tp [v,.i .i64 st]) e (upd o s (some (.map (ents.set j (st,k.ev e,v)) clock)))
     | none=>False)
    | some none=>K (.tp [z,.i .i64 clock]) e (upd o s (some (.map (ents++[(clock,k.ev e,z)]) (clock+1))))
    | none=>False
   | _=>False
  | _=>False
 | .mup kg ks m k v=>match m.ev e with
  | .mp s=>match o s with
   | some (.map ents clock)=>match putE kg ks (k.ev e) (v.ev e) ents clock with
    | some (es,cl)=>K .jk e (upd o s (some (.map es cl)))
    | none=>False
   | _=>False
  | _=>False
 | .est m t v=>match m.ev e,natV (t.ev e) with
  | .mp s,some st=>match o s with
   | some (.map ents clock)=>(∃ x∈ents,x.1=st)∧K .jk e (upd o s (some (.map (ents.map fun x=>if x.1=st then (x.1,x.2.1,v.ev e) else x) clock)))
   | _=>False
  | _,_=>False
 | .del kg ks m k=>match m.ev e with
  | .mp s=>match o s with
   | some (.map ents clock)=>match QN kg ks (k.ev e) ents with
    | some (some j)=>K (.tp []) e (upd o s (some (.map (ents.eraseIdx j) clock)))
    | some none=>K (.tp []) e (upd o s (some (.map ents clock)))
    | none=>False
   | _=>False
  | _=>False
 | .rng m=>match m.ev e with
  | .mp mid=>match o mid with
   | some (.map _ clock)=>(mid==nm)=false∧K (.it nm) (swpE nm e) (upd (swpO nm o) nm (some (.iter (some mid) clock [] clock)))
   | _=>False
  | _=>False
 | .nxt x=>match x.ev e with
  | .it s=>match o s with
   | some (.iter (some mid) since seen stepped)=>match o mid with
    | some (.map ents clock)=>(seen=[]∨ents=[]∨∃ x∈ents,x.1 < stepped) ∧
      ((∀ x∈ents,x.1 < since→x.1∈seen)→K (.tp [.bo false]) e o) ∧
      (∀ x∈ents,x.1 ∉ seen→K (.tp [.bo true,x.2.1,x.2.2]) e (upd o s (some (.iter (some mid) since (seen++[x.1]) clock))))
    | _=>False
   | _=>False
  | _=>False
 | .cpy sz x y=>match src o (y.ev e) with
  | some ys=>(∀ c∈ys,c.length=sz)∧(match x.ev e with
   | .nil=>K (.i .i64 0) e o
   | .rw s sz' off len=>sz'=sz∧(match o s with
    | some (.row q es)=>off+len≤es.length∧K (.i .i64 ((min ys.length len:Nat):Int)) e
      (upd o s (some (.row q (es.take off++ys.take len++es.drop (off+min ys.length len)))))
    | _=>False)
   | .ra s i j len=>sz=1∧(match o s with
    | some (.row q es)=>(match es[i]? with
     | some cs=>j+len≤cs.length∧K (.i .i64 ((min ys.length len:Nat):Int)) e (upd o s (some (.row q (es.set i (splice j (ys.take len).flatten cs)))))
     | none=>False)
    | _=>False)
   | _=>False)
  | none=>False
 | .clr z x=>match x.ev e with
  | .nil=>K (.tp []) e o
  | .rw s sz off len=>z.length=sz∧(match o s with
   | some (.row q es)=>off+len≤es.length∧K (.tp []) e (upd o s (some (.row q (es.take off++List.replicate len z++es.drop (off+len)))))
   | _=>False)
  | _=>False
 | .isz neg x=>match szV (x.ev e) with
  | some true=>K (.bo neg) e o
  | some false=>∀ p,K (.bo p) e o
  | none=>False
 | .apz sz byt z x n=>match natV (n.ev e) with
  | some n=>(match x.ev e with
   | .nil=>Zl n byt∧(n=0→K .nil e o)∧(n≠0→∃ s,s < 1000000∧K (.rw s sz 0 n) (swpE s e) (upd (swpO s o) s (some (.row sz (List.replicate n z)))))
   | _=>False)
  | none=>False
 | .mlen x=>match rv e o (.mlen x) with
  | some v=>K v e o
  | none=>False
 | .lkp kg ks z ok m k=>match rv e o (.lkp kg ks z ok m k) with
  | some v=>K v e o
  | none=>False
 | .ent x=>match rv e o (.ent x) with
  | some v=>K v e o
  | none=>False
 | .q q=>match qv e q with
  | some v=>K v e o
  | none=>False
 | .isn mp neg x=>match isnV o mp neg (x.ev e) with
  | some v=>K v e o
  | none=>False
 | .ld sz ag x=>match rv e o (.ld sz ag x) with
  | some v=>K v e o
  | none=>False
 | _=>False
def ckI:I→Bool
 | .q q=>ckQ q
 | .isn _ _ x=>ckO x
 | .ld _ _ x=>ckO x
 | .pc _ as=>as.all ckO
 | .pv g as=>ckO g&&as.all ckO
 | .alc z=>cldL z
 | .box x=>ckO x
 | .bsl sz _ z ps=>decide (0 < sz)&&cldL z&&ckE ps
 | .mks _ _ z l c=>cldL z&&ckO l&&ckO c
 | .sto sz x v=>decide (0 < sz)&&ckO x&&ckO v
 | .app _ _ x y=>ckO x&&ckO y
 | .nc _ as=>as.all ckO
 | .nv g as=>ckO g&&as.all ckO
 | .men _ ks z m k=>!ks.isEmpty&&cld z&&ckO m&&ckO k
 | .mup _ ks m k v=>!ks.isEmpty&&ckO m&&ckO k&&ckO v
 | .est m t v=>ckO m&&ckO t&&ckO v
 | .del _ ks m k=>!ks.isEmpty&&ckO m&&ckO k
 | .rng m=>ckO m
 | .nxt x=>ckO x
 | .cpy _ x y=>ckO x&&ckO y
 | .clr z x=>cldL z&&ckO x
 | .mlen x=>ckO x
 | .ent x=>ckO x
 | .isz _ x=>ckO x
 | .apz _ _ z x n=>cldL z&&ckO x&&ckO n
 | .lkp _ ks z _ m k=>!ks.isEmpty&&cld z&&ckO m&&ckO k
 | _=>true
def FrB (b:O) (m:Nm) (o':O):Prop:=∀ id x,b id=some x→o' id=some x∧∀ s,m s≠some id
def PN:Nat:=1000000
def Pin (m0 m:Nm):Prop:=∀ s,PN≤s→m s=m0 s∨m s=none
structure Rl (b:O) (m0:Nm) (m:Nm) (e:E) (o:O) (e':E) (o':O):Prop where
 e:∀ t,VR m (e t) (e' t)
 o:SR m o o'
 f:FrB b m o'
 p:Pin m0 m
def Pin.up (h:Pin m0 m) (hd:d < PN) (x:Option Nat):Pin m0 (upd m d x):=fun s hs=>by
 have:s≠d:=by omega
 simp only[Go.Proofs.YtklbhcjmaeedhaaGreatDoor.upd,if_neg this];exact h s hs
def Pin.no (h:Pin m0 m) (d:Nat):Pin m0 (upd m d none):=fun s hs=>by
 simp only[Go.Proofs.YtklbhcjmaeedhaaGreatDoor.upd];split
 ·exact .inr rfl
 ·exact h s hs
def QfG (he:∀ t,VR m (e t) (e' t)) {v:V} (h:VR m v x) (d:Option Nat):∀ t,VR m (put e d v t) (put e' d x t):=by
 intro t;cases d with
 | none=>exact he t
 | some d =>
  simp only[put,upd];split
  ·exact h
  ·exact he t
def Qjg:∀ (n k:Nat) (v x w:V),VR m v x→frzU k o v=some w→clo n v=true→clo n x=true:=by
 intro n;induction n with
 | zero=>intro k v x w _ _ h;cases h
 | succ n ih =>
  intro k v x w hr hf h;have lst:∀ {cs ds ws:List V} {k:Nat},VRs m cs ds→cs.mapM (frzU k o)=some ws→cs.all (clo n)=true→ds.all (clo n)=true:=by
   intro cs;induction cs with
   | nil=>intro ds ws k h _ _;rw[h.inv0];rfl
   | cons c cs ih2 =>
    intro ds ws k h hm ha;obtain⟨d,ds',rfl,h1,h2⟩:=h.inv;obtain⟨w,ws',e1,e2,rfl⟩:=Z6 hm;simp only[List.all_cons,Bool.and_eq_true] at ha ⊢
    exact⟨ih k c d w h1 e1 ha.1,ih2 h2 e2 ha.2⟩
  cases k with
  | zero=>cases hf
  | succ k =>
   cases hr with
   | jk=>cases hf
   | ag cs ds hl hh =>
    simp only[frzU] at hf;simp only[clo] at h ⊢;obtain⟨ws,h1,_⟩:=Option.map_eq_some_iff.1 hf;exact lst ⟨hl,hh⟩ h1 h
   | tp cs ds hl hh =>
    simp only[frzU] at hf;simp only[clo] at h ⊢;obtain⟨ws,h1,_⟩:=Option.map_eq_some_iff.1 hf;exact lst ⟨hl,hh⟩ h1 h
   | fn g cs ds hl hh =>
    simp only[frzU] at hf;simp only[clo] at h ⊢;obtain⟨ws,h1,_⟩:=Option.map_eq_some_iff.1 hf;exact lst ⟨hl,hh⟩ h1 h
   | rw=>cases h
   | ra=>cases h
   | pt=>cases h
   | mp=>cases h
   | it=>cases h
   | _=>exact h
def Qhk (h:VRs m vs xs) (hf:fzsU o vs=some ws) (hc:clos vs=true):clos xs=true:=by
 induction vs generalizing xs ws with
 | nil=>rw[h.inv0];rfl
 | cons v vs ih =>
  obtain⟨x,xs',rfl,h1,h2⟩:=h.inv;obtain⟨w,ws',e1,e2,rfl⟩:=Z6 hf;simp only[clos,List.all_cons,Bool.and_eq_true] at hc ⊢
  exact⟨Qjg _ _ v x w h1 e1 hc.1,ih h2 e2 hc.2⟩
def Qlu (hs:SR m o o') (h:VRs m vs xs) (hp:pcU cl o g vs r):XK cl o' g xs r∧VR m r r:=by
 obtain⟨ws,h1,h2,h3,h4⟩:=hp
 refine⟨⟨ws,Qi7 hs h h1,h2,?_⟩,YN m r h4⟩
 rw[Bool.or_eq_true] at h3 ⊢;rcases h3 with h3|h3
 ·exact .inl (Qhk h h1 h3)
 ·exact .inr h3
theorem Rl.new {b:O} {m0 m:Nm} {e e':E} {o o':O} (h:Rl b m0 m e o e' o') {d id:Nat} (hd:d < PN) {x y:Ob} (hid:o' id=none) (hxy:OR (upd m d (some id)) x y):Rl b m0 (upd m d (some id)) (swpE d e) (upd (swpO d o) d (some x)) e' (upd o' id (some y)) :=
 ⟨fun t=>(h.e t).swp fun s hs=>by simp [upd,hs],h.o.new hid hxy,fun i z hz=>by
  obtain⟨h1,h2⟩:=h.f i z hz;have hne:i≠id:=fun hh=>by rw[hh,hid] at h1;cases h1
  refine⟨by simp only[upd,if_neg hne];exact h1,fun s=>?_⟩
  simp only[upd];split
  ·intro hh;cases hh;exact hne rfl
  ·exact h2 s,h.p.up hd _⟩
theorem Rl.set {b:O} {m0 m:Nm} {e e':E} {o o':O} (h:Rl b m0 m e o e' o') {s id:Nat} {x y:Ob} (hs:m s=some id) (hxy:OR m x y):Rl b m0 m e (upd o s (some x)) e' (upd o' id (some y)) :=
 ⟨h.e,h.o.set hs hxy,fun i z hz=>by
  obtain⟨h1,h2⟩:=h.f i z hz;have hne:i≠id:=fun hh=>h2 s (by rw[hh];exact hs)
  exact⟨by simp only[upd,if_neg hne];exact h1,h2⟩,h.p⟩
theorem Rl.gone {b:O} {m0 m:Nm} {e e':E} {o o':O} (h:Rl b m0 m e o e' o') {s id:Nat} (hs:m s=some id):Rl b m0 (upd m s none) (swpE s e) (swpO s o) e' (upd o' id none) :=
 ⟨fun t=>(h.e t).swp fun u hu=>by simp [upd,hu],h.o.gone hs,fun i z hz=>by
  obtain⟨h1,h2⟩:=h.f i z hz;have hne:i≠id:=fun hh=>h2 s (by rw[hh];exact hs)
  refine⟨by simp only[upd,if_neg hne];exact h1,fun u=>?_⟩
  simp only[upd];split
  ·simp
  ·exact h2 u,h.p.no s⟩
def Rl.renm {b:O} (h:Rl b m0 m e o e' o') (ht:t < PN) (hne:(s==t)=false):∃ m1,Rl b m0 m1 (renE s t e) (renO s t o) e' o':=by
 have hne:s≠t:=by simpa using hne
 have hg:∀ r,VR (upd m t none) (swp t (e r)) (e' r):=fun r=>(h.e r).swp fun u hu=>by simp [upd,hu]
 let m1:Nm:=fun x=>if x=t then m s else if x=s then none else m x
 have hm1:∀ x id,upd m t none x=some id→m1 (tof s t x)=some id:=fun x id hx=>by
  simp only[upd] at hx;split at hx
  ·cases hx
  ·rename_i hxt;simp only[m1,tof];by_cases hxs:x=s
   ·subst hxs;simpa using hx
   ·simp [hxs,hxt,hx]
 have hm2:∀ x id,m1 x=some id→(x=t∧m s=some id)∨(x≠t∧x≠s∧m x=some id):=fun x id hx=>by
  simp only[m1] at hx;split at hx
  ·exact .inl ⟨‹_›,hx⟩
  ·split at hx
   ·cases hx
   ·exact .inr ⟨‹_›,‹_›,hx⟩
 have hob:∀ x ob,x≠t→(swpO t o x).map (Qj (tof s t))=some ob→∃ id y,m x=some id∧o' id=some y∧OR m1 ob y:=fun x ob hx hob=>by
  obtain⟨x1,h1,rfl⟩:=Option.map_eq_some_iff.1 hob;simp only[swpO] at h1;rw[if_neg (by simpa using hx)] at h1;obtain⟨x0,hx0,hx1⟩:=Option.bind_eq_some_iff.1 h1;obtain⟨i,y0,g1,g2,g3⟩:=h.o.ob x x0 hx0
  exact⟨i,y0,g1,g2,(g3.swp (m1:=upd m t none) (fun u hu=>by simp [upd,hu]) hx1).push0 hm1⟩
 refine⟨m1,fun r=>(hg r).push0 hm1,⟨fun a c i h1 h2=>?_,fun a i h1=>?_,fun a z hz=>?_⟩,fun i z hz=>?_,fun u hu=>?_⟩
 ·rcases hm2 a i h1 with⟨rfl,a1⟩|⟨a1,a2,a3⟩<;>rcases hm2 c i h2 with⟨rfl,c1⟩|⟨c1,c2,c3⟩
  ·rfl
  ·exact absurd (h.o.inj _ _ i a1 c3).symm c2
  ·exact absurd (h.o.inj _ _ i a3 c1) a2
  ·exact h.o.inj a c i a3 c3
 ·rcases hm2 a i h1 with⟨rfl,a1⟩|⟨a1,a2,a3⟩
  ·exact h.o.live s i a1
  ·exact h.o.live a i a3
 ·simp only[renO] at hz;split at hz
  ·rename_i ha;have ha:a=t:=by simpa using ha
   obtain⟨id,y,g1,g2,g3⟩:=hob s z hne hz
   exact⟨id,y,by simp [m1,ha,g1],g2,g3⟩
  ·rename_i ha;have ha:a≠t:=by simpa using ha
   split at hz
   ·cases hz
   ·rename_i ha2;have ha2:a≠s:=by simpa using ha2
    obtain⟨id,y,g1,g2,g3⟩:=hob a z ha hz
    exact⟨id,y,by simp [m1,ha,ha2,g1],g2,g3⟩
 ·obtain⟨h1,h2⟩:=h.f i z hz
  refine⟨h1,fun u hu=>?_⟩
  rcases hm2 u i hu with⟨_,a1⟩|⟨_,_,a3⟩
  ·exact h2 s a1
  ·exact h2 u a3
 ·have e1:u≠t:=by omega
  by_cases e2:u=s
  ·right;simp [m1,e1,e2,hne]
  ·simp only[m1,if_neg e1,if_neg e2];exact h.p u hu
def Rl.anew {b:O} (h:Rl b m0 m e o e' o') {id id':Nat} (hsp:s < PN) (hs:m s=some id) (hid:upd o' id none id'=none) {x y:Ob} (hxy:OR (upd (upd m s none) s (some id')) x y) :
  Rl b m0 (upd (upd m s none) s (some id')) (swpE s e) (upd (swpO s o) s (some x)) e' (upd (upd o' id none) id' (some y)):=by
 have hg:=h.gone hs
 refine⟨fun t=>(h.e t).swp fun u hu=>by simp [upd,hu],?_,?_,(h.p.no s).up hsp _⟩
 ·have hup:∀ t,t≠s→upd (upd m s none) s (some id') t=upd m s none t:=fun t ht=>by simp [upd,ht]
  have hne:∀ t i,upd m s none t=some i→i≠id':=fun t i ht hh=>by
   obtain⟨z,hz⟩:=hg.o.live t i ht;rw[hh,hid] at hz;cases hz
  refine⟨fun a c i h1 h2=>?_,fun a i h1=>?_,fun a z hz=>?_⟩
  ·by_cases ha:a=s
   ·by_cases hc:c=s
    ·rw[ha,hc]
    ·rw[hup c hc] at h2;subst ha;simp only[upd,if_true] at h1;cases h1;exact absurd rfl (hne c _ h2)
   ·by_cases hc:c=s
    ·rw[hup a ha] at h1;subst hc;simp only[upd,if_true] at h2;cases h2;exact absurd rfl (hne a _ h1)
    ·rw[hup a ha] at h1;rw[hup c hc] at h2;exact hg.o.inj a c i h1 h2
  ·by_cases ha:a=s
   ·subst ha;simp only[upd,if_true] at h1;cases h1;exact⟨y,by simp [upd]⟩
   ·rw[hup a ha] at h1;obtain⟨z,hz⟩:=hg.o.live a i h1
    exact⟨z,by rw[upd];rw[if_neg (hne a i h1)];exact hz⟩
  ·by_cases ha:a=s
   ·subst ha;simp only[upd,if_true,Option.some.injEq] at hz;subst hz
    exact⟨id',y,by simp [upd],by simp [upd],hxy⟩
   ·have hz':swpO s o a=some z:=by simpa [upd,ha] using hz
    obtain⟨i,y0,h1,h2,h3⟩:=hg.o.ob a z hz';simp only[swpO] at hz';rw[if_neg (by simpa using ha)] at hz';obtain⟨x0,hx0,hx1⟩:=Option.bind_eq_some_iff.1 hz';obtain⟨i2,y2,g1,g2,g3⟩:=h.o.ob a x0 hx0;have hi:i2=i:=by
     have:upd m s none a=m a:=by simp [upd,ha]
     rw[this,g1] at h1;cases h1;rfl
    subst hi;have hy:y2=y0:=by
     have hne2:i2≠id:=fun hh=>ha (h.o.inj a s id (by rw[g1,hh]) hs);rw[upd,if_neg hne2,g2] at h2;cases h2;rfl
    subst hy
    refine⟨i2,y2,by rw[hup a ha];exact h1,?_,g3.swp (fun t ht=>by simp [upd,ht]) hx1⟩
    rw[upd,if_neg (hne a i2 h1)];exact h2
 ·intro i z hz;obtain⟨h1,h2⟩:=hg.f i z hz;have hne:i≠id':=fun hh=>by rw[hh,hid] at h1;cases h1
  refine⟨by rw[upd,if_neg hne];exact h1,fun u=>?_⟩
  by_cases hu:u=s
  ·subst hu;simp only[upd,if_true];intro hh;cases hh;exact hne rfl
  ·have:upd (upd m s none) s (some id') u=upd m s none u:=by simp [upd,hu]
   rw[this];exact h2 u
def Qij {id:Nat} (hs:m s=some id) {v:V} (h:VR m v x) (hr:Wz s v=true):x=refV s v id:=by
 have oth:ok v=true→refV s v id=v→x=refV s v id:=fun h1 h2=>by rw[h2];exact Qdc h h1
 cases h with
 | rw t i sz off len ht =>
  simp only[Wz,beq_iff_eq] at hr;subst hr;rw[hs] at ht;cases ht;simp [refV]
 | ra t i a c len ht =>
  simp only[Wz,beq_iff_eq] at hr;subst hr;rw[hs] at ht;cases ht;simp [refV]
 | pt t i a c ht =>
  simp only[Wz,beq_iff_eq] at hr;subst hr;rw[hs] at ht;cases ht;simp [refV]
 | jk=>simp [Wz,ok] at hr
 | mp=>simp [Wz,ok] at hr
 | it=>simp [Wz,ok] at hr
 | _=>exact oth hr rfl
def Dd {b:O} (hk:ckI (.nc g as)=true) (hR:Rl b m0 m e o e' o') (hargs:as.map (Od.ev e)=pre++ownV s sz L::post) (hpre:okL pre=true) (hpost:okL post=true)
  (hL:okLL L=true) (ho:L≠[]→o s=some (.row sz L)):∃ x,as.map (Od.ev e')=pre++x::post∧VR m (ownV s sz L) x∧LsV o' sz x L∧(∀ i off len,x=.rw i sz off len→m s=some i):=by
 have hvs:=Ww hR.e (l:=as) hk;rw[hargs] at hvs;have hsplit:∃ x,as.map (Od.ev e')=pre++x::post∧VR m (ownV s sz L) x:=by
  generalize as.map (Od.ev e')=xs at hvs;clear hargs;induction pre generalizing xs with
  | nil =>
   obtain⟨x,xs',rfl,h1,h2⟩:=VRs.inv (by simpa using hvs)
   exact⟨x,by rw[QfN h2 hpost];rfl,h1⟩
  | cons p pre ih =>
   rw[okL,Bool.and_eq_true] at hpre;obtain⟨y,ys,rfl,h1,h2⟩:=VRs.inv (by simpa using hvs);obtain⟨x,h3,h4⟩:=ih hpre.2 ys h2
   exact⟨x,by rw[h3,Qdc h1 hpre.1];rfl,h4⟩
 obtain⟨x,hx,hvx⟩:=hsplit;have hls:LsV o' sz x L∧(∀ i off len,x=.rw i sz off len→m s=some i):=by
  unfold ownV at hvx;split at hvx
  ·rename_i hl;cases hvx
   exact⟨.inl ⟨hl,rfl⟩,fun i off len h=>by cases h⟩
  ·rename_i hl;cases hvx with
   | rw _ id _ _ _ hm =>
    obtain⟨id2,y,g1,g2,g3⟩:=hR.o.ob s _ (ho hl);rw[hm] at g1;cases g1;cases g3 with
    | row _ _ fs hrr =>
     rw[KP hrr hL] at g2
     exact⟨.inr ⟨hl,id,rfl,g2⟩,fun i off len h=>by cases h;exact hm⟩
 exact⟨x,hx,hvx,hls⟩
def Qkk {b:O} (hk:ckI (.nc g as)=true) {K:UK} (hR:Rl b m0 m e o e' o')
  (hK:∀ v e1 o1 m1 v' o1',K v e1 o1→VR m1 v v'→Rl b m0 m1 e1 o1 e' o1'→K' v' o1') (hsp:s < 1000000) (hargs:as.map (Od.ev e)=pre++ownV s sz L::post) (hpre:okL pre=true) (hpost:okL post=true)
  (hL:okLL L=true) (hL':okLL L'=true) (ho:L≠[]→o s=some (.row sz L)) (hap:ApC cl g (fun v=>pre++v::post) sz L L') (hfin:K (ownV s sz L') (swpE s e) (if L'=[] then swpO s o else upd (swpO s o) s (some (.row sz L')))):cl g (as.map (Od.ev e')) o' K':=by
 obtain⟨x,hx,hvx,hls⟩:=Dd hk hR hargs hpre hpost hL ho;rw[hx];refine hap x o' K' hls.1 fun v' o1 hl1 hkeep=>?_;have hup:∀ t,t≠s→upd m s none t=m t:=fun t ht=>by simp [upd,ht]
 have hkt:∀ t i,t≠s→m t=some i→∀ z,o' i=some z→o1 i=some z∧∀ off len,v'≠.rw i sz off len:=fun t i ht hm z hz =>
  hkeep i z hz fun off len hh=>ht (hR.o.inj t s i hm (hls.2 i off len hh))
 have hkb:∀ i z,b i=some z→o1 i=some z∧∀ off len,v'≠.rw i sz off len:=fun i z hz=>by
  obtain⟨h1,h2⟩:=hR.f i z hz;exact hkeep i z h1 fun off len hh=>h2 s (hls.2 i off len hh)
 have hmid:Rl b m0 (upd m s none) (swpE s e) (swpO s o) e' o1:=by
  refine⟨fun t=>(hR.e t).swp fun u hu=>by simp [upd,hu],⟨fun a c i h1 h2=>?_,fun a i h1=>?_,fun a z hz=>?_⟩,fun i z hz=>⟨(hkb i z hz).1,fun u=>?_⟩,hR.p.no s⟩
  ·have ha:a≠s:=fun hh=>by simp [upd,hh] at h1
   have hc:c≠s:=fun hh=>by simp [upd,hh] at h2
   rw[hup a ha] at h1;rw[hup c hc] at h2;exact hR.o.inj a c i h1 h2
  ·have ha:a≠s:=fun hh=>by simp [upd,hh] at h1
   rw[hup a ha] at h1;obtain⟨z,hz⟩:=hR.o.live a i h1
   exact⟨z,(hkt a i ha h1 z hz).1⟩
  ·simp only[swpO] at hz;split at hz
   ·cases hz
   ·rename_i ha;have ha:a≠s:=by simpa using ha
    obtain⟨x0,hx0,hx1⟩:=Option.bind_eq_some_iff.1 hz;obtain⟨i,y0,h1,h2,h3⟩:=hR.o.ob a x0 hx0
    exact⟨i,y0,by rw[hup a ha];exact h1,(hkt a i ha h1 y0 h2).1,h3.swp hup hx1⟩
  ·by_cases hu:u=s
   ·subst hu;simp [upd]
   ·rw[hup u hu];exact (hR.f i z hz).2 u
 by_cases hl:L'=[]
 ·rw[if_pos hl] at hfin;have hv':v'=.nil:=by
   rcases hl1 with⟨_,h⟩|⟨h,_⟩
   ·exact h
   ·exact absurd hl h
  have:ownV s sz L'=.nil:=if_pos hl
  rw[this] at hfin;rw[hv'];exact hK _ _ _ _ _ _ hfin .nil hmid
 ·rw[if_neg hl] at hfin
  have:ownV s sz L'=.rw s sz 0 L'.length:=if_neg hl
  rw[this] at hfin;rcases hl1 with⟨h,_⟩|⟨_,id2,rfl,h2⟩
  ·exact absurd h hl
  have hfr:∀ t,t≠s→m t≠some id2:=fun t ht hm=>by
   obtain⟨z,hz⟩:=hR.o.live t id2 hm;exact (hkt t id2 ht hm z hz).2 0 L'.length rfl
  refine hK _ _ _ (upd m s (some id2)) _ _ hfin (.rw s id2 sz 0 _ (by simp [upd])) ⟨fun t=>(hR.e t).swp fun u hu=>by simp [upd,hu],⟨fun a c i h1 h3=>?_,fun a i h1=>?_,fun a z hz=>?_⟩,fun i z hz=>⟨(hkb i z hz).1,fun u=>?_⟩,hR.p.up hsp _⟩
  ·simp only[upd] at h1 h3;split at h1<;>split at h3
   ·simp_all
   ·cases h1;exact absurd h3 (hfr c ‹_›)
   ·cases h3;exact absurd h1 (hfr a ‹_›)
   ·exact hR.o.inj a c i h1 h3
  ·simp only[upd] at h1;split at h1
   ·cases h1;exact⟨_,h2⟩
   ·rename_i ha;obtain⟨z,hz⟩:=hR.o.live a i h1
    exact⟨z,(hkt a i ha h1 z hz).1⟩
  ·by_cases ha:a=s
   ·subst ha;simp only[upd,if_true,Option.some.injEq] at hz;subst hz
    exact⟨id2,_,by simp [upd],h2,.row _ _ _ (Jz _ (WI hL'))⟩
   ·have hz':swpO s o a=some z:=by simpa [upd,ha] using hz
    simp only[swpO] at hz';rw[if_neg (by simpa using ha)] at hz';obtain⟨x0,hx0,hx1⟩:=Option.bind_eq_some_iff.1 hz';obtain⟨i,y0,g1,g2,g3⟩:=hR.o.ob a x0 hx0
    exact⟨i,y0,by simp only[upd,if_neg ha];exact g1,(hkt a i ha g1 y0 g2).1,g3.swp (fun t ht=>by simp [upd,ht]) hx1⟩
  ·by_cases hu:u=s
   ·subst hu;simp only[upd,if_true];intro hh;cases hh;exact (hkb _ z hz).2 0 L'.length rfl
   ·simp only[upd,if_neg hu];exact (hR.f i z hz).2 u
def QiV {b:O} (hk:ckI (.nc g as)=true) {K:UK} (hR:Rl b m0 m e o e' o')
  (hK:∀ v e1 o1 m1 v' o1',K v e1 o1→VR m1 v v'→Rl b m0 m1 e1 o1 e' o1'→K' v' o1') (hargs:as.map (Od.ev e)=pre++ownV s sz L::post) (hpre:okL pre=true) (hpost:okL post=true)
  (hL:okLL L=true) (ho:L≠[]→o s=some (.row sz L)) (hap:RdC cl g (fun v=>pre++v::post) sz L res) (hres:∀ m x,VR m (ownV s sz L) x→VR m (res (ownV s sz L)) (res x)) (hfin:K (res (ownV s sz L)) e o):cl g (as.map (Od.ev e')) o' K':=by
 obtain⟨x,hx,hvx,hls⟩:=Dd hk hR hargs hpre hpost hL ho;rw[hx];refine hap x o' K' hls.1 fun o1 hkeep=>hK _ _ _ _ _ _ hfin (hres m x hvx) ⟨hR.e,⟨hR.o.inj,fun t i ht=>?_,fun t z hz=>?_⟩,fun i z hz=>?_,hR.p⟩
 ·obtain⟨z,hz⟩:=hR.o.live t i ht
  exact⟨z,hkeep i z hz⟩
 ·obtain⟨i,y,h1,h2,h3⟩:=hR.o.ob t z hz
  exact⟨i,y,h1,hkeep i y h2,h3⟩
 ·obtain⟨h1,h2⟩:=hR.f i z hz
  exact⟨hkeep i z h1,h2⟩
def Y9:∀ {l:List Nat},(l.map f).Nodup→∀ {s t:Nat},s∈l→t∈l→f s=f t→s=t:=by
 intro l;induction l with
 | nil=>intro _ s t h;cases h
 | cons a l ih =>
  intro hn s t hs ht h;rw[List.map_cons,List.nodup_cons] at hn;rcases List.mem_cons.1 hs with hs|hs<;>rcases List.mem_cons.1 ht with ht|ht
  ·rw[hs,ht]
  ·exact absurd (List.mem_map.2 ⟨t,ht,by rw[← h,hs]⟩) hn.1
  ·exact absurd (List.mem_map.2 ⟨s,hs,by rw[h,ht]⟩) hn.1
  ·exact ih hn.2 hs ht h
def YA:s∈domA A↔∃ x,(s,x)∈A:=by
 simp [domA]
open Classical in
def VH {b:O} {K:UK} (hR:Rl b m0 m e o e' o')
  (hK:∀ v e1 o1 m1 v' o1',K v e1 o1→VR m1 v v'→Rl b m0 m1 e1 o1 e' o1'→K' v' o1') {ι:Type} {P:ι→Prop} {r:ι→V} {N':ι→List Nat} {A':ι→List (Nat × Ob)} (hvs:VRs m (renL f vs) xs) (hgen:GenI cl g vs N A P r N' A' St) (hA:∀ p∈A,o (f p.1)=some (Qj f p.2)) (hi0:∃ i,P i) (hGs:∀ i,P i→GenK vs N A (r i) (N' i) (A' i) St f f' D)
  (hfins:∀ i,P i→K (ren f' (r i)) (Zx D e) (putA f' (A' i) (ZH D o))):cl g xs o' K':=by
 obtain⟨i0,hi0⟩:=hi0;have hG:=hGs i0 hi0
 let mS:Nm:=fun s=>if s∈N then m (f s) else none
 have mS_in:∀ s,s∈N→mS s=m (f s):=fun s h=>by simp only[mS,if_pos h]
 have mS_of:∀ s id,mS s=some id→s∈N∧m (f s)=some id:=fun s id h=>by
  simp only[mS] at h;split at h
  ·exact⟨‹_›,h⟩
  ·cases h
 have hpull:∀ s id,(N).contains s=true→m (f s)=some id→mS s=some id:=fun s id h1 h2=>by
  rw[mS_in s (by simpa using h1)];exact h2
 have h1:VRs mS vs xs:=VRs.pull hpull vs xs hG.v hvs;have h2:SR mS (ofA A) o':=⟨fun s t id a c=>by
   obtain⟨a1,a2⟩:=mS_of s id a;obtain⟨c1,c2⟩:=mS_of t id c;exact Y9 hG.an a1 c1 (hR.o.inj _ _ id a2 c2),fun s id a=>hR.o.live _ id (mS_of s id a).2,fun s x hx=>by
   have hm:=QcG hx;obtain⟨id,y,g1,g2,g3⟩:=hR.o.ob _ _ (hA _ hm)
   refine⟨id,y,by rw[mS_in s (hG.ai s (YA.2 ⟨x,hm⟩))];exact g1,g2,OR.pull hpull (List.all_eq_true.1 hG.ao _ hm) g3⟩⟩
 refine hgen mS xs o' K' h1 h2 (fun s id h=>(mS_of s id h).1) fun i hi m1 v' o1 hv' hS1 hst hdm hfr=>?_;have hG:=hGs i hi;have hfin:=hfins i hi;clear hGs hfins hgen;generalize r i=r at hG hfin hv';generalize N' i=N' at hG hdm;generalize A' i=A' at hG hfin hS1;have hoth:∀ t id,m t=some id→t ∉ D→(∀ s∈N',f' s≠t)→(∀ s,mS s≠some id):=fun t id ht htD hno s hs=>by
  obtain⟨a1,a2⟩:=mS_of s id hs;have hst:=hR.o.inj _ _ id a2 ht;rcases hG.ad s a1 with h|h
  ·obtain⟨_,b2,b3,_⟩:=hG.st s h;exact hno s (hG.ai' s b2) (by rw[b3,hst])
  ·exact htD (by rw[← hst];exact h)
 let mC:Nm:=fun t=>if h:∃ s∈N',f' s=t then m1 h.choose else off m D t
 have c1:∀ s∈N',mC (f' s)=m1 s:=fun s hs=>by
  have h:∃ u∈N',f' u=f' s:=⟨s,hs,rfl⟩;simp only[mC,dif_pos h];rw[Y9 hG.an' h.choose_spec.1 hs h.choose_spec.2]
 have c2:∀ t,(∀ s∈N',f' s≠t)→mC t=off m D t:=fun t h=>by
  have:¬ ∃ s∈N',f' s=t:=fun ⟨s,h1,h2⟩=>h s h1 h2
  simp only[mC,dif_neg this]
 have c3:∀ t,(∃ s∈N',f' s=t)∨(∀ s∈N',f' s≠t):=fun t=>by
  by_cases h:∃ s∈N',f' s=t
  ·exact .inl h
  ·exact .inr fun s h1 h2=>h ⟨s,h1,h2⟩
 have hoff:∀ t id,off m D t=some id→t ∉ D∧m t=some id:=fun t id h=>by
  simp only[off] at h;split at h
  ·cases h
  ·rename_i hc;exact⟨by simpa using hc,h⟩
 have hstab:∀ s∈St,mC (f' s)=m (f' s):=fun s hs=>by
  obtain⟨a1,a2,a3,_⟩:=hG.st s hs;rw[c1 s (hG.ai' s a2),hst s hs,mS_in s a1,a3]
 have hmono:∀ s id,off m D s=some id→mC s=some id:=fun t id h=>by
  obtain⟨h1,h2⟩:=hoff t id h;rcases c3 t with⟨s,hs,rfl⟩|hno
  ·rcases hG.ad' s hs with hh|hh
   ·rw[hstab s hh];exact h2
   ·exact absurd hh h1
  ·rw[c2 t hno];exact h
 have hpush:∀ s id,(N').contains s=true→m1 s=some id→mC (f' s)=some id:=fun s id hs h=>by rw[c1 s (by simpa using hs)];exact h
 refine hK _ _ _ mC v' o1 hfin (hv'.push (N') hpush hG.r) ⟨fun t=>(Qek D hR.e t).mono hmono,⟨fun s t id a c=>?_,fun s id a=>?_,fun s x hx=>?_⟩,fun i x hx=>?_,fun s hs=>?_⟩
 ·rcases c3 s with⟨u,hu,rfl⟩|hno<;>rcases c3 t with⟨w,hw,rfl⟩|hno2
  ·rw[c1 u hu] at a;rw[c1 w hw] at c;rw[hS1.inj _ _ id a c]
  ·rw[c1 u hu] at a;rw[c2 t hno2] at c;obtain⟨d1,d2⟩:=hoff t id c;obtain⟨x,hx⟩:=hR.o.live t id d2;exact absurd a ((hfr id x hx (hoth t id d2 d1 hno2)).2 u)
  ·rw[c2 s hno] at a;rw[c1 w hw] at c;obtain⟨d1,d2⟩:=hoff s id a;obtain⟨x,hx⟩:=hR.o.live s id d2;exact absurd c ((hfr id x hx (hoth s id d2 d1 hno)).2 w)
  ·rw[c2 s hno] at a;rw[c2 t hno2] at c;exact hR.o.inj s t id (hoff s id a).2 (hoff t id c).2
 ·rcases c3 s with⟨u,hu,rfl⟩|hno
  ·rw[c1 u hu] at a;exact hS1.live u id a
  ·rw[c2 s hno] at a;obtain⟨d1,d2⟩:=hoff s id a;obtain⟨x,hx⟩:=hR.o.live s id d2
   exact⟨x,(hfr id x hx (hoth s id d2 d1 hno)).1⟩
 ·rcases Qe7 hx with⟨p,hp,rfl,rfl⟩|⟨hno,hx⟩
  ·obtain⟨id,y,g1,g2,g3⟩:=hS1.ob p.1 p.2 (Qda hG.ad0 hp)
   exact⟨id,y,by rw[c1 p.1 (hG.ai' _ (YA.2 ⟨_,hp⟩))];exact g1,g2,g3.push (N') hpush (List.all_eq_true.1 hG.ao' _ hp)⟩
  ·obtain⟨id,y,g1,g2,g3⟩:=QdY D hR.o.ob s x hx;have hno2:∀ u∈N',f' u≠s:=fun u hu hus=>by
    rcases hG.ad' u hu with hh|hh
    ·obtain⟨z,hz⟩:=YA.1 (hG.st u hh).2.1;exact hno _ hz hus
    ·rw[hus] at hh;rw[Qe0 (.inl hh)] at hx;cases hx
   obtain⟨d1,d2⟩:=hoff s id g1
   exact⟨id,y,by rw[c2 s hno2];exact g1,(hfr id y g2 (hoth s id d2 d1 hno2)).1,g3.mono hmono⟩
 ·obtain⟨g1,g2⟩:=hR.f i x hx;obtain⟨k1,k2⟩:=hfr i x g1 fun s hs=>g2 _ (mS_of s i hs).2
  refine⟨k1,fun s hs=>?_⟩
  rcases c3 s with⟨u,hu,rfl⟩|hno
  ·rw[c1 u hu] at hs;exact k2 u hs
  ·rw[c2 s hno] at hs;exact g2 s (hoff s i hs).2
 ·rcases c3 s with⟨u,hu,rfl⟩|hno
  ·rcases hG.d u hu with hh|hh
   ·rw[hstab u hh];exact hR.p _ hs
   ·have h2:PN≤f' u:=hs;unfold PN at h2;omega
  ·rw[c2 s hno];by_cases hsD:s∈D
   ·right;simp [off,hsD]
   ·have:off m D s=m s:=by simp [off,hsD]
    rw[this];exact hR.p s hs
def YJ (hks:ks≠[]) {k k':V} (hk:VR m k k'):∀ {es fs:List (Nat × V × V)},fs.length=es.length→(∀ (j:Nat) a b,es[j]?=some a→fs[j]?=some b→b.1=a.1∧VR m a.2.1 b.2.1∧VR m a.2.2 b.2.2)→∀ {r:Option Nat},QN ag ks k es=some r→QN ag ks k' fs=some r:=by
 intro es;induction es with
 | nil =>
  intro fs hl _ r h
  have:fs=[]:=List.eq_nil_of_length_eq_zero (by simpa using hl)
  subst this;simp only[QN] at h ⊢;split at h
  ·rename_i hc;have hne:k≠.jk:=by
    rintro rfl
    have:=hc.2
    cases ks with
    | nil=>exact hks rfl
    | cons=>simp [V.cells] at this
   rw[if_pos ⟨by rw[Qbq hk hne];exact hc.1,by rw[(YB hk hne).len];exact hc.2⟩];exact h
  ·cases h
 | cons p es ih =>
  intro fs hl hall r h;cases fs with
  | nil=>simp at hl
  | cons q fs =>
   obtain⟨st,k1,v1⟩:=p;obtain⟨st2,k2,v2⟩:=q;obtain⟨_,h2,_⟩:=hall 0 _ _ rfl rfl;have hrec:=fun {r} h=>ih (fs:=fs) (by simpa using hl) (fun j a b ha hb=>hall (j+1) a b (by simpa using ha) (by simpa using hb)) (r:=r) h;simp only[QN] at h ⊢;cases hq:eqV ag ks k k1 with
   | none=>rw[hq] at h;cases h
   | some t =>
    rw[hq] at h;rw[QfQ hks hk h2 hq];cases t with
    | true=>exact h
    | false =>
     simp only at h ⊢;cases hr:QN ag ks k es with
     | none=>rw[hr] at h;cases h
     | some u=>rw[hr] at h;rw[hrec hr];exact h
def Qh8 (h:RRs m es fs):VRs m es.flatten fs.flatten:=by
 induction es generalizing fs with
 | nil =>
  have:fs=[]:=List.eq_nil_of_length_eq_zero (by simpa using h.len)
  rw[this];exact .nil
 | cons c es ih =>
  cases fs with
  | nil=>have:=h.len;simp at this
  | cons d fs =>
   rw[List.flatten_cons,List.flatten_cons];exact (h.at_ 0 c d rfl rfl).append (ih ⟨by simpa using h.len,fun j a b ha hb=>h.at_ (j+1) a b (by simpa using ha) (by simpa using hb)⟩)
theorem RRs.drop {m:Nm} {es fs:List (List V)} (h:RRs m es fs) (a:Nat):RRs m (es.drop a) (fs.drop a) :=
 ⟨by simp [h.len],fun j c d hc hd=>by rw[List.getElem?_drop] at hc hd;exact h.at_ _ c d hc hd⟩
def XE (hs:SR m o o') {v:V} (h:VR m v x) (hv:v=.mp s) {es:List (Nat × V × V)} {clock:Nat} (ho:o s=some (.map es clock)) :
  ∃ id fs,x=.mp id∧m s=some id∧o' id=some (.map fs clock)∧fs.length=es.length∧(∀ (j:Nat) a b,es[j]?=some a→fs[j]?=some b→b.1=a.1∧VR m a.2.1 b.2.1∧VR m a.2.2 b.2.2):=by
 subst hv;cases h with
 | mp _ id hm =>
  obtain⟨id2,y,h1,h2,h3⟩:=hs.ob s _ ho;rw[hm] at h1;cases h1;cases h3 with
  | map _ fs _ hl hh=>exact⟨id,fs,rfl,hm,h2,hl,hh⟩
def Dz {es fs:List (Nat × V × V)} (hh:∀ (j:Nat) a b,es[j]?=some a→fs[j]?=some b→b.1=a.1∧VR m a.2.1 b.2.1∧VR m a.2.2 b.2.2) (i:Nat) {p q:Nat × V × V} (h1:q.1=p.1) (h2:VR m p.2.1 q.2.1) (h3:VR m p.2.2 q.2.2) :
  ∀ (j:Nat) a b,(es.set i p)[j]?=some a→(fs.set i q)[j]?=some b→b.1=a.1∧VR m a.2.1 b.2.1∧VR m a.2.2 b.2.2:=by
 intro j a b ha hb;rw[List.getElem?_set] at ha hb;split at ha
 ·rename_i hij;rw[if_pos hij] at hb;split at ha
  ·split at hb
   ·cases ha;cases hb;exact⟨h1,h2,h3⟩
   ·cases hb
  ·cases ha
 ·rename_i hij;rw[if_neg hij] at hb;exact hh j a b ha hb
def D6 {es fs:List (Nat × V × V)} (hl:fs.length=es.length) (hh:∀ (j:Nat) a b,es[j]?=some a→fs[j]?=some b→b.1=a.1∧VR m a.2.1 b.2.1∧VR m a.2.2 b.2.2) {p q:Nat × V × V} (h1:q.1=p.1) (h2:VR m p.2.1 q.2.1) (h3:VR m p.2.2 q.2.2) :
  ∀ (j:Nat) a b,(es++[p])[j]?=some a→(fs++[q])[j]?=some b→b.1=a.1∧VR m a.2.1 b.2.1∧VR m a.2.2 b.2.2:=by
 intro j a b ha hb;by_cases hj:j < es.length
 ·rw[List.getElem?_append_left hj] at ha;rw[List.getElem?_append_left OM] at hb;exact hh j a b ha hb
 ·rw[List.getElem?_append_right OM] at ha;rw[List.getElem?_append_right OM,hl] at hb;cases hk:j - es.length with
  | zero=>rw[hk] at ha hb;simp at ha hb;subst ha;subst hb;exact⟨h1,h2,h3⟩
  | succ n=>rw[hk] at ha;simp at ha
def rdX:I→Bool
 | .mlen ..=>true
 | .lkp ..=>true
 | .ent ..=>true
 | _=>false
def Qab (he:∀ t,VR m (e t) (e' t)) (hs:SR m o o') {j:I} (hk:ckI j=true) (hj:rdX j=true) {v:V} (hv:rv e o j=some v):∃ x,rv e' o' j=some x∧VR m v x:=by
 cases j<;>(first|(cases hj;done)|skip)
 case mlen x =>
  simp only[rv] at hv ⊢;have hx:=Qn he (x:=x) hk;generalize x.ev e=xv at hv hx;generalize x.ev e'=xw at hx;cases hx<;>simp only at hv ⊢<;>(first|(cases hv;done)|skip)
  ·cases hv;exact⟨_,rfl,.i _ _⟩
  ·rename_i s id hm;cases ho:o s with
   | none=>rw[ho] at hv;cases hv
   | some ob =>
    rw[ho] at hv;cases ob<;>simp only at hv<;>(first|(cases hv;done)|skip);obtain⟨id2,fs,hx2,hm2,ho',hl,hh⟩:=XE hs (.mp s id hm) rfl ho;cases hx2;rw[ho'];simp only[hl];cases hv;exact⟨_,rfl,.i _ _⟩
 case ent x =>
  simp only[rv] at hv ⊢;have hx:=Qn he (x:=x) hk;generalize x.ev e=xv at hv hx;generalize x.ev e'=xw at hx;cases hx<;>simp only[entV] at hv ⊢<;>(first|(cases hv;done)|skip);rename_i s id hm;cases ho:o s with
  | none=>rw[ho] at hv;cases hv
  | some ob =>
   rw[ho] at hv;obtain⟨id2,y,g1,g2,g3⟩:=hs.ob s _ ho;rw[hm] at g1;cases g1;cases g3 with
   | row=>simp at hv
   | map=>simp at hv
   | iter a bm since seen stepped hit =>
    cases a with
    | none=>simp at hv
    | some mid =>
     cases bm with
     | none=>exact hit.elim
     | some mid' =>
      have hit:m mid=some mid':=hit;simp only at hv;cases hom:o mid with
      | none=>rw[hom] at hv;cases hv
      | some mo =>
       rw[hom] at hv;cases mo with
       | row=>cases hv
       | iter=>cases hv
       | map es clock =>
        obtain⟨id3,z,k1,k2,k3⟩:=hs.ob mid _ hom;rw[hit] at k1;cases k1;cases k3 with
        | map _ fs _ hl hh =>
         simp only[g2,k2];cases hl2:seen.getLast? with
         | none=>rw[hl2] at hv;cases hv
         | some st =>
          rw[hl2] at hv;simp only at hv ⊢;split at hv
          ·rename_i hc;rw[if_pos hc];cases hf:es.find? (fun x=>x.1==st) with
           | none=>rw[hf] at hv;cases hv
           | some en =>
            rw[hf] at hv;cases hv
            have:∀ (es fs:List (Nat × V × V)),fs.length=es.length→(∀ (j:Nat) a b,es[j]?=some a→fs[j]?=some b→b.1=a.1∧VR m a.2.1 b.2.1∧VR m a.2.2 b.2.2)→es.find? (fun x=>x.1==st)=some en→∃ en',fs.find? (fun x=>x.1==st)=some en'∧VR m en.2.1 en'.2.1∧VR m en.2.2 en'.2.2:=by
             intro es;induction es with
             | nil=>intro fs _ _ h;cases h
             | cons p es ih =>
              intro fs hl hh h;cases fs with
              | nil=>simp at hl
              | cons q fs =>
               obtain⟨e1,e2,e3⟩:=hh 0 p q rfl rfl;rw[List.find?_cons] at h ⊢;rw[e1];split at h
               ·cases h;exact⟨q,rfl,e2,e3⟩
               ·exact ih fs (by simpa using hl) (fun j a b ha hb=>hh (j+1) a b (by simpa using ha) (by simpa using hb)) h
            obtain⟨en',h1,h2,h3⟩:=this es fs hl hh hf;rw[h1]
            exact⟨_,rfl,.tp _ _ rfl (VRs.cons h2 (.cons h3 .nil)).at_⟩
          ·cases hv
 case lkp kg ks z okk mm k =>
  simp only[ckI,Bool.and_eq_true,Bool.not_eq_true',List.isEmpty_eq_false_iff] at hk;obtain⟨⟨⟨k1,k2⟩,k3⟩,k4⟩:=hk;have hkv:=Qn he (x:=k) k4;have hz:=YN m z k2;simp only[rv] at hv ⊢;have hx:=Qn he (x:=mm) k3;generalize mm.ev e=xv at hv hx;generalize mm.ev e'=xw at hx;have fin0:∀ {v:V},(some (if okk then V.tp [z,.bo false] else z):Option V)=some v→∃ x,(some (if okk then V.tp [z,.bo false] else z):Option V)=some x∧VR m v x:=fun {v} h=>by
   cases h
   refine⟨_,rfl,?_⟩
   split
   ·exact .tp _ _ rfl (VRs.cons hz (.cons (.bo _) .nil)).at_
   ·exact hz
  cases hx<;>simp only[lkpV] at hv ⊢<;>(first|(cases hv;done)|skip)
  ·cases hf:QN kg ks (k.ev e) [] with
   | none=>rw[hf] at hv;cases hv
   | some r =>
    rw[hf] at hv;rw[YJ k1 hkv rfl SM hf];exact fin0 hv
  ·rename_i s id hm;cases ho:o s with
   | none=>rw[ho] at hv;cases hv
   | some ob =>
    rw[ho] at hv;cases ob<;>simp only at hv<;>(first|(cases hv;done)|skip);obtain⟨id2,fs,hx2,hm2,ho',hl,hh⟩:=XE hs (.mp s id hm) rfl ho;cases hx2;rename_i es clock;rw[ho'];simp only;cases hf:QN kg ks (k.ev e) es with
    | none=>rw[hf] at hv;cases hv
    | some r =>
     rw[hf] at hv;rw[YJ k1 hkv hl hh hf];cases r with
     | none=>exact fin0 hv
     | some j =>
      simp only at hv ⊢;cases hj:es[j]? with
      | none=>rw[hj] at hv;cases hv
      | some en =>
       rw[hj] at hv;have hjl:=(List.getElem?_eq_some_iff.1 hj).1;have hj':fs[j]?=some (fs[j]'(by omega)):=List.getElem?_eq_getElem _;obtain⟨e1,e2,e3⟩:=hh j _ _ hj hj';rw[hj'];simp only[Option.map_some] at hv ⊢;cases hv
       refine⟨_,rfl,?_⟩
       split
       ·exact .tp _ _ rfl (VRs.cons e3 (.cons (.bo _) .nil)).at_
       ·exact e3
def QmL (hcl:Le cl cl) {b:O} {j:I} (hk:ckI j=true) {K:UK} (hnm:nm < PN) (h:UW cl nm e o K j) (hR:Rl b m0 m e o e' o')
  (hK:∀ v e1 o1 m1 v' o1',K v e1 o1→VR m1 v v'→Rl b m0 m1 e1 o1 e' o1'→K' v' o1'):W cl e' o' K' j:=by
 cases j<;>(first|exact h.elim|skip)
 case q q =>
  simp only[UW] at h;simp only[W,rv];cases hv:qv e q with
  | none=>rw[hv] at h;exact h.elim
  | some v =>
   rw[hv] at h;obtain⟨x,h1,h2⟩:=Qma hR.e hk hv;rw[h1];exact hK v e o m x o' h h2 hR
 case isn mp neg x =>
  simp only[UW] at h;simp only[W,rv];cases hv:isnV o mp neg (x.ev e) with
  | none=>rw[hv] at h;exact h.elim
  | some v =>
   rw[hv] at h;obtain⟨h1,h2⟩:=QcI hR.o (Qn hR.e hk) hv;rw[h1];exact hK v e o m v o' h h2 hR
 case ld sz ag x =>
  simp only[UW,rv] at h;simp only[W,rv];cases hc:Qz o (x.ev e) with
  | none=>rw[hc] at h;exact h.elim
  | some p =>
   obtain⟨cs,j⟩:=p;rw[hc] at h;obtain⟨ds,h1,h2⟩:=Je hR.o (Qn hR.e hk) hc;rw[h1];simp only at h ⊢;cases hp:prt ag j sz cs with
   | none=>rw[hp] at h;exact h.elim
   | some v =>
    rw[hp] at h;obtain⟨y,h3,h4⟩:=Hp h2 hp;rw[h3];exact hK v e o m y o' h h4 hR
 case pc g as =>
  obtain⟨r,h1,h2⟩:=h;obtain⟨h3,h4⟩:=Qlu hR.o (Ww hR.e hk) h1
  exact⟨r,h3,hK r e o m r o' h2 h4 hR⟩
 case pv g as =>
  obtain⟨r,h1,h2⟩:=h;simp only[ckI,Bool.and_eq_true] at hk;have hg:=Qn hR.e (x:=g) hk.1;generalize g.ev e=gv at h1 hg;generalize hgx:g.ev e'=gx at hg;cases hg<;>simp only at h1<;>(first|exact h1.elim|skip);rename_i f cs ds hl hh;obtain⟨h3,h4⟩:=Qlu hR.o ((Ww hR.e hk.2).append ⟨hl,hh⟩) h1
  refine⟨r,?_,hK r e o m r o' h2 h4 hR⟩
  rw[hgx];exact h3
 case nv g as =>
  obtain⟨h0,cs,hge,ι,P,vs,N,A,r,N',A',St,f,f',D,g1,g2,g3,g4,g5,g6⟩:=h;simp only[ckI,Bool.and_eq_true] at hk;have hg:=Qn hR.e (x:=g) hk.1;rw[hge] at hg;generalize hgx:g.ev e'=gx at hg;cases hg;rename_i ds hl hh;have hvs:=(Ww hR.e (l:=as) hk.2).append ⟨hl,hh⟩;rw[g1] at hvs;simp only[W,hgx];exact VH hR hK hvs g2 g3 g4 g5 g6
 case alc z =>
  intro id hid;exact hK _ _ _ _ _ _ h (.pt nm id 0 0 (by simp [upd])) (hR.new hnm hid (.row _ _ _ (RRs.one (Q9 _ z hk))))
 case box x =>
  have hx:=Qn hR.e (x:=x) hk;have hne:x.ev e≠.jk:=fun hh=>h.1 (by rw[hh];rfl);have hc:=YB hx hne
  refine⟨fun hh=>h.1 (List.eq_nil_of_length_eq_zero (by rw[← hc.len,hh];rfl)),fun id hid=>?_⟩
  refine hK _ _ _ _ _ _ h.2 (.pt nm id 0 0 (by simp [upd])) (hR.new hnm hid ?_);rw[hc.len];exact .row _ _ _ (RRs.one (hc.swp fun s hs=>by simp [upd,hs]))
 case bsl sz n z ps =>
  simp only[ckI,Bool.and_eq_true,decide_eq_true_eq] at hk;simp only[UW] at h;simp only[W];by_cases hn:n=0
  ·rw[if_pos hn] at h ⊢;exact hK _ _ _ _ _ _ h .nil hR
  ·rw[if_neg hn] at h ⊢;cases hf:Yd e sz ps (List.replicate n z) with
   | none=>rw[hf] at h;exact h.elim
   | some es =>
    rw[hf] at h;obtain⟨fs,h1,h2⟩:=Du hR.e hk.1.1 ps hk.2 (RRs.rep (Q9 m z hk.1.2) n) hf;rw[h1];intro id hid;exact hK _ _ _ _ _ _ h (.rw nm id sz 0 n (by simp [upd])) (hR.new hnm hid (.row _ _ _ (h2.swp fun s hs=>by simp [upd,hs])))
 case mks sz byt z l c =>
  simp only[ckI,Bool.and_eq_true] at hk;simp only[UW] at h;simp only[W];cases h1:natV (l.ev e) with
  | none=>rw[h1] at h;exact h.elim
  | some p =>
   cases h2:natV (c.ev e) with
   | none=>rw[h1,h2] at h;exact h.elim
   | some q =>
    rw[h1,h2] at h;rw[J9 (Qn hR.e hk.1.2) h1,J9 (Qn hR.e hk.2) h2]
    refine⟨h.1,h.2.1,fun id hid=>?_⟩
    exact hK _ _ _ _ _ _ h.2.2 (.rw nm id sz 0 p (by simp [upd])) (hR.new hnm hid (.row _ _ _ (RRs.rep (Q9 _ z hk.1.1) p)))
 case sto sz x v =>
  simp only[ckI,Bool.and_eq_true,decide_eq_true_eq] at hk;simp only[UW] at h;simp only[W];have hx:=Qn hR.e (x:=x) hk.1.2;generalize x.ev e=xv at h hx;generalize hgx:x.ev e'=xw at hx;cases hx<;>simp only at h<;>(first|exact h.elim|skip);rename_i s id i j hm;cases ho:o s with
  | none=>rw[ho] at h;exact h.elim
  | some ob =>
   obtain⟨id2,y,g1,g2,g3⟩:=hR.o.ob s ob ho;rw[hm] at g1;cases g1;rw[ho] at h;cases g3 with
   | map=>exact h.elim
   | iter=>exact h.elim
   | row q es fs hrr =>
    simp only at h;cases hc:es[i]? with
    | none=>rw[hc] at h;exact h.elim
    | some cs =>
     rw[hc] at h;simp only at h;obtain⟨ds,hd,hcd⟩:=hrr.get hc;have hv:=Qn hR.e (x:=v) hk.2;have hvc:=YB hv (Hg h.1 hk.1.1);simp only[g2,hd]
     refine⟨by rw[hvc.len];exact h.1,by rw[hcd.len];exact h.2.1,?_⟩
     exact hK _ _ _ _ _ _ h.2.2 (.jk _) (hR.set hm (.row _ _ _ (hrr.set (Xs j hvc hcd) i)))
 case app sz byt x y =>
  simp only[ckI,Bool.and_eq_true] at hk;simp only[UW] at h;simp only[W];cases hsrc:src o (y.ev e) with
  | none=>rw[hsrc] at h;exact h.elim
  | some ys =>
   rw[hsrc] at h;obtain⟨zs,h1,h2⟩:=DM hR.o (Qn hR.e hk.2) hsrc;rw[h1];simp only at h ⊢
   refine⟨fun c hc=>?_,?_⟩
   ·obtain⟨j,hj,rfl⟩:=List.mem_iff_getElem.1 hc;have hj2:j < ys.length:=by rw[← h2.len];exact hj
    have:=h2.at_ j _ _ (List.getElem?_eq_getElem hj2) (List.getElem?_eq_getElem hj)
    rw[this.len];exact h.1 _ (List.getElem_mem _)
   ·have h:=h.2;have hz:zs=[]↔ys=[]:=by rw[← List.length_eq_zero_iff,← List.length_eq_zero_iff,h2.len]
    have hx:=Qn hR.e (x:=x) hk.1;generalize x.ev e=xv at h hx;generalize hgx:x.ev e'=xw at hx;cases hx<;>simp only at h ⊢<;>(first|exact h.elim|skip)
    ·refine⟨by rw[h2.len];exact h.1,fun hn=>hK _ _ _ _ _ _ (h.2.1 (hz.1 hn)) .nil hR,fun hn id hid=>?_⟩
     obtain⟨s,hsp,this⟩:=h.2.2 (fun hh=>hn (hz.2 hh));rw[h2.len];exact hK _ _ _ _ _ _ this (.rw s id sz 0 _ (by simp [upd])) (hR.new hsp hid (.row _ _ _ (h2.swp fun s hs=>by simp [upd,hs])))
    ·rename_i s id sz' off len hm;obtain⟨rfl,rfl,h⟩:=h
     refine⟨rfl,rfl,?_⟩
     cases ho:o s with
     | none=>rw[ho] at h;exact h.elim
     | some ob =>
      obtain⟨id2,w,g1,g2,g3⟩:=hR.o.ob s ob ho;rw[hm] at g1;cases g1;rw[ho] at h;cases g3 with
      | map=>exact h.elim
      | iter=>exact h.elim
      | row q es fs hrr =>
       simp only at h;rw[g2];simp only
       refine⟨by rw[hrr.len];exact h.1,by rw[h2.len];exact h.2.1,fun hn=>hK _ _ _ _ _ _ (h.2.2.1 (hz.1 hn)) (.rw s id sz' 0 len hm) hR,fun hn id' hid'=>?_⟩
       have:=h.2.2.2 (fun hh=>hn (hz.2 hh))
       rw[h2.len];split at this
       ·rename_i hsp;exact hK _ _ _ _ _ _ this (.rw s id' sz' 0 _ (by simp [upd])) (hR.anew hsp hm hid' (.row _ _ _ (((hrr.take len).append h2).swp fun t ht=>by simp [upd,ht])))
       ·exact hK _ _ _ _ _ _ this (.rw nm id' sz' 0 _ (by simp [upd])) ((hR.gone hm).new hnm hid' (.row _ _ _ ((((hrr.take len).append h2).swp (m1:=upd m s none) fun t ht=>by simp [upd,ht]).swp fun t ht=>by simp [upd,ht])))
 case nc g as =>
  rcases h with⟨s,q,es,es',r,h1,h2,h3,h4,h5,h6,h7⟩|⟨s,sz,L,L',pre,post,hsp,hargs,hpre,hpost,hL,hL',ho,hap,hfin⟩|⟨s,sz,L,res,pre,post,hargs,hpre,hpost,hL,ho,hap,hres,hfin⟩|⟨vs,N,A,r,N',A',St,f,f',D,g1,g2,g3,g4,g5⟩|⟨ι,P,vs,N,A,r,N',A',St,f,f',D,g1,g2,g3,g4,g5,g6⟩
  case inr.inl=>exact Qkk hk hR hK hsp hargs hpre hpost hL hL' ho hap hfin
  case inr.inr.inl=>exact QiV hk hR hK hargs hpre hpost hL ho hap hres hfin
  case inr.inr.inr.inl =>
   have hvs:=Ww hR.e (l:=as) hk;rw[g1] at hvs;exact VH (ι:=Unit) (P:=fun _=>True) (r:=fun _=>r) (N':=fun _=>N') (A':=fun _=>A') hR hK hvs (fun m xs o K h1 h2 h3 h4=>g2 m xs o K h1 h2 h3 (h4 () trivial)) g3 ⟨(),trivial⟩ (fun _ _=>g4) (fun _ _=>g5)
  case inr.inr.inr.inr =>
   have hvs:=Ww hR.e (l:=as) hk;rw[g1] at hvs;exact VH hR hK hvs g2 g3 g4 g5 g6
  obtain⟨id,y,g1,g2,g3⟩:=hR.o.ob s _ h1;cases g3 with
  | row _ _ fs hrr =>
   have hfs:=KP hrr h2;subst hfs;have hvs:=Ww hR.e (l:=as) hk;have hargs:as.map (Od.ev e')=(as.map (Od.ev e)).map fun v=>refV s v id:=by
    apply List.ext_getElem?;intro j;rw[List.getElem?_map (l:=as.map (Od.ev e))];cases hv:(as.map (Od.ev e))[j]? with
    | none =>
     rw[List.getElem?_eq_none_iff] at hv;rw[List.getElem?_eq_none_iff.2 (by simpa using hv)];rfl
    | some v =>
     obtain⟨x,hx,hvx⟩:=hvs.get hv;rw[hx,Qij g1 hvx (List.all_eq_true.1 h5 v (List.mem_of_getElem? hv))];rfl
   show cl g (as.map (Od.ev e')) o' _;rw[hargs];refine h6 id o' _ g2 fun o1 k1 k2=>hK _ _ _ _ _ _ h7 (YN m r (Qgh r h4)) ⟨hR.e,⟨hR.o.inj,fun t i ht=>?_,fun t z hz=>?_⟩,fun i z hz=>?_,hR.p⟩
   ·by_cases hi:i=id
    ·exact⟨_,by rw[hi];exact k1⟩
    ·obtain⟨x,hx⟩:=hR.o.live t i ht
     exact⟨x,k2 i x hi hx⟩
   ·by_cases ht:t=s
    ·subst ht;simp only[upd,if_true,Option.some.injEq] at hz;subst hz
     exact⟨id,_,g1,k1,.row _ _ _ (Jz m (WI h3))⟩
    ·simp only[upd,if_neg ht] at hz;obtain⟨i,y,e1,e2,e3⟩:=hR.o.ob t z hz
     exact⟨i,y,e1,k2 i y (fun hi=>ht (hR.o.inj t s id (by rw[e1,hi]) g1)) e2,e3⟩
   ·obtain⟨e1,e2⟩:=hR.f i z hz
    exact⟨k2 i z (fun hi=>e2 s (by rw[hi];exact g1)) e1,e2⟩
 case mkm =>
  simp only[UW] at h;intro id hid;exact hK _ _ _ _ _ _ h (.mp nm id (by simp [upd])) (hR.new hnm hid (.map [] [] 0 rfl SM))
 case men kg ks z mm k =>
  simp only[ckI,Bool.and_eq_true,Bool.not_eq_true',List.isEmpty_eq_false_iff] at hk;obtain⟨⟨⟨k1,k2⟩,k3⟩,k4⟩:=hk;simp only[UW] at h;simp only[W];split at h<;>(first|exact h.elim|skip);rename_i s hs;split at h<;>(first|exact h.elim|skip);rename_i es clock ho;obtain⟨id,fs,hx,hm,ho',hl,hh⟩:=XE hR.o (Qn hR.e k3) hs ho;have hkv:=Qn hR.e (x:=k) k4;rw[hx];simp only[ho'];split at h<;>(first|exact h.elim|skip)
  ·rename_i j hf;rw[YJ k1 hkv hl hh hf];simp only;split at h<;>(first|exact h.elim|skip);rename_i st kk v hj;have hjl:=(List.getElem?_eq_some_iff.1 hj).1;have hj':fs[j]?=some (fs[j]'(by omega)):=List.getElem?_eq_getElem _;obtain⟨e1,e2,e3⟩:=hh j _ _ hj hj';generalize fs[j]'(by omega)=en at hj' e1 e2 e3;obtain⟨st2,kk2,v2⟩:=en;simp only at e1;subst e1;rw[hj'];simp only;exact hK _ _ _ _ _ _ h (.tp _ _ rfl (VRs.cons e3 (.cons (.i _ _) .nil)).at_) (hR.set hm (.map _ _ clock (by simp [hl]) (Dz hh j rfl hkv e3)))
  ·rename_i hf;rw[YJ k1 hkv hl hh hf];simp only;have hz:=YN m z k2;exact hK _ _ _ _ _ _ h (.tp _ _ rfl (VRs.cons hz (.cons (.i _ _) .nil)).at_) (hR.set hm (.map _ _ _ (by simp [hl]) (D6 hl hh rfl hkv hz)))
 case mup kg ks mm k v =>
  simp only[ckI,Bool.and_eq_true,Bool.not_eq_true',List.isEmpty_eq_false_iff] at hk;obtain⟨⟨⟨k1,k2⟩,k3⟩,k4⟩:=hk;simp only[UW] at h;simp only[W];split at h<;>(first|exact h.elim|skip);rename_i s hs;split at h<;>(first|exact h.elim|skip);rename_i es clock ho;obtain⟨id,fs,hx,hm,ho',hl,hh⟩:=XE hR.o (Qn hR.e k2) hs ho;have hkv:=Qn hR.e (x:=k) k3;have hvv:=Qn hR.e (x:=v) k4;rw[hx];simp only[ho'];simp only[putE] at h ⊢;cases hf:QN kg ks (k.ev e) es with
  | none=>rw[hf] at h;exact h.elim
  | some r =>
   rw[hf] at h;rw[YJ k1 hkv hl hh hf];cases r with
   | none =>
    simp only at h ⊢;exact hK _ _ _ _ _ _ h (.jk _) (hR.set hm (.map _ _ _ (by simp [hl]) (D6 hl hh rfl hkv hvv)))
   | some j =>
    simp only at h ⊢;cases hj:es[j]? with
    | none=>rw[hj] at h;exact h.elim
    | some en =>
     rw[hj] at h;have hjl:=(List.getElem?_eq_some_iff.1 hj).1;have hj':fs[j]?=some (fs[j]'(by omega)):=List.getElem?_eq_getElem _;obtain⟨e1,e2,e3⟩:=hh j _ _ hj hj';rw[hj'];simp only[Option.map_some] at h ⊢;exact hK _ _ _ _ _ _ h (.jk _) (hR.set hm (.map _ _ clock (by simp [hl]) (Dz hh j e1 hkv hvv)))
 case est mm t v =>
  simp only[ckI,Bool.and_eq_true] at hk;obtain⟨⟨k1,k2⟩,k3⟩:=hk;simp only[UW] at h;simp only[W];split at h<;>(first|exact h.elim|skip);rename_i s st hs ht;split at h<;>(first|exact h.elim|skip);rename_i es clock ho;obtain⟨id,fs,hx,hm,ho',hl,hh⟩:=XE hR.o (Qn hR.e k1) hs ho;have hvv:=Qn hR.e (x:=v) k3;rw[hx,J9 (Qn hR.e k2) ht];simp only[ho'];obtain⟨⟨p,hp1,hp2⟩,h⟩:=h
  refine⟨?_,hK _ _ _ _ _ _ h (.jk _) (hR.set hm (.map _ _ clock (by simp [hl]) fun j a b ha hb=>?_))⟩
  ·obtain⟨j,hj,rfl⟩:=List.mem_iff_getElem.1 hp1;have hj':fs[j]?=some (fs[j]'(by omega)):=List.getElem?_eq_getElem _;obtain⟨e1,_,_⟩:=hh j _ _ (List.getElem?_eq_getElem hj) hj'
   exact⟨_,List.mem_of_getElem? hj',by rw[e1,hp2]⟩
  ·rw[List.getElem?_map] at ha hb;cases hc:es[j]? with
   | none=>rw[hc] at ha;cases ha
   | some u =>
    cases hd:fs[j]? with
    | none=>rw[hd] at hb;cases hb
    | some w =>
     rw[hc] at ha;rw[hd] at hb;cases ha;cases hb;obtain⟨e1,e2,e3⟩:=hh j u w hc hd;dsimp only;by_cases hst:u.1=st
     ·rw[if_pos hst,if_pos (by rw[e1];exact hst)]
      exact⟨e1,e2,hvv⟩
     ·rw[if_neg hst,if_neg (by rw[e1];exact hst)]
      exact⟨e1,e2,e3⟩
 case del kg ks mm k =>
  simp only[ckI,Bool.and_eq_true,Bool.not_eq_true',List.isEmpty_eq_false_iff] at hk;obtain⟨⟨k1,k2⟩,k3⟩:=hk;simp only[UW] at h;simp only[W];split at h<;>(first|exact h.elim|skip);rename_i s hs;split at h<;>(first|exact h.elim|skip);rename_i es clock ho;obtain⟨id,fs,hx,hm,ho',hl,hh⟩:=XE hR.o (Qn hR.e k2) hs ho;have hkv:=Qn hR.e (x:=k) k3;rw[hx];simp only[ho'];split at h<;>(first|exact h.elim|skip)
  ·rename_i j hf;rw[YJ k1 hkv hl hh hf];simp only;refine hK _ _ _ _ _ _ h (.tp [] [] rfl SM) (hR.set hm (.map _ _ clock (by simp only[List.length_eraseIdx,hl]) fun i a b ha hb=>?_));rw[List.getElem?_eraseIdx] at ha hb;split at ha
   ·rw[if_pos ‹_›] at hb;exact hh _ a b ha hb
   ·rw[if_neg ‹_›] at hb;exact hh _ a b ha hb
  ·rename_i hf;rw[YJ k1 hkv hl hh hf];exact hK _ _ _ _ _ _ h (.tp [] [] rfl SM) (hR.set hm (.map _ _ clock hl hh))
 case rng mm =>
  simp only[UW] at h;simp only[W];split at h<;>(first|exact h.elim|skip);rename_i s hs;split at h<;>(first|exact h.elim|skip);rename_i es clock ho;obtain⟨id,fs,hx,hm,ho',hl,hh⟩:=XE hR.o (Qn hR.e hk) hs ho;rw[hx];simp only[ho'];intro i hi;have hne:s≠nm:=by simpa using h.1
  exact hK _ _ _ _ _ _ h.2 (.it nm i (by simp [upd])) (hR.new hnm hi (.iter (some s) (some id) clock [] clock (by show upd m nm (some i) s=some id;simp [upd,hne,hm])))
 case nxt x =>
  simp only[UW] at h;simp only[W];have hx:=Qn hR.e (x:=x) hk;generalize x.ev e=xv at h hx;generalize x.ev e'=xw at hx;cases hx<;>simp only at h<;>(first|exact h.elim|skip);rename_i s id hm;split at h<;>(first|exact h.elim|skip);rename_i mid since seen stepped ho;split at h<;>(first|exact h.elim|skip);rename_i es clock hom;obtain⟨id2,y,g1,g2,g3⟩:=hR.o.ob s _ ho;rw[hm] at g1;cases g1;cases g3 with
  | iter _ bm _ _ _ hit =>
   cases bm with
   | none=>exact hit.elim
   | some mid' =>
    have hit:m mid=some mid':=hit;obtain⟨id3,z,k1,k2,k3⟩:=hR.o.ob mid _ hom;rw[hit] at k1;cases k1;cases k3 with
    | map _ fs _ hl hh =>
     simp only[g2,k2];have hback:∀ p∈fs,∃ q∈es,p.1=q.1∧VR m q.2.1 p.2.1∧VR m q.2.2 p.2.2:=fun p hp=>by
      obtain⟨j,hj,rfl⟩:=List.mem_iff_getElem.1 hp;have hj':es[j]?=some (es[j]'(by omega)):=List.getElem?_eq_getElem _;obtain⟨e1,e2,e3⟩:=hh j _ _ hj' (List.getElem?_eq_getElem hj)
      exact⟨_,List.mem_of_getElem? hj',e1,e2,e3⟩
     have hforth:∀ q∈es,∃ p∈fs,p.1=q.1:=fun q hq=>by
      obtain⟨j,hj,rfl⟩:=List.mem_iff_getElem.1 hq;have hj':fs[j]?=some (fs[j]'(by omega)):=List.getElem?_eq_getElem _;obtain⟨e1,_,_⟩:=hh j _ _ (List.getElem?_eq_getElem hj) hj'
      exact⟨_,List.mem_of_getElem? hj',e1⟩
     obtain⟨h1,h2,h3⟩:=h
     refine⟨?_,fun hall=>hK _ _ _ _ _ _ (h2 fun q hq hlt=>?_) (.tp _ _ rfl (VRs.cons (.bo _) .nil).at_) hR,fun p hp hns=>?_⟩
     ·rcases h1 with h1|h1|⟨q,hq,hlt⟩
      ·exact .inl h1
      ·refine .inr (.inl (List.eq_nil_of_length_eq_zero (by rw[hl,h1];rfl)))
      ·obtain⟨p,hp,e1⟩:=hforth q hq;exact .inr (.inr ⟨p,hp,by rw[e1];exact hlt⟩)
     ·obtain⟨p,hp,e1⟩:=hforth q hq
      have:=hall p hp (by rw[e1];exact hlt)
      rw[e1] at this;exact this
     ·obtain⟨q,hq,e1,e2,e3⟩:=hback p hp
      have:=h3 q hq (by rw[← e1];exact hns)
      rw[← e1] at this;exact hK _ _ _ _ _ _ this (.tp _ _ rfl (VRs.cons (.bo _) (.cons e2 (.cons e3 .nil))).at_) (hR.set hm (.iter (some mid) (some mid') since _ clock hit))
 case clr z x =>
  simp only[ckI,Bool.and_eq_true] at hk;simp only[UW] at h;simp only[W];have hx:=Qn hR.e (x:=x) hk.2;generalize x.ev e=xv at h hx;generalize x.ev e'=xw at hx;have hu:∀ m:Nm,VR m (.tp []) (.tp []):=fun m=>.tp _ _ rfl VRs.nil.at_;cases hx<;>simp only at h ⊢<;>(first|exact h.elim|skip)
  ·exact hK _ _ _ _ _ _ h (hu _) hR
  ·rename_i s id sz' off len hm
   refine⟨h.1,?_⟩
   have h:=h.2;cases ho:o s with
   | none=>rw[ho] at h;exact h.elim
   | some ob =>
    obtain⟨id2,w,g1,g2,g3⟩:=hR.o.ob s ob ho;rw[hm] at g1;cases g1;rw[ho] at h;cases g3 with
    | map=>exact h.elim
    | iter=>exact h.elim
    | row q es fs hrr =>
     simp only at h;rw[g2];simp only
     refine⟨by rw[hrr.len];exact h.1,?_⟩
     exact hK _ _ _ _ _ _ h.2 (hu _) (hR.set hm (.row _ _ _ (((hrr.take off).append (RRs.rep (Q9 _ z hk.1) len)).append (hrr.drop _))))
 case cpy sz x y =>
  simp only[ckI,Bool.and_eq_true] at hk;simp only[UW] at h;simp only[W];cases hsrc:src o (y.ev e) with
  | none=>rw[hsrc] at h;exact h.elim
  | some ys =>
   rw[hsrc] at h;obtain⟨zs,h1,h2⟩:=DM hR.o (Qn hR.e hk.2) hsrc;rw[h1];simp only at h ⊢
   refine⟨fun c hc=>?_,?_⟩
   ·obtain⟨j,hj,rfl⟩:=List.mem_iff_getElem.1 hc;have hj2:j < ys.length:=by rw[← h2.len];exact hj
    have:=h2.at_ j _ _ (List.getElem?_eq_getElem hj2) (List.getElem?_eq_getElem hj)
    rw[this.len];exact h.1 _ (List.getElem_mem _)
   ·have h:=h.2;have hx:=Qn hR.e (x:=x) hk.1;generalize x.ev e=xv at h hx;generalize x.ev e'=xw at hx;rw[h2.len];cases hx<;>simp only at h ⊢<;>(first|exact h.elim|skip)
    ·exact hK _ _ _ _ _ _ h (.i _ _) hR
    ·rename_i s id sz' off len hm
     refine⟨h.1,?_⟩
     have h:=h.2;cases ho:o s with
     | none=>rw[ho] at h;exact h.elim
     | some ob =>
      obtain⟨id2,w,g1,g2,g3⟩:=hR.o.ob s ob ho;rw[hm] at g1;cases g1;rw[ho] at h;cases g3 with
      | map=>exact h.elim
      | iter=>exact h.elim
      | row q es fs hrr =>
       simp only at h;rw[g2];simp only
       refine⟨by rw[hrr.len];exact h.1,?_⟩
       exact hK _ _ _ _ _ _ h.2 (.i _ _) (hR.set hm (.row _ _ _ (((hrr.take off).append (h2.take len)).append (hrr.drop _))))
    ·rename_i s id i j len hm
     refine⟨h.1,?_⟩
     have h:=h.2;cases ho:o s with
     | none=>rw[ho] at h;exact h.elim
     | some ob =>
      obtain⟨id2,w,g1,g2,g3⟩:=hR.o.ob s ob ho;rw[hm] at g1;cases g1;rw[ho] at h;cases g3 with
      | map=>exact h.elim
      | iter=>exact h.elim
      | row q es fs hrr =>
       simp only at h;rw[g2];simp only;cases hc:es[i]? with
       | none=>rw[hc] at h;exact h.elim
       | some cs =>
        rw[hc] at h;simp only at h;obtain⟨ds,hd,hcd⟩:=hrr.get hc;rw[hd];simp only
        refine⟨by rw[hcd.len];exact h.1,?_⟩
        exact hK _ _ _ _ _ _ h.2 (.i _ _) (hR.set hm (.row _ _ _ (hrr.set (Xs j (Qh8 (h2.take len)) hcd) i)))
 case isz neg x =>
  simp only[UW] at h;simp only[W];have hx:=Qn hR.e (x:=x) hk;generalize x.ev e=xv at h hx;generalize x.ev e'=xw at hx;have hs:∀ r,szV xv=some r→szV xw=some r:=fun r hr=>by cases hx<;>first|exact hr|(cases hr)
  cases hz:szV xv with
  | none=>rw[hz] at h;exact h.elim
  | some r =>
   rw[hz] at h;rw[hs r hz];cases r with
   | true=>exact hK _ _ _ _ _ _ h (.bo _) hR
   | false=>exact fun p=>hK _ _ _ _ _ _ (h p) (.bo _) hR
 case apz sz byt z x n =>
  simp only[ckI,Bool.and_eq_true] at hk;simp only[UW] at h;simp only[W];cases hn:natV (n.ev e) with
  | none=>rw[hn] at h;exact h.elim
  | some k =>
   rw[hn] at h;rw[J9 (Qn hR.e hk.2) hn];simp only at h ⊢;have hx:=Qn hR.e (x:=x) hk.1.2;generalize x.ev e=xv at h hx;generalize x.ev e'=xw at hx;cases hx<;>simp only at h ⊢<;>(first|exact h.elim|skip)
   refine⟨h.1,fun h0=>hK _ _ _ _ _ _ (h.2.1 h0) .nil hR,fun h0 id hid=>?_⟩
   obtain⟨s,hsp,hh⟩:=h.2.2 h0;exact hK _ _ _ _ _ _ hh (.rw s id sz 0 k (by simp [upd])) (hR.new hsp hid (.row _ _ _ (RRs.rep (Q9 _ z hk.1.1) k)))
 case mlen x =>
  simp only[UW] at h;split at h
  ·obtain⟨y,h1,h2⟩:=Qab hR.e hR.o hk rfl ‹_›;simp only[W,h1];exact hK _ _ _ _ _ _ h h2 hR
  ·exact h.elim
 case lkp kg ks z okk mm k =>
  simp only[UW] at h;split at h
  ·obtain⟨y,h1,h2⟩:=Qab hR.e hR.o hk rfl ‹_›;simp only[W,h1];exact hK _ _ _ _ _ _ h h2 hR
  ·exact h.elim
 case ent x =>
  simp only[UW] at h;split at h
  ·obtain⟨y,h1,h2⟩:=Qab hR.e hR.o hk rfl ‹_›;simp only[W,h1];exact hK _ _ _ _ _ _ h h2 hR
  ·exact h.elim
end Go.Proofs.YtklbhcjmaeedhaaGreatDoor

namespace Go.Proofs.YtklbhcjmaeedhaaGreatDoor
set_option linter.all false
variable {K:E→O→Prop} {l:List Stp} {a b:C} {q ag p neg gh:Bool} {f f':Nat→Nat} {j d sz n s g t k h nm byt len:Nat} {i:I} {x r u w:V} {cs z vs ws ds xs pre post:List V} {y:Od} {es fs L L' es' ys:List (List V)} {as:List Od} {α:Type} {cl:Qg} {e e' e1:E} {o o' o1:O} {fn:Fn} {ks:List Lf} {D N St N' bs:List Nat} {K':V→O→Prop} {res:V→V} {A A' base base':List (Nat × Ob)} {ps:List (Nat × Od)} {m m1 m0:Nm}
def rdI:I→Bool
 | .ld ..=>true
 | .isn ..=>true
 | j=>rdX j
def Qg2:V→Bool
 | .rw ..=>true
 | .ra ..=>true
 | .pt ..=>true
 | .mp _=>true
 | _=>false
def stbU (d:Option Nat) (e:E) (o:O) (e1:E) (o1:O):List I→Prop
 | []=>True
 | j::l=>((∃ v,rv e o j=some v∧rv e1 o1 j=some v∧(ok v=true∨(Qg2 v=true∧∃ t,d≠some t∧e t=v∧e1 t=v)))∨(∃ sz ag t,j=.ld sz ag (.t t)∧e t=.tp []∧e1 t=.tp []))∧stbU d e o e1 o1 l
def WSU (cl:Qg) (s:Stp) (e:E) (o:O) (K:E→O→Prop):Prop :=
 match s.g with
 | none=>UW cl (s.d.getD 0) e o (fun v e1 o1=>stbU s.d e o (put e1 s.d v) o1 s.st∧K (put e1 s.d v) o1) s.i
 | some (t,p)=>match gdV p (e t) with
  | .bo q=>if q=p then UW cl (s.d.getD 0) e o (fun v e1 o1=>stbU s.d e o (put e1 s.d v) o1 s.st∧K (put e1 s.d v) o1) s.i else K (put e s.d (.tp [])) o
  | _=>False
def wpRU (cl:Qg):List Stp→(E→O→Prop)→E→O→Prop
 | [],K,e,o=>K e o
 | s::l,K,e,o=>WSU cl s e o (wpRU cl l K)
def YH (id:Nat) (es:List (List V)):Ob→Option Ob
 | .row sz rs=>some (.row sz (rs.map (ZB id es)))
 | .map ents clock=>some (.map (ents.map fun x=>(x.1,still id es x.2.1,still id es x.2.2)) clock)
 | .iter mp since seen stepped=>if mp==some id then none else some (.iter mp since seen stepped)
def ZK (id:Nat) (es:List (List V)) (o:O):O:=fun i=>if i==id then none else (o i).bind (YH id es)
inductive GstU (gh:Bool) (K:E→O→Prop):E→O→Prop where
 | here {e:E} {o:O} (h:K e o):GstU gh K e o
 | still {e:E} {o:O} (hg:gh=true) (s sz:Nat) (es:List (List V)) (ho:o s=some (.row sz es)) (hc:okLL es=true) (h:GstU gh K (Wq s es e) (ZK s es o)):GstU gh K e o
 | ren {e:E} {o:O} (s t:Nat) (ht:t < 1000000) (hn:(s==t)=false) (h:GstU gh K (renE s t e) (renO s t o)):GstU gh K e o
def wpU (gh:Bool) (cl:Qg):C→(X→E→O→Prop)→E→O→Prop
 | .sk,K,e,o=>K .nx e o
 | .rg l,K,e,o=>GstU gh (wpRU cl l (K .nx)) e o
 | .sq a b,K,e,o=>wpU gh cl a (seqX (wpU gh cl b K) K) e o
 | .cd c a b,K,e,o=>match c.ev e with
  | .bo true=>wpU gh cl a K e o
  | .bo false=>wpU gh cl b K e o
  | _=>False
 | .bk id a,K,e,o=>wpU gh cl a (blkX id K) e o
 | .lp a,K,e,o=>∀ J:E→O→Prop,(∀ e' o',wpU gh cl a (seqX J K) e' o'→J e' o')→J e o
 | .ex id,K,e,o=>K (.ex id) e o
 | .rt,K,e,o=>K .rt e o
 | .bad,_,_,_=>False
def ckS (s:Stp):Bool:=ckI s.i&&(match s.d with|some d=>decide (d < 1000000)|none=>true)&&s.st.all fun j=>ckI j&&rdI j
def ckC:C→Bool
 | .sk=>true
 | .rg l=>l.all ckS
 | .sq a b=>ckC a&&ckC b
 | .cd c a b=>ckO c&&ckC a&&ckC b
 | .bk _ a=>ckC a
 | .lp a=>ckC a
 | .ex _=>true
 | .rt=>true
 | .bad=>true
section
variable {cl:Qg} {b:O} {m0:Nm}
def Qjb (hR:Rl b m0 m e o e' o') {j:I} (hk:ckI j=true) (hj:rdI j=true) {v:V} (hv:rv e o j=some v):∃ x,rv e' o' j=some x∧VR m v x:=by
 cases j<;>(first|(cases hj;done)|skip)
 case isn mp neg x =>
  obtain⟨h1,h2⟩:=QcI hR.o (Qn hR.e hk) hv
  exact⟨v,h1,h2⟩
 case ld sz ag x =>
  simp only[rv] at hv ⊢;cases hc:Qz o (x.ev e) with
  | none=>rw[hc] at hv;cases hv
  | some p =>
   obtain⟨cs,j⟩:=p;rw[hc] at hv;obtain⟨ds,h1,h2⟩:=Je hR.o (Qn hR.e hk) hc;rw[h1];exact Hp h2 hv
 all_goals exact Qab hR.e hR.o hk rfl hv
def QjJ {v y z:V} (hr:Qg2 v=true) (h1:VR m v x) (h2:VR m v z) (h3:VR m1 v y) (h4:VR m1 v z):x=y:=by
 cases v<;>(first|(cases hr;done)|skip)
 case rw=>cases h1;cases h2;cases h3;cases h4;simp_all
 case ra=>cases h1;cases h2;cases h3;cases h4;simp_all
 case pt=>cases h1;cases h2;cases h3;cases h4;simp_all
 case mp=>cases h1;cases h2;cases h3;cases h4;simp_all
def Qlm {d:Option Nat} {e1':E} {o1':O} (hR:Rl b m0 m e o e' o') (hR1:Rl b m0 m1 e1 o1 e1' o1') (he:∀ t,d≠some t→e1' t=e' t):∀ (l:List I),(l.all fun j=>ckI j&&rdI j)=true→stbU d e o e1 o1 l→stb e' o' e1' o1' l:=by
 intro l;induction l with
 | nil=>intro _ _;trivial
 | cons j l ih =>
  intro hk h;simp only[List.all_cons,Bool.and_eq_true] at hk;obtain⟨⟨v,h1,h2,h3⟩|⟨sz,ag,t,rfl,h1,h2⟩,h4⟩:=h
  case inr =>
   refine⟨?_,ih (by simpa using hk.2) h4⟩
   have a1:=hR.e t;have a2:=hR1.e t;rw[h1] at a1;rw[h2] at a2;have tp0:∀ {m:Nm} {x:V},VR m (.tp []) x→x=.tp []:=fun {m x} h=>by
    cases h with
    | tp _ ds hl _ =>
     have hd:ds=[]:=List.eq_nil_of_length_eq_zero (by simpa using hl);rw[hd]
   simp only[rv,Od.ev,tp0 a1,tp0 a2,Qz]
  obtain⟨x,g1,g2⟩:=Qjb hR hk.1.1 hk.1.2 h1;obtain⟨y,g3,g4⟩:=Qjb hR1 hk.1.1 hk.1.2 h2
  refine⟨?_,ih (by simpa using hk.2) h4⟩
  rw[g1,g3];rcases h3 with h3|⟨h3,t,ht,h5,h6⟩
  ·rw[Qdc g2 h3,Qdc g4 h3]
  ·have a1:=hR.e t;have a2:=hR1.e t;rw[h5] at a1;rw[h6,he t ht] at a2;rw[QjJ h3 g2 a1 g4 a2]
def QkU (hcl:Le cl cl) {s:Stp} (hk:ckS s=true) {K':E→O→Prop} (h:WSU cl s e o K) (hR:Rl b m0 m e o e' o')
  (hK:∀ m e o e' o',K e o→Rl b m0 m e o e' o'→K' e' o'):WS cl s e' o' K':=by
 simp only[ckS,Bool.and_eq_true] at hk;obtain⟨⟨k1,k2⟩,k3⟩:=hk;have hnm:s.d.getD 0 < PN:=by
  cases hd:s.d with
  | none=>exact (by decide:(0:Nat) < 1000000)
  | some d=>rw[hd] at k2;simpa [PN] using k2
 have main:UW cl (s.d.getD 0) e o (fun v e1 o1=>stbU s.d e o (put e1 s.d v) o1 s.st∧K (put e1 s.d v) o1) s.i→W cl e' o' (fun v o1=>stb e' o' (put e' s.d v) o1 s.st∧K' (put e' s.d v) o1) s.i:=by
  intro h;refine QmL hcl k1 hnm h hR fun v e1 o1 m1 v' o1' hk hv hR1=>?_;have hR2:Rl b m0 m1 (put e1 s.d v) o1 (put e' s.d v') o1':=⟨QfG hR1.e hv s.d,hR1.o,hR1.f,hR1.p⟩
  exact⟨Qlm hR hR2 (fun t ht=>Q3 ht) s.st k3 hk.1,hK _ _ _ _ _ hk.2 hR2⟩
 unfold WSU at h;unfold WS;cases hg:s.g with
 | none=>rw[hg] at h;exact main h
 | some x =>
  obtain⟨t,p⟩:=x;rw[hg] at h;simp only at h ⊢;have ht:=hR.e t;have hgd:∀ q,gdV p (e t)=.bo q→gdV p (e' t)=.bo q:=by
   intro q hq;generalize e t=v at hq ht;generalize e' t=x at ht;cases ht<;>first|exact hq|(simp [gdV] at hq)
  cases hq:gdV p (e t)<;>rw[hq] at h<;>(first|exact h.elim|skip);rename_i q;rw[hgd q hq];simp only at h ⊢;split
  ·rw[if_pos ‹_›] at h;exact main h
  ·rw[if_neg ‹_›] at h;exact hK _ _ _ _ _ h ⟨QfG hR.e (.tp [] [] rfl SM) s.d,hR.o,hR.f,hR.p⟩
def Qiy (hcl:Le cl cl):∀ (l:List Stp),l.all ckS=true→∀ {m:Nm} {e e':E} {o o':O} {K K':E→O→Prop},wpRU cl l K e o→Rl b m0 m e o e' o' →
  (∀ m e o e' o',K e o→Rl b m0 m e o e' o'→K' e' o')→wpR cl l K' e' o':=by
 intro l;induction l with
 | nil=>intro _ m e e' o o' K K' h hR hK;exact hK _ _ _ _ _ h hR
 | cons s l ih =>
  intro hk m e e' o o' K K' h hR hK;simp only[List.all_cons,Bool.and_eq_true] at hk;exact QkU hcl hk.1 h hR fun m e o e' o' h hR=>ih hk.2 h hR hK
def VR.stl {id:Nat} (hs:m s=some id) (hinj:∀ t,m t=some id→t=s) (hc:okLL es=true) {v:V} (h:VR m v x):VR (upd m s none) (still s es v) (still id es x):=by
 have hup:∀ t i,t≠s→m t=some i→upd m s none t=some i:=fun t i ht hm=>by simp [upd,ht,hm]
 have lst:∀ {cs ds:List V},ds.length=cs.length→(∀ (j:Nat) v x,cs[j]?=some v→ds[j]?=some x→VR (upd m s none) (still s es v) (still id es x))→VRs (upd m s none) (ZB s es cs) (ZB id es ds):=by
  intro cs ds hl hh;rw[Q7,Q7]
  refine⟨by simpa using hl,fun j v x hv hx=>?_⟩
  rw[List.getElem?_map] at hv hx;cases h1:cs[j]? with
  | none=>rw[h1] at hv;cases hv
  | some u =>
   cases h2:ds[j]? with
   | none=>rw[h2] at hx;cases hx
   | some y =>
    rw[h1] at hv;rw[h2] at hx;cases hv;cases hx;exact hh j u y h1 h2
 have hne:∀ {t i:Nat},m t=some i→t≠s→i≠id:=fun ht hts hi=>hts (hinj _ (by rw[← hi];exact ht));induction h with
 | jk x=>exact .jk _
 | ag cs ds hl _ ih=>exact .ag _ _ (lst hl ih).len (lst hl ih).at_
 | tp cs ds hl _ ih=>exact .tp _ _ (lst hl ih).len (lst hl ih).at_
 | fn g cs ds hl _ ih=>exact .fn g _ _ (lst hl ih).len (lst hl ih).at_
 | rw t i sz off len ht =>
  rw[still,still];by_cases hts:t=s
  ·subst hts;rw[hs] at ht;cases ht;simp only[beq_self_eq_true,if_true];split
   ·refine .sl _ ?_;rw[QW];exact fun c hcm=>(QW es).1 (WI hc) c (List.mem_of_mem_drop (List.mem_of_mem_take hcm))
   ·exact .jk _
  ·rw[if_neg (by simpa using hts),if_neg (by simpa using hne ht hts)];exact .rw t i sz off len (hup t i hts ht)
 | ra t i k j len ht =>
  rw[still,still];by_cases hts:t=s
  ·rw[if_pos (by simpa using hts)];exact .jk _
  ·rw[if_neg (by simpa using hts),if_neg (by simpa using hne ht hts)];exact .ra t i k j len (hup t i hts ht)
 | pt t i k j ht =>
  rw[still,still];by_cases hts:t=s
  ·subst hts;rw[hs] at ht;cases ht;simp only[beq_self_eq_true,if_true];cases hk:es[k]? with
   | none=>exact .jk _
   | some cs=>exact .ip cs j (YV cs (List.all_eq_true.1 hc cs (List.mem_of_getElem? hk)))
  ·rw[if_neg (by simpa using hts),if_neg (by simpa using hne ht hts)];exact .pt t i k j (hup t i hts ht)
 | mp t i ht =>
  rw[still,still];by_cases hts:t=s
  ·rw[if_pos (by simpa using hts)];exact .jk _
  ·rw[if_neg (by simpa using hts),if_neg (by simpa using hne ht hts)];exact .mp t i (hup t i hts ht)
 | it t i ht =>
  rw[still,still];by_cases hts:t=s
  ·rw[if_pos (by simpa using hts)];exact .jk _
  ·rw[if_neg (by simpa using hts),if_neg (by simpa using hne ht hts)];exact .it t i (hup t i hts ht)
 | bo p=>exact .bo p
 | i k n=>exact .i k n
 | s y=>exact .s y
 | nil=>exact .nil
 | sl es h=>exact .sl es h
 | ip cs j h=>exact .ip cs j h
 | np=>exact .np
 | nf=>exact .nf
 | nm=>exact .nm
theorem Rl.stl (hb:b=emp) {m:Nm} {e e':E} {o o':O} (hR:Rl b m0 m e o e' o') {s sz:Nat} {es:List (List V)} (ho:o s=some (.row sz es)) (hc:okLL es=true) :
  ∃ id,o' id=some (.row sz es)∧Rl b m0 (upd m s none) (Wq s es e) (ZK s es o) (Wq id es e') (Wo id es o'):=by
 obtain⟨id,y,h1,h2,h3⟩:=hR.o.ob s _ ho;cases h3 with
 | row _ _ fs hrr =>
  have:=KP hrr hc
  subst this;have hinj:∀ t,m t=some id→t=s:=fun t ht=>hR.o.inj t s id ht h1;have hv:∀ {v x:V},VR m v x→VR (upd m s none) (still s fs v) (still id fs x):=fun h=>h.stl h1 hinj hc;have hst:∀ t,t≠s→upd m s none t=m t:=fun t ht=>by simp [upd,ht]
  have hne:∀ {t i:Nat},m t=some i→t≠s→i≠id:=fun ht hts hi=>hts (hinj _ (by rw[← hi];exact ht));have hx:∀ v x,VR m v x→VR (upd m s none) (still s fs v) (still id fs x):=fun _ _ h=>hv h
  refine⟨id,h2,fun t=>hv (hR.e t),⟨fun a c i e1 e2=>?_,fun a i e1=>?_,fun a z hz=>?_⟩,fun i z hz=>?_,hR.p.no s⟩
  ·simp only[upd] at e1 e2;split at e1
   ·cases e1
   ·split at e2
    ·cases e2
    ·exact hR.o.inj a c i e1 e2
  ·have ha:a≠s:=fun hh=>by simp [upd,hh] at e1
   rw[hst a ha] at e1;obtain⟨x,hx⟩:=hR.o.live a i e1
   exact⟨_,by simp only[Wo];rw[if_neg (by simpa using hne e1 ha),hx];rfl⟩
  ·simp only[ZK] at hz;split at hz
   ·cases hz
   ·rename_i ha;have ha:a≠s:=by simpa using ha
    obtain⟨x0,hx0,hx1⟩:=Option.bind_eq_some_iff.1 hz;obtain⟨i,y0,g1,g2,g3⟩:=hR.o.ob a x0 hx0
    refine⟨i,_,by rw[hst a ha];exact g1,by simp only[Wo];rw[if_neg (by simpa using hne g1 ha),g2];rfl,?_⟩
    cases g3 with
    | row q es2 fs2 h =>
     simp only[YH,Option.some.injEq] at hx1;subst hx1;refine .row _ _ _ ⟨by simpa using h.len,fun j c d hc2 hd=>?_⟩;rw[List.getElem?_map] at hc2 hd;cases k1:es2[j]? with
     | none=>rw[k1] at hc2;cases hc2
     | some c0 =>
      obtain⟨d0,k2,k3⟩:=h.get k1;rw[k1] at hc2;rw[k2] at hd;cases hc2;cases hd;rw[Q7,Q7]
      refine⟨by simpa using k3.len,fun q v x hv2 hx2=>?_⟩
      rw[List.getElem?_map] at hv2 hx2;cases k4:c0[q]? with
      | none=>rw[k4] at hv2;cases hv2
      | some u =>
       obtain⟨w,k5,k6⟩:=k3.get k4;rw[k4] at hv2;rw[k5] at hx2;cases hv2;cases hx2;exact hv k6
    | map es2 fs2 clock hl h =>
     simp only[YH,Option.some.injEq] at hx1;subst hx1;refine .map _ _ clock (by simpa using hl) fun j p q hp hq=>?_;rw[List.getElem?_map] at hp hq;cases k1:es2[j]? with
     | none=>rw[k1] at hp;cases hp
     | some c0 =>
      cases k2:fs2[j]? with
      | none=>rw[k2] at hq;cases hq
      | some d0 =>
       rw[k1] at hp;rw[k2] at hq;cases hp;cases hq;obtain⟨g4,g5,g6⟩:=h j c0 d0 k1 k2
       exact⟨g4,hv g5,hv g6⟩
    | iter p q since seen stepped h =>
     simp only[YH] at hx1;split at hx1
     ·cases hx1
     ·rename_i hd;cases hx1;refine .iter p q since seen stepped ?_;cases p with
      | none=>cases q<;>exact h
      | some t =>
       cases q with
       | none=>exact h
       | some w =>
        have:t≠s:=fun hh=>hd (by simp [hh])
        show upd m s none t=some w;rw[hst t this];exact h
  ·rw[hb] at hz;cases hz
def Qjl (hb:gh=true→b=emp) (hcl:Le cl cl):∀ (c:C),ckC c=true→∀ {K K':X→E→O→Prop},(∀ x m e o e' o',K x e o→Rl b m0 m e o e' o'→K' x e' o')→∀ {m:Nm} {e e':E} {o o':O},wpU gh cl c K e o→Rl b m0 m e o e' o'→wpC cl c K' e' o':=by
 intro c;induction c with
 | sk=>intro _ K K' hK m e e' o o' h hR;exact hK _ _ _ _ _ _ h hR
 | rg l =>
  intro hk K K' hK m e e' o o' h0 hR;rw[ckC] at hk;have h1:GstU gh (wpRU cl l (K .nx)) e o:=h0;clear h0;show Gst (wpR cl l (K' .nx)) e' o';induction h1 generalizing m e' o' with
  | here h=>exact .here (Qiy hcl l hk h hR fun m e o e' o' h hR=>hK _ _ _ _ _ _ h hR)
  | still hg s sz es ho hc _ ih =>
   obtain⟨id,h1,h2⟩:=hR.stl (hb hg) ho hc;exact .still id sz es h1 (List.all_eq_true.2 fun c hcm=>JF c (List.all_eq_true.1 hc c hcm)) (ih h2)
  | ren s t ht hn _ ih =>
   obtain⟨m1,h1⟩:=hR.renm ht hn;exact ih h1
 | sq a b iha ihb =>
  intro hk K K' hK m e e' o o' h hR;simp only[ckC,Bool.and_eq_true] at hk;refine iha hk.1 (K':=seqX (wpC cl b K') K') ?_ h hR;intro x m e o e' o' hx hR;cases x with
  | nx=>exact ihb hk.2 hK hx hR
  | ex id=>exact hK _ _ _ _ _ _ hx hR
  | rt=>exact hK _ _ _ _ _ _ hx hR
 | cd c a b iha ihb =>
  intro hk K K' hK m e e' o o' h hR;simp only[ckC,Bool.and_eq_true] at hk;simp only[wpU] at h;unfold wpC;have hc:=Qn hR.e hk.1.1;generalize c.ev e=v at h hc;generalize c.ev e'=x at hc;cases hc<;>(first|exact h.elim|skip);rename_i p;cases p
  ·exact ihb hk.2 hK h hR
  ·exact iha hk.1.2 hK h hR
 | bk id a iha =>
  intro hk K K' hK m e e' o o' h hR;refine iha hk (K':=blkX id K') ?_ h hR;intro x m e o e' o' hx hR;cases x with
  | nx=>exact hK _ _ _ _ _ _ hx hR
  | ex j =>
   simp only[blkX] at hx ⊢;split
   ·rw[if_pos ‹_›] at hx;exact hK _ _ _ _ _ _ hx hR
   ·rw[if_neg ‹_›] at hx;exact hK _ _ _ _ _ _ hx hR
  | rt=>exact hK _ _ _ _ _ _ hx hR
 | lp a iha =>
  intro hk K K' hK m e e' o o' h hR J' hJ';have key:=h (fun e o=>∀ m e' o',Rl b m0 m e o e' o'→J' e' o') ?_
  ·exact key m e' o' hR
  ·intro e o hw m e' o' hR;refine hJ' e' o' (iha hk (K':=seqX J' K') ?_ hw hR);intro x m e o e' o' hx hR;cases x with
   | nx=>exact hx m e' o' hR
   | ex id=>exact hK _ _ _ _ _ _ hx hR
   | rt=>exact hK _ _ _ _ _ _ hx hR
 | ex id=>intro _ K K' hK m e e' o o' h hR;exact hK _ _ _ _ _ _ h hR
 | rt=>intro _ K K' hK m e e' o o' h hR;exact hK _ _ _ _ _ _ h hR
 | bad=>intro _ K K' hK m e e' o o' h hR;exact h.elim
end
section
variable {cl:Qg} {gh:Bool}
def Qll (hcl:Le cl cl) {K K':UK} (hk:∀ v e o,K v e o→K' v e o) {j:I} (hw:UW cl nm e o K j):UW cl nm e o K' j:=by
 cases j<;>(first|exact hw.elim|skip)
 case q=>simp only[UW] at hw ⊢;split at hw;exact hk _ _ _ hw;exact hw.elim
 case isn=>simp only[UW] at hw ⊢;split at hw;exact hk _ _ _ hw;exact hw.elim
 case ld=>simp only[UW] at hw ⊢;split at hw;exact hk _ _ _ hw;exact hw.elim
 case pc=>obtain⟨r,h1,h2⟩:=hw;exact⟨r,h1,hk _ _ _ h2⟩
 case pv=>obtain⟨r,h1,h2⟩:=hw;exact⟨r,h1,hk _ _ _ h2⟩
 case alc=>exact hk _ _ _ hw
 case box=>exact⟨hw.1,hk _ _ _ hw.2⟩
 case bsl =>
  simp only[UW] at hw ⊢;split
  ·rw[if_pos ‹_›] at hw;exact hk _ _ _ hw
  ·rw[if_neg ‹_›] at hw;split at hw
   ·exact hk _ _ _ hw
   ·exact hw
 case mks =>
  simp only[UW] at hw ⊢;split at hw
  ·exact⟨hw.1,hw.2.1,hk _ _ _ hw.2.2⟩
  ·exact hw
 case sto =>
  simp only[UW] at hw ⊢;split at hw<;>try exact hw.elim
  split at hw<;>try exact hw.elim
  split at hw<;>try exact hw.elim
  exact⟨hw.1,hw.2.1,hk _ _ _ hw.2.2⟩
 case app =>
  simp only[UW] at hw ⊢;split at hw<;>try exact hw.elim
  obtain⟨h1,hw⟩:=hw
  refine⟨h1,?_⟩
  split at hw<;>try exact hw.elim
  ·exact⟨hw.1,fun h=>hk _ _ _ (hw.2.1 h),fun h=>(let ⟨s,h1,h2⟩:=hw.2.2 h;⟨s,h1,hk _ _ _ h2⟩)⟩
  ·obtain⟨h2,h3,hw⟩:=hw
   refine⟨h2,h3,?_⟩
   split at hw<;>try exact hw.elim
   refine⟨hw.1,hw.2.1,fun h=>hk _ _ _ (hw.2.2.1 h),fun h=>?_⟩
   have:=hw.2.2.2 h
   split
   ·rw[if_pos ‹_›] at this;exact hk _ _ _ this
   ·rw[if_neg ‹_›] at this;exact hk _ _ _ this
 case nc =>
  rcases hw with⟨s,q,es,es',r,h1,h2,h3,h4,h5,h6,h7⟩|⟨s,sz,L,L',pre,post,h1,h2,h3,h4,h5,h6,h7,h8,h9⟩|⟨s,sz,L,res,pre,post,h1,h2,h3,h4,h5,h6,h7,h8⟩|⟨vs,N,A,r,N',A',St,f,f',D,g1,g2,g3,g4,g5⟩|⟨ι,P,vs,N,A,r,N',A',St,f,f',D,g1,g2,g3,g4,g5,g6⟩
  ·exact .inl ⟨s,q,es,es',r,h1,h2,h3,h4,h5,h6,hk _ _ _ h7⟩
  ·exact .inr (.inl ⟨s,sz,L,L',pre,post,h1,h2,h3,h4,h5,h6,h7,h8,hk _ _ _ h9⟩)
  ·exact .inr (.inr (.inl ⟨s,sz,L,res,pre,post,h1,h2,h3,h4,h5,h6,h7,hk _ _ _ h8⟩))
  ·exact .inr (.inr (.inr (.inl ⟨vs,N,A,r,N',A',St,f,f',D,g1,g2,g3,g4,hk _ _ _ g5⟩)))
  ·exact .inr (.inr (.inr (.inr ⟨ι,P,vs,N,A,r,N',A',St,f,f',D,g1,g2,g3,g4,g5,fun i hi=>hk _ _ _ (g6 i hi)⟩)))
 case nv =>
  obtain⟨h0,cs,g0,ι,P,vs,N,A,r,N',A',St,f,f',D,g1,g2,g3,g4,g5,g6⟩:=hw
  exact⟨h0,cs,g0,ι,P,vs,N,A,r,N',A',St,f,f',D,g1,g2,g3,g4,g5,fun i hi=>hk _ _ _ (g6 i hi)⟩
 case mkm=>exact hk _ _ _ hw
 case men =>
  simp only[UW] at hw ⊢;split at hw<;>try exact hw.elim
  split at hw<;>try exact hw.elim
  split at hw<;>try exact hw.elim
  ·split at hw<;>try exact hw.elim
   exact hk _ _ _ hw
  ·exact hk _ _ _ hw
 case mup =>
  simp only[UW] at hw ⊢;split at hw<;>try exact hw.elim
  split at hw<;>try exact hw.elim
  split at hw<;>try exact hw.elim
  exact hk _ _ _ hw
 case est =>
  simp only[UW] at hw ⊢;split at hw<;>try exact hw.elim
  split at hw<;>try exact hw.elim
  exact⟨hw.1,hk _ _ _ hw.2⟩
 case del =>
  simp only[UW] at hw ⊢;split at hw<;>try exact hw.elim
  split at hw<;>try exact hw.elim
  split at hw<;>try exact hw.elim
  ·exact hk _ _ _ hw
  ·exact hk _ _ _ hw
 case rng =>
  simp only[UW] at hw ⊢;split at hw<;>try exact hw.elim
  split at hw<;>try exact hw.elim
  exact⟨hw.1,hk _ _ _ hw.2⟩
 case nxt =>
  simp only[UW] at hw ⊢;split at hw<;>try exact hw.elim
  split at hw<;>try exact hw.elim
  split at hw<;>try exact hw.elim
  exact⟨hw.1,fun hh=>hk _ _ _ (hw.2.1 hh),fun x h1 h2=>hk _ _ _ (hw.2.2 x h1 h2)⟩
 case clr =>
  simp only[UW] at hw ⊢;split at hw<;>try exact hw.elim
  ·exact hk _ _ _ hw
  ·refine⟨hw.1,?_⟩
   have hw:=hw.2;split at hw<;>try exact hw.elim
   exact⟨hw.1,hk _ _ _ hw.2⟩
 case cpy =>
  simp only[UW] at hw ⊢;split at hw<;>try exact hw.elim
  obtain⟨h1,hw⟩:=hw
  refine⟨h1,?_⟩
  split at hw<;>try exact hw.elim
  ·exact hk _ _ _ hw
  ·refine⟨hw.1,?_⟩
   have hw:=hw.2;split at hw<;>try exact hw.elim
   exact⟨hw.1,hk _ _ _ hw.2⟩
  ·refine⟨hw.1,?_⟩
   have hw:=hw.2;split at hw<;>try exact hw.elim
   split at hw<;>try exact hw.elim
   exact⟨hw.1,hk _ _ _ hw.2⟩
 case isz =>
  simp only[UW] at hw ⊢;split at hw<;>try exact hw.elim
  ·exact hk _ _ _ hw
  ·exact fun p=>hk _ _ _ (hw p)
 case apz =>
  simp only[UW] at hw ⊢;split at hw<;>try exact hw.elim
  split at hw<;>try exact hw.elim
  exact⟨hw.1,fun h=>hk _ _ _ (hw.2.1 h),fun h=>(let ⟨s,h1,h2⟩:=hw.2.2 h;⟨s,h1,hk _ _ _ h2⟩)⟩
 case mlen=>simp only[UW] at hw ⊢;split at hw;exact hk _ _ _ hw;exact hw.elim
 case ent=>simp only[UW] at hw ⊢;split at hw;exact hk _ _ _ hw;exact hw.elim
 case lkp=>simp only[UW] at hw ⊢;split at hw;exact hk _ _ _ hw;exact hw.elim
def Qlk (hcl:Le cl cl) {s:Stp} {K':E→O→Prop} (hk:∀ e o,K e o→K' e o) (hw:WSU cl s e o K):WSU cl s e o K':=by
 unfold WSU at hw ⊢;split at hw
 ·exact Qll hcl (fun v e o hh=>⟨hh.1,hk _ _ hh.2⟩) hw
 ·split at hw
  ·split at hw
   ·rw[if_pos ‹_›];exact Qll hcl (fun v e o hh=>⟨hh.1,hk _ _ hh.2⟩) hw
   ·rw[if_neg ‹_›];exact hk _ _ hw
  ·exact hw.elim
def Qhl (hcl:Le cl cl):∀ {e:E} {o:O} {K K':E→O→Prop},(∀ e o,K e o→K' e o)→wpRU cl l K e o→wpRU cl l K' e o:=by
 induction l with
 | nil=>exact fun hk hw=>hk _ _ hw
 | cons s l ih=>exact fun hk hw=>Qlk hcl (fun e o hh=>ih hk hh) hw
def Ke (hcl:Le cl cl) {c:C}:∀ {e:E} {o:O} {K K':X→E→O→Prop},(∀ x e o,K x e o→K' x e o)→wpU gh cl c K e o→wpU gh cl c K' e o:=by
 induction c with
 | sk=>exact fun hk hw=>hk _ _ _ hw
 | rg l =>
  intro e o K K' hk hw;have h:GstU gh (wpRU cl l (K .nx)) e o:=hw;show GstU gh (wpRU cl l (K' .nx)) e o;clear hw;induction h with
  | here hh=>exact .here (Qhl hcl (hk _) hh)
  | still hg s sz es ho hc _ ih=>exact .still hg s sz es ho hc ih
  | ren s t ht hn _ ih=>exact .ren s t ht hn ih
 | sq a b iha ihb =>
  intro e o K K' hk hw;refine iha ?_ hw;intro x e o hx;cases x with
  | nx=>exact ihb hk hx
  | ex id=>exact hk _ _ _ hx
  | rt=>exact hk _ _ _ hx
 | cd c a b iha ihb =>
  intro e o K K' hk hw;simp only[wpU] at hw ⊢;split at hw
  ·exact iha hk hw
  ·exact ihb hk hw
  ·exact hw.elim
 | bk id a iha =>
  intro e o K K' hk hw;refine iha ?_ hw;intro x e o hx;cases x with
  | nx=>exact hk _ _ _ hx
  | ex j =>
   simp only[blkX] at hx ⊢;split
   ·rw[if_pos ‹_›] at hx;exact hk _ _ _ hx
   ·rw[if_neg ‹_›] at hx;exact hk _ _ _ hx
  | rt=>exact hk _ _ _ hx
 | lp a iha =>
  intro e o K K' hk hw J hJ;refine hw J ?_;intro e' o' h';refine hJ e' o' (iha ?_ h');intro x e o hx;cases x with
  | nx=>exact hx
  | ex id=>exact hk _ _ _ hx
  | rt=>exact hk _ _ _ hx
 | ex id=>exact fun hk hw=>hk _ _ _ hw
 | rt=>exact fun hk hw=>hk _ _ _ hw
 | bad=>exact fun _ hw=>hw
variable {e:E} {o:O}
def U_lp {K:X→E→O→Prop} (J:Nat→E→O→Prop) (h0:J k e o) (hcl:Le cl cl)
  (h:∀ k e o,J k e o→wpU gh cl a (seqX (fun e' o'=>∃ k',k' < k∧J k' e' o') K) e o):wpU gh cl (.lp a) K e o:=by
 intro J' hJ';have key:∀ k e o,J k e o→J' e o:=by
  intro k;induction k using Nat.strongRecOn with
  | _ k ih =>
   intro e o hJ;refine hJ' e o (Ke hcl (fun x e o hx=>?_) (h k e o hJ));cases x with
   | nx=>obtain⟨k',h1,h2⟩:=hx;exact ih k' h1 e o h2
   | ex id=>exact hx
   | rt=>exact hx
 exact key k e o h0
def YR {K:X→E→O→Prop} (hcl:Le cl cl) (h:wpU gh cl a (seqX (wpU gh cl (.lp a) K) K) e o):wpU gh cl (.lp a) K e o:=by
 intro J hJ;refine hJ e o (Ke hcl (fun x e o hx=>?_) h);cases x with
 | nx=>exact hx J hJ
 | ex id=>exact hx
 | rt=>exact hx
def Hx {K:X→E→O→Prop} (h:K .nx e o):wpU gh cl .sk K e o:=h
def Y3 {K:X→E→O→Prop} (h:wpRU cl l (K .nx) e o):wpU gh cl (.rg l) K e o:=.here h
def Qac {K:X→E→O→Prop} (s:Nat) (ho:o s=some (.row sz es)) (hc:okLL es=true) (h:wpU true cl (.rg l) K (Wq s es e) (ZK s es o)):wpU true cl (.rg l) K e o:=.still rfl s sz es ho hc h
def Qj0 {K:X→E→O→Prop} (s t:Nat) (ht:t < 1000000) (hn:(s==t)=false) (h:wpU gh cl (.rg l) K (renE s t e) (renO s t o)):wpU gh cl (.rg l) K e o:=.ren s t ht hn h
def ZM {K:X→E→O→Prop} (h:wpU gh cl a (seqX (wpU gh cl b K) K) e o):wpU gh cl (.sq a b) K e o:=h
def K8 {id:Nat} {K:X→E→O→Prop} (h:wpU gh cl a (blkX id K) e o):wpU gh cl (.bk id a) K e o:=h
def Qbv {id:Nat} {K:X→E→O→Prop} (h:K (.ex id) e o):wpU gh cl (.ex id) K e o:=h
def WB {K:X→E→O→Prop} (h:K .rt e o):wpU gh cl .rt K e o:=h
def Qiu {c:Od} {K:X→E→O→Prop} (hc:c.ev e=.bo q) (h1:q=true→wpU gh cl a K e o) (h2:q=false→wpU gh cl b K e o):wpU gh cl (.cd c a b) K e o:=by
 simp only[wpU,hc];cases q
 ·exact h2 rfl
 ·exact h1 rfl
def Wp {c:Od} {K:X→E→O→Prop} (hc:c.ev e=.bo true) (h1:wpU gh cl a K e o):wpU gh cl (.cd c a b) K e o:=Qiu hc (fun _=>h1) (fun h=>by cases h)
def Ws {c:Od} {K:X→E→O→Prop} (hc:c.ev e=.bo false) (h1:wpU gh cl b K e o):wpU gh cl (.cd c a b) K e o:=Qiu hc (fun h=>by cases h) (fun _=>h1)
def Qv {K:X→E→O→Prop} (hc:e t=.bo q) (h1:q=true→wpU gh cl a K (upd e t (.bo true)) o) (h2:q=false→wpU gh cl b K (upd e t (.bo false)) o):wpU gh cl (.cd (.t t) a b) K e o:=by
 refine Qiu (q:=q) hc (fun hq=>?_) (fun hq=>?_)
 ·have:=h1 hq
  rw[Z9 (by rw[hc,hq])] at this;exact this
 ·have:=h2 hq
  rw[Z9 (by rw[hc,hq])] at this;exact this
def YK (h:K e o):wpRU cl [] K e o:=h
def U_W {d:Option Nat} (h:UW cl (d.getD 0) e o (fun v e1 o1=>wpRU cl l K (put e1 d v) o1) i):wpRU cl (⟨d,none,i,[]⟩::l) K e o:=by
 show WSU cl _ e o _;simpa [WSU,stbU] using h
def U_q {q:Q} {v:V} (hv:qv e q=some v) (h:wpRU cl l K (upd e d v) o):wpRU cl (⟨some d,none,.q q,[]⟩::l) K e o:=by
 refine U_W ?_;simp only[UW,hv];exact h
def U_ld {x:Od} {v:V} (hv:rv e o (.ld sz ag x)=some v) (h:wpRU cl l K (upd e d v) o):wpRU cl (⟨some d,none,.ld sz ag x,[]⟩::l) K e o:=by
 refine U_W ?_;simp only[UW,hv];exact h
def QeJ {m n:Bool} {x:Od} {v:V} (hv:isnV o m n (x.ev e)=some v) (h:wpRU cl l K (upd e d v) o):wpRU cl (⟨some d,none,.isn m n x,[]⟩::l) K e o:=by
 refine U_W ?_;simp only[UW,hv];exact h
def VI {x:Od} {cs':List V} (hc:(x.ev e).cells=cs) (hs:swpL d cs=cs') (hn:cs.length=n) (hne:(n==0)=false)
  (h:wpRU cl l K (upd (swpE d e) d (.pt d 0 0)) (upd (swpO d o) d (some (.row n [cs'])))):wpRU cl (⟨some d,none,.box x,[]⟩::l) K e o:=by
 refine U_W ?_;subst hn;subst hs;subst hc
 refine⟨fun h0=>(by rw[h0] at hne;cases hne),h⟩
def Hz (hn:z.length=n) (h:wpRU cl l K (upd (swpE d e) d (.pt d 0 0)) (upd (swpO d o) d (some (.row n [z])))):wpRU cl (⟨some d,none,.alc z,[]⟩::l) K e o:=by
 refine U_W ?_;subst hn;exact h
def Qcy (hn:(n==0)=false) (hf:Yd e sz ps (List.replicate n z)=some es) (hs:swpR d es=es')
  (h:wpRU cl l K (upd (swpE d e) d (.rw d sz 0 n)) (upd (swpO d o) d (some (.row sz es')))):wpRU cl (⟨some d,none,.bsl sz n z ps,[]⟩::l) K e o:=by
 refine U_W ?_;subst hs
 have:n≠0:=by simpa using hn
 simp only[UW,this,if_false,hf];exact h
def Df (h:wpRU cl l K (upd e d .nil) o):wpRU cl (⟨some d,none,.bsl sz 0 z ps,[]⟩::l) K e o:=by
 refine U_W ?_;simp only[UW,if_true];exact h
def Qfo {x:Od} {c:Nat} (hx:natV (x.ev e)=some n) (hy:natV (y.ev e)=some c) (hle:n≤c) (hs:Zl c byt)
  (h:wpRU cl l K (upd (swpE d e) d (.rw d sz 0 n)) (upd (swpO d o) d (some (.row sz (List.replicate n z))))):wpRU cl (⟨some d,none,.mks sz byt z x y,[]⟩::l) K e o:=by
 refine U_W ?_;simp only[UW,hx,hy]
 exact⟨hle,hs,h⟩
def Wd {x:Od} {id i q:Nat} (hx:x.ev e=.pt id i j) (ho:o id=some (.row q es)) (hi:es[i]?=some cs) (hv:(y.ev e).cells=vs) (hl:vs.length=sz) (hj:j+sz≤cs.length) (hn:es.set i (splice j vs cs)=es')
  (h:wpRU cl l K e (upd o id (some (.row q es')))):wpRU cl (⟨none,none,.sto sz x y,[]⟩::l) K e o:=by
 refine U_W ?_;subst hn;subst hv;simp only[UW,hx,ho,hi]
 exact⟨hl,hj,h⟩
def U_pc (hvs:as.map (Od.ev e)=vs) (hf:fzsU o vs=some ws) (hc:(clos vs||flat FZ r)=true) (hr:cld r=true) (hcall:cl g ws emp (fun v o'=>fz o' v=some r))
  (h:wpRU cl l K (upd e d r) o):wpRU cl (⟨some d,none,.pc g as,[]⟩::l) K e o:=by
 refine U_W ?_;subst hvs
 exact⟨r,⟨ws,hf,hcall,hc,hr⟩,h⟩
def U_pv {x:Od} (hx:x.ev e=.fn g cs) (hvs:as.map (Od.ev e)++cs=vs) (hf:fzsU o vs=some ws) (hc:(clos vs||flat FZ r)=true) (hr:cld r=true) (hcall:cl g ws emp (fun v o'=>fz o' v=some r))
  (h:wpRU cl l K (upd e d r) o):wpRU cl (⟨some d,none,.pv x as,[]⟩::l) K e o:=by
 refine U_W ?_;subst hvs
 refine⟨r,?_,h⟩
 rw[hx]
 exact⟨ws,hf,hcall,hc,hr⟩
def U_nc {d:Option Nat} {q:Nat} (hvs:as.map (Od.ev e)=vs) (ho:o s=some (.row q es)) (h1:okLL es=true) (h2:okLL es'=true) (h3:ok r=true) (h4:vs.all (Wz s)=true)
  (h5:UpdC cl g (fun id=>vs.map fun v=>refV s v id) q es es' r) (h:wpRU cl l K (put e d r) (upd o s (some (.row q es')))):wpRU cl (⟨d,none,.nc g as,[]⟩::l) K e o:=by
 refine U_W ?_;subst hvs;exact .inl ⟨s,q,es,es',r,ho,h1,h2,h3,h4,h5,h⟩
def U_ap (s:Nat) (hp:s < 1000000) (hvs:as.map (Od.ev e)=pre++ownV s sz L::post) (h1:okL pre=true) (h2:okL post=true) (h3:okLL L=true) (h4:okLL L'=true) (ho:L≠[]→o s=some (.row sz L))
  (h5:ApC cl g (fun v=>pre++v::post) sz L L') (h:wpRU cl l K (upd (swpE s e) d (ownV s sz L')) (if L'=[] then swpO s o else upd (swpO s o) s (some (.row sz L')))):wpRU cl (⟨some d,none,.nc g as,[]⟩::l) K e o:=by
 refine U_W ?_;exact .inr (.inl ⟨s,sz,L,L',pre,post,hp,hvs,h1,h2,h3,h4,ho,h5,h⟩)
def Ql1 (s:Nat) {st:List I} (hp:s < 1000000) (hvs:as.map (Od.ev e)=pre++ownV s sz L::post) (h1:okL pre=true) (h2:okL post=true) (h3:okLL L=true) (h4:okLL L'=true) (ho:L≠[]→o s=some (.row sz L))
  (h5:ApC cl g (fun v=>pre++v::post) sz L L') (hst:stbU (some d) e o (upd (swpE s e) d (ownV s sz L')) (if L'=[] then swpO s o else upd (swpO s o) s (some (.row sz L'))) st)
  (h:wpRU cl l K (upd (swpE s e) d (ownV s sz L')) (if L'=[] then swpO s o else upd (swpO s o) s (some (.row sz L')))):wpRU cl (⟨some d,none,.nc g as,st⟩::l) K e o:=by
 show WSU cl _ e o _;exact .inr (.inl ⟨s,sz,L,L',pre,post,hp,hvs,h1,h2,h3,h4,ho,h5,hst,h⟩)
def U_rd (s:Nat) (hvs:as.map (Od.ev e)=pre++ownV s sz L::post) (h1:okL pre=true) (h2:okL post=true) (h3:okLL L=true) (ho:L≠[]→o s=some (.row sz L))
  (h5:RdC cl g (fun v=>pre++v::post) sz L res) (h6:∀ m x,VR m (ownV s sz L) x→VR m (res (ownV s sz L)) (res x)) (h:wpRU cl l K (upd e d (res (ownV s sz L))) o):wpRU cl (⟨some d,none,.nc g as,[]⟩::l) K e o:=by
 refine U_W ?_;exact .inr (.inr (.inl ⟨s,sz,L,res,pre,post,hvs,h1,h2,h3,ho,h5,h6,h⟩))
def QcJ (s:Nat) {x:Od} {ys':List (List V)} (hx:x.ev e=.nil) (hs:src o (y.ev e)=some ys) (hsz:∀ c∈ys,c.length=sz) (hn:ys.length=n) (hne:(n==0)=false) (hp:s < 1000000) (hso:Zl n byt) (hw:swpR s ys=ys')
  (h:wpRU cl l K (upd (swpE s e) d (.rw s sz 0 n)) (upd (swpO s o) s (some (.row sz ys')))):wpRU cl (⟨some d,none,.app sz byt x y,[]⟩::l) K e o:=by
 refine U_W ?_;subst hn;subst hw;simp only[UW,hx,hs]
 exact⟨hsz,hso,fun h0=>(by rw[h0] at hne;cases hne),fun _=>⟨s,hp,h⟩⟩
def DZ {x:Od} {zs:List (List V)} {q:Nat} (hx:x.ev e=.rw s sz 0 len) (ho:o s=some (.row q es)) (hle:len≤es.length) (hs:src o (y.ev e)=some ys) (hsz:∀ c∈ys,c.length=sz) (hn:ys.length=n) (hne:(n==0)=false) (hp:s < 1000000)
  (hso:Zl (len+n) byt) (hw:swpR s (es.take len++ys)=zs) (h:wpRU cl l K (upd (swpE s e) d (.rw s sz 0 (len+n))) (upd (swpO s o) s (some (.row sz zs)))):wpRU cl (⟨some d,none,.app sz byt x y,[]⟩::l) K e o:=by
 refine U_W ?_;subst hn;subst hw;simp only[UW,hx,hs,ho]
 refine⟨hsz,trivial,trivial,hle,hso,fun h0=>(by rw[h0] at hne;cases hne),fun _=>?_⟩
 rw[if_pos hp];exact h
def U_gt {d:Option Nat} (ht:e t=.bo p) (h:wpRU cl (⟨d,none,i,[]⟩::l) K e o):wpRU cl (⟨d,some (t,p),i,[]⟩::l) K e o:=by
 show WSU cl _ e o _;have h:WSU cl _ e o _:=h;simp only[WSU,ht,gdV,if_true] at h ⊢;exact h
def U_gs {d:Option Nat} {st:List I} (ht:e t=.bo q) (hq:(q==p)=false) (h:wpRU cl l K (put e d (.tp [])) o):wpRU cl (⟨d,some (t,p),i,st⟩::l) K e o:=by
 show WSU cl _ e o _;have hq:q≠p:=by simpa using hq
 simp only[WSU,ht,gdV,if_neg hq];exact h
def Qcl {d:Option Nat} {st:List I} (ht:e t=.bo true) (h:wpRU cl l K (put e d (.tp [])) o):wpRU cl (⟨d,some (t,false),i,st⟩::l) K e o:=U_gs ht rfl h
def Vs {d:Option Nat} {st:List I} (ht:e t=.bo false) (h:wpRU cl l K (put e d (.tp [])) o):wpRU cl (⟨d,some (t,true),i,st⟩::l) K e o:=U_gs ht rfl h
def U_gj {d:Option Nat} {st:List I} (ht:e t=.tp vs) (h:wpRU cl l K (put e d (.tp [])) o):wpRU cl (⟨d,some (t,p),i,st⟩::l) K e o:=by
 show WSU cl _ e o _;simp only[WSU,ht,gdV];rw[if_neg (by cases p<;>simp)];exact h
def U_gb {d:Option Nat} {st:List I} (ht:e t=.bo q) (h1:q=p→wpRU cl (⟨d,some (t,p),i,st⟩::l) K (upd e t (.bo p)) o) (h2:q=!p→wpRU cl (⟨d,some (t,p),i,st⟩::l) K (upd e t (.bo !p)) o) :
  wpRU cl (⟨d,some (t,p),i,st⟩::l) K e o:=by
 by_cases hq:q=p
 ·have:=h1 hq
  rw[Z9 (by rw[ht,hq])] at this;exact this
 ·have hq:q=!p:=by cases q<;>cases p<;>simp_all
  have:=h2 hq
  rw[Z9 (by rw[ht,hq])] at this;exact this
end
def Pu (F:En) (g:Nat) (vs:List V) (r:V):Prop:=Call F g vs emp (fun v o'=>fz o' v=some r)
def Dm {b:O} (hR:Rl b m0 m e o e' o'):∀ (rs:List Rs) {vs:List V},rs.mapM (resV e o)=some vs→∃ xs,rs.mapM (resV e' o')=some xs∧VRs m vs xs:=by
 intro rs;induction rs with
 | nil=>intro vs h;simp at h;subst h;exact⟨[],SM,.nil⟩
 | cons r rs ih =>
  intro vs h;obtain⟨v,vs',h1,h2,rfl⟩:=Z6 h;obtain⟨xs,h3,h4⟩:=ih h2
  have:∃ x,resV e' o' r=some x∧VR m v x:=by
   cases r with
   | t n=>simp only[resV,Option.some.injEq] at h1 ⊢;subst h1;exact⟨_,rfl,hR.e n⟩
   | c a sz ag =>
    simp only[resV] at h1 ⊢;cases hc:Qz o (e a) with
    | none=>rw[hc] at h1;cases h1
    | some p =>
     obtain⟨cs,j⟩:=p;rw[hc] at h1;obtain⟨ds,g1,g2⟩:=Je hR.o (hR.e a) hc;rw[g1];exact Hp g2 h1
  obtain⟨x,g1,g2⟩:=this
  exact⟨x::xs,by simp [g1,h3],.cons g2 h4⟩
def Qf8 (h:VRs m vs xs):VR m (one vs) (one xs):=by
 match vs,xs,h with
 | [],[],h=>exact .tp _ _ h.len h.at_
 | [v],[x],h=>exact h.at_ 0 v x rfl rfl
 | v::w::vs,x::y::xs,h=>exact .tp _ _ h.len h.at_
 | [],_::_,h=>have:=h.len;simp at this
 | [_],[],h=>have:=h.len;simp at this
 | [_],_::_::_,h=>have:=h.len;simp at this
 | _::_::_,[],h=>have:=h.len;simp at this
 | _::_::_,[_],h=>have:=h.len;simp at this
def QlJ (h:VRs m vs xs):∀ t,VR m (ini vs t) (ini xs t):=by
 intro t;simp only[ini,List.getD_eq_getElem?_getD];cases hv:vs[t]? with
 | none=>exact .jk _
 | some v =>
  obtain⟨x,hx,h1⟩:=h.get hv;rw[hx];exact h1
def U_fn {F:En} (hf:F g=some fn) (hk:ckC fn.body=true) {b:O} (hb:gh=true→b=emp) (hl:vs.length=fn.np) (hv:VRs m vs xs) (hS:SR m o o') (hF:FrB b m o')
  {KU K:V→O→Prop} (h:wpU gh (Call F) fn.body (endX fn.res KU) (ini vs) o) (hK:∀ m1 v o1 v' o1',KU v o1→VR m1 v v'→SR m1 o1 o1'→FrB b m1 o1'→Pin m m1→K v' o1'):Call F g xs o' K:=by
 refine Yb hf (by rw[hv.len];exact hl) (Qjl hb (Qa F) fn.body hk (m0:=m) ?_ h ⟨QlJ hv,hS,hF,fun _ _=>.inl rfl⟩);intro x m1 e o e' o' hx hR;cases x with
 | ex id=>exact hx.elim
 | nx =>
  obtain⟨vs,h1,h2⟩:=hx;obtain⟨xs,h3,h4⟩:=Dm hR fn.res h1
  exact⟨xs,h3,hK m1 _ _ _ _ h2 (Qf8 h4) hR.o hR.f hR.p⟩
 | rt =>
  obtain⟨vs,h1,h2⟩:=hx;obtain⟨xs,h3,h4⟩:=Dm hR fn.res h1
  exact⟨xs,h3,hK m1 _ _ _ _ h2 (Qf8 h4) hR.o hR.f hR.p⟩
def Qkm:SR (fun _=>none) emp emp:=⟨fun _ _ _ h=>(by cases h),fun _ _ h=>(by cases h),fun _ _ h=>(by cases h)⟩
def Qh {F:En} (hf:F g=some fn) (hk:ckC fn.body=true) (hl:vs.length=fn.np) (hc:cldL vs=true) (h:wpU true (Call F) fn.body (endX fn.res fun v o=>fzU o v=some r) (ini vs) emp):Pu F g vs r :=
 U_fn hf hk (b:=emp) (fun _=>rfl) hl (Q9 _ vs hc) Qkm (fun _ _ h=>by cases h) h fun m1 v o1 v' o1' h1 h2 h3 _ _=>Qka h3 h2 h1
def Qgu (d:Nat) (o:O) (s:Nat) (h:(s==d)=false):swpO d o s=(o s).bind (Qy d):=by simp only[swpO];rw[if_neg (by rw[h];simp)]
def QhW (d:Nat) (e:E) (t:Nat):swpE d e t=swp d (e t):=rfl
def QdN (d:Nat) (es:List (List V)) (e:E) (t:Nat):Wq d es e t=still d es (e t):=rfl
def XZ (d:Nat) (es:List (List V)) (o:O) (s:Nat) (h:(s==d)=false):ZK d es o s=(o s).bind (YH d es):=by simp only[ZK];rw[if_neg (by rw[h];simp)]
attribute [go_sem] QhW Qgu swp swpL Qy swpR QdN XZ still ZB YH Option.bind_some List.map_cons List.map_nil
def ZR {f:V→Option V}:∀ {es:List (List V)},(∀ c∈es,∀ v∈c,f v=some v)→(es.mapM fun c:List V=>c.mapM f)=some es:=by
 intro es;induction es with
 | nil=>intro _;rfl
 | cons c es ih =>
  intro h;simp [Yr (h c SM),ih (fun d hd=>h d (by simp [hd]))]
def okf:Nat→V→Bool
 | 0,_=>false
 | n+1,.ag cs=>cs.all (okf n)
 | n+1,.tp cs=>cs.all (okf n)
 | n+1,.fn _ cs=>cs.all (okf n)
 | _+1,.nil=>false
 | _+1,.jk=>false
 | _+1,.rw ..=>false
 | _+1,.ra ..=>false
 | _+1,.pt ..=>false
 | _+1,.mp _=>false
 | _+1,.it _=>false
 | _+1,_=>true
def WN:∀ (n:Nat) (v:V),okf n v=true→frzU n o v=some v:=by
 intro n;induction n with
 | zero=>intro v h;cases h
 | succ n ih =>
  intro v h;cases v<;>(first|(cases h;done)|rfl|skip);all_goals
   simp only[okf,List.all_eq_true] at h;simp only[frzU];rw[Yr fun v hv=>ih v (h v hv)];rfl
def JM {v:V} (h:okf FZ v=true):fzU o v=some v:=WN _ _ h
def Zp (h:vs.all (okf FZ)=true):fzsU o vs=some vs:=Yr fun v hv=>JM (List.all_eq_true.1 h v hv)
def QdQ:fzsU o []=some []:=rfl
def Hs {v:V} (h:fzU o v=some w) (hs:fzsU o vs=some ws):fzsU o (v::vs)=some (w::ws):=by
 have hs:vs.mapM (fzU o)=some ws:=hs;simp [fzsU,h,hs]
def Qg5 (d:Nat):∀ (v:V),cls1 v=true→swp d v=v:=by
 have main:(∀ v:V,cls1 v=true→swp d v=v):=by
  intro v;exact V.rec (motive_1:=fun v=>cls1 v=true→swp d v=v) (motive_2:=fun cs=>Zc cs=true→swpL d cs=cs) (motive_3:=fun _=>True)
   (fun _=>rfl) (fun _ _=>rfl) (fun _ _ _=>rfl) (fun _ _=>rfl)
   (fun cs ih h=>by rw[cls1] at h;rw[swp,ih h]) (fun cs ih h=>by rw[cls1] at h;rw[swp,ih h])
   (fun _=>rfl) (fun _ _ _=>rfl) (fun _ _ _ _ h=>by rw[cls1] at h;cases h) (fun _ _ _ _ h=>by rw[cls1] at h;cases h) (fun _ _ _ h=>by rw[cls1] at h;cases h)
   (fun _ _ _ _=>rfl) (fun _=>rfl) (fun g cs ih h=>by rw[cls1] at h;rw[swp,ih h]) (fun _=>rfl) (fun _ h=>by rw[cls1] at h;cases h) (fun _=>rfl) (fun _ h=>by rw[cls1] at h;cases h)
   (fun _=>rfl) (fun v vs ih1 ih2 h=>by rw[Zc,Bool.and_eq_true] at h;rw[swpL,ih1 h.1,ih2 h.2]) trivial (fun _ _ _ _=>trivial) v
 exact main
def K6 (d:Nat) (h:Zc cs=true):swpL d cs=cs:=by
 induction cs with
 | nil=>rfl
 | cons v cs ih =>
  rw[Zc,Bool.and_eq_true] at h;rw[swpL,Qg5 d v h.1,ih h.2]
def Q4 (d:Nat) (h:es.all Zc=true):swpR d es=es:=by
 unfold swpR;induction es with
 | nil=>rfl
 | cons c es ih =>
  rw[List.all_cons,Bool.and_eq_true] at h;rw[List.map_cons,K6 d h.1,ih h.2]
def Q5 (s sz:Nat):ownV s sz []=.nil:=rfl
def Qdg (h:L≠[]):ownV s sz L=.rw s sz 0 L.length:=if_neg h
def Xe (d s sz:Nat) (L:List (List V)) (h:(s==d)=false):swp d (ownV s sz L)=ownV s sz L:=by
 unfold ownV;split
 ·rfl
 ·rw[swp,if_neg (by rw[h];simp)]
def ZC (s sz:Nat) (L:List (List V)):JZ (ownV s sz L)=some (.i .i64 L.length):=by
 unfold ownV;split
 ·rename_i h;rw[h];rfl
 ·rfl
def Kq (h:L≠[]→o s=some (.row sz L)):src o (ownV s sz L)=some L:=by
 unfold ownV;split
 ·rename_i hl;rw[hl];rfl
 ·rename_i hl;simp only[src,h hl,Nat.zero_add,Nat.le_refl,if_true,List.drop_zero,List.take_length]
def D2 (n:Nat) (h:L≠[]→o s=some (.row sz L)) (hk:∀ c∈L,∀ v∈c,okf n v=true):frzU (n+1) o (ownV s sz L)=some (.sl L):=by
 have hs:=Kq h;have hm:(L.mapM fun c:List V=>c.mapM (frzU n o))=some L:=ZR fun c hc v hv=>WN n v (hk c hc v hv);unfold ownV at hs ⊢;split
 ·rename_i hl;rw[hl];rfl
 ·rename_i hl;rw[if_neg hl] at hs;simp only[frzU,hs,hm];rfl
section
variable {cl:Qg} {e:E} {o:O}
def YO (s:Nat) {x:Od} (hx:x.ev e=ownV s sz L) (ho:L≠[]→o s=some (.row sz L)) (hs:src o (y.ev e)=some ys) (hsz:∀ c∈ys,c.length=sz) (hne:ys≠[]) (hp:s < 1000000)
  (hso:Zl (L.length+ys.length) byt) (hL:swpR s L=L) (hy:swpR s ys=ys) (h:wpRU cl l K (upd (swpE s e) d (ownV s sz (L++ys))) (upd (swpO s o) s (some (.row sz (L++ys))))):wpRU cl (⟨some d,none,.app sz byt x y,[]⟩::l) K e o:=by
 have hne2:(ys.length==0)=false:=by
  cases ys with
  | nil=>exact absurd rfl hne
  | cons=>rfl
 have hLy:L++ys≠[]:=by
  cases L with
  | nil=>exact hne
  | cons=>simp
 rw[Qdg hLy] at h;by_cases hl:L=[]
 ·subst hl;refine QcJ s hx hs hsz rfl hne2 hp (by simpa using hso) hy ?_;simpa using h
 ·rw[Qdg hl] at hx;refine DZ hx (ho hl) (Nat.le_refl _) hs hsz rfl hne2 hp hso (zs:=L++ys) ?_ ?_
  ·rw[List.take_length,swpR,List.map_append];have h1:L.map (swpL s)=L:=hL;have h2:ys.map (swpL s)=ys:=hy;rw[h1,h2]
  ·rw[List.length_append] at h;exact h
end
def QmI (k:IntKind) (n:Int):okf FZ (.i k n)=true:=rfl
def QlP (p:Bool):okf FZ (.bo p)=true:=rfl
def Ql4 (y:ByteArray):okf FZ (.s y)=true:=rfl
def Qj4 (es:List (List V)):okf FZ (.sl es)=true:=rfl
def QkK (cs:List V) (j:Nat):okf FZ (.ip cs j)=true:=rfl
def Qjq (g:Nat):okf FZ (.fn g [])=true:=rfl
def Qna (k:IntKind) (n:Int):clo FZ (.i k n)=true:=rfl
def QiK (p:Bool):clo FZ (.bo p)=true:=rfl
def Ql8 (y:ByteArray):clo FZ (.s y)=true:=rfl
def Qjv (es:List (List V)):clo FZ (.sl es)=true:=rfl
def QgA:clo FZ .nil=true:=rfl
def QiT (cs:List V) (j:Nat):clo FZ (.ip cs j)=true:=rfl
def QlO (g:Nat):clo FZ (.fn g [])=true:=rfl
def QmP {F:En} (hf:F g=some fn) (hk:ckC fn.body=true) (hl:pre.length+1+post.length=fn.np) (hpre:okL pre=true) (hpost:okL post=true) (hL:okLL L=true) (hL':okLL L'=true)
  (h:wpU false (Call F) fn.body (endX fn.res fun v o=>∃ s,v=ownV s sz L'∧(L'≠[]→o s=some (.row sz L'))) (ini (pre++ownV 999999 sz L::post)) (if L=[] then emp else upd emp 999999 (some (.row sz L)))):ApC (Call F) g (fun v=>pre++v::post) sz L L':=by
 intro v o K hv hK;have hcd:∀ (m:Nm),VRs m pre pre∧VRs m post post:=fun m=>⟨Q9 m pre (YV pre hpre),Q9 m post (YV post hpost)⟩;have fin:∀ (b:O) (m:Nm),(∀ i x,o i=some x→(∀ off len,v≠.rw i sz off len)→b i=some x)→∀ m1 v1 o1 v' o1',(∃ s,v1=ownV s sz L'∧(L'≠[]→o1 s=some (.row sz L')))→VR m1 v1 v'→SR m1 o1 o1'→FrB b m1 o1'→Pin m m1→K v' o1':=by
  intro b m hb m1 v1 o1 v' o1' h1 h2 h3 h4 _;obtain⟨s,rfl,h6⟩:=h1;by_cases hl:L'=[]
  ·rw[ownV,if_pos hl] at h2;cases h2;exact hK _ _ (.inl ⟨hl,rfl⟩) fun i x hi hne=>⟨(h4 i x (hb i x hi hne)).1,fun off len hh=>by cases hh⟩
  ·rw[ownV,if_neg hl] at h2;cases h2 with
   | rw _ id _ _ _ hm =>
    obtain⟨id2,y,g1,g2,g3⟩:=h3.ob s _ (h6 hl);rw[hm] at g1;cases g1;cases g3 with
    | row _ _ fs hrr =>
     rw[KP hrr hL'] at g2;exact hK _ _ (.inr ⟨hl,id,rfl,g2⟩) fun i x hi hne=>⟨(h4 i x (hb i x hi hne)).1,fun off len hh=>by cases hh;exact (h4 _ x (hb _ x hi hne)).2 s hm⟩
 rcases hv with⟨hl0,rfl⟩|⟨hl0,id,rfl,ho⟩
 ·rw[if_pos hl0] at h;have h1:ownV 999999 sz L=.nil:=if_pos hl0;rw[h1] at h;refine U_fn hf hk (b:=o) (fun h=>by cases h) (m:=fun _=>none) (vs:=pre++V.nil::post) (by simp;omega) ((hcd _).1.append (.cons .nil (hcd _).2)) (o:=emp) ⟨fun _ _ _ h=>(by cases h),fun _ _ h=>(by cases h),fun _ _ h=>(by cases h)⟩ (fun i x hi=>⟨hi,fun s hs=>by cases hs⟩) h ?_;exact fin o _ fun i x hi _=>hi
 ·rw[if_neg hl0] at h;have h1:ownV 999999 sz L=.rw 999999 sz 0 L.length:=if_neg hl0;rw[h1] at h;refine U_fn hf hk (b:=upd o id none) (fun h=>by cases h) (m:=fun s=>if s=999999 then some id else none) (vs:=pre++V.rw 999999 sz 0 L.length::post) (by simp;omega) ((hcd _).1.append (.cons (.rw _ _ _ _ _ SM) (hcd _).2)) (o:=upd emp 999999 (some (.row sz L))) (o':=o)
   ⟨fun s t i h1 h2=>?_,fun s i h1=>?_,fun s x hx=>?_⟩ (fun i x hx=>?_) h ?_
  ·split at h1
   ·split at h2
    ·simp_all
    ·cases h2
   ·cases h1
  ·split at h1
   ·cases h1;exact⟨_,ho⟩
   ·cases h1
  ·by_cases hs:s=999999
   ·subst hs;simp only[upd,if_true,Option.some.injEq] at hx;subst hx
    exact⟨id,_,SM,ho,.row _ _ _ (Jz _ (WI hL))⟩
   ·simp [upd,hs,emp] at hx
  ·by_cases hi:i=id
   ·simp [upd,hi] at hx
   ·simp only[upd,if_neg hi] at hx
    refine⟨hx,fun s hs=>?_⟩
    dsimp only at hs;split at hs
    ·cases hs;exact hi rfl
    ·cases hs
  ·refine fin (upd o id none) _ fun i x hi hne=>?_
   have:i≠id:=fun hh=>hne 0 L.length (by rw[hh])
   simp only[upd,if_neg this];exact hi
def ic0:((0:Nat):Int)=0:=rfl
def ic1:((1:Nat):Int)=1:=rfl
def ic2:((2:Nat):Int)=2:=rfl
def ic3:((3:Nat):Int)=3:=rfl
def ic4:((4:Nat):Int)=4:=rfl
def ic5:((5:Nat):Int)=5:=rfl
def ic6:((6:Nat):Int)=6:=rfl
def ic7:((7:Nat):Int)=7:=rfl
def ic8:((8:Nat):Int)=8:=rfl
def ic9:((9:Nat):Int)=9:=rfl
def ic10:((10:Nat):Int)=10:=rfl
def ic16:((16:Nat):Int)=16:=rfl
def ic32:((32:Nat):Int)=32:=rfl
def ic64:((64:Nat):Int)=64:=rfl
def QmX:((200:Nat):Int)=200:=rfl
def Qmm:((256:Nat):Int)=256:=rfl
attribute [go_sem] ic0 ic1 ic2 ic3 ic4 ic5 ic6 ic7 ic8 ic9 ic10 ic16 ic32 ic64 QmX Qmm
attribute [go_sem] QmI QlP Ql4 Qj4 QkK Qjq Qna QiK Ql8 Qjv QgA QiT QlO cld cldL
attribute [go_sem] Xe ZC List.replicate_succ List.replicate_zero
section
variable {cl:Qg} {gh:Bool} {e:E} {o:O}
def PCN {c:Prop} (a:c) (hcall:cl g vs emp (fun v o'=>fz o' v=some r)) (h:wpRU cl l K (upd e d r) o) (h1:c→as.map (Od.ev e)=vs:=by intro H;((try simp only[H,go_sem])<;>rfl)) (h2:c→vs.all (okf FZ)=true:=by intro H;first|with_unfolding_all rfl|simp only[H,List.all_cons,List.all_nil,Bool.and_true,go_sem]) (h3:c→(clos vs||flat FZ r)=true:=by intro H;first|with_unfolding_all exact Bool.or_eq_true_iff.2 (.inr rfl)|(refine Bool.or_eq_true_iff.2 (.inl ?_);simp only[clos,H,List.all_cons,List.all_nil,Bool.and_true,go_sem])) (h4:c→cld r=true:=by intro H;first|with_unfolding_all rfl|simp only[H,go_sem,Bool.and_true]):wpRU cl (⟨some d,none,.pc g as,[]⟩::l) K e o :=
 U_pc (h1 a) (Zp (h2 a)) (h3 a) (h4 a) hcall h
def PCT {c:Prop} (a:c) (hcall:cl g vs emp (fun v o'=>fz o' v=some r)) (h:wpRU cl l K (upd e d r) o) (h1:c→as.map (Od.ev e)=vs:=by intro H;((try simp only[H,beq_self_eq_true,List.take_succ_cons,List.take_zero,List.drop_succ_cons,List.drop_zero,Int.toNat_natCast,List.length_map,go_sem])<;>rfl)) (h2:c→vs.all (okf FZ)=true:=by intro H;first|with_unfolding_all rfl|simp only[H,beq_self_eq_true,List.take_succ_cons,List.take_zero,List.drop_succ_cons,List.drop_zero,Int.toNat_natCast,List.length_map,List.all_cons,List.all_nil,Bool.and_true,go_sem]) (h3:c→(clos vs||flat FZ r)=true:=by intro H;first|with_unfolding_all exact Bool.or_eq_true_iff.2 (.inr rfl)|(refine Bool.or_eq_true_iff.2 (.inl ?_);simp only[clos,H,beq_self_eq_true,List.take_succ_cons,List.take_zero,List.drop_succ_cons,List.drop_zero,Int.toNat_natCast,List.length_map,List.all_cons,List.all_nil,Bool.and_true,go_sem])) (h4:c→cld r=true:=by intro H;first|with_unfolding_all rfl|simp only[H,beq_self_eq_true,List.take_succ_cons,List.take_zero,List.drop_succ_cons,List.drop_zero,Int.toNat_natCast,List.length_map,go_sem,Bool.and_true]):wpRU cl (⟨some d,none,.pc g as,[]⟩::l) K e o :=
 U_pc (h1 a) (Zp (h2 a)) (h3 a) (h4 a) hcall h
def GBN {c:Prop} (a:c) {d:Option Nat} {st:List I} (h1:q=p→wpRU cl (⟨d,some (t,p),i,st⟩::l) K (upd e t (.bo p)) o) (h2:q=!p→wpRU cl (⟨d,some (t,p),i,st⟩::l) K (upd e t (.bo !p)) o) (ht:c→e t=.bo q:=by intro H;((try simp only[H,go_sem])<;>rfl)):wpRU cl (⟨d,some (t,p),i,st⟩::l) K e o:=U_gb (ht a) h1 h2
def GDN {c:Prop} (x:c) {K:X→E→O→Prop} (h1:q=true→wpU gh cl a K (upd e t (.bo true)) o) (h2:q=false→wpU gh cl b K (upd e t (.bo false)) o) (hc:c→e t=.bo q:=by intro H;((try simp only[H,go_sem])<;>rfl)):wpU gh cl (.cd (.t t) a b) K e o:=Qv (hc x) h1 h2
def GBT {c:Prop} (a:c) {d:Option Nat} {st:List I} (h1:q=p→wpRU cl (⟨d,some (t,p),i,st⟩::l) K (upd e t (.bo p)) o) (h2:q=!p→wpRU cl (⟨d,some (t,p),i,st⟩::l) K (upd e t (.bo !p)) o) (ht:c→e t=.bo q:=by intro H;((try simp only[H,beq_self_eq_true,List.take_succ_cons,List.take_zero,List.drop_succ_cons,List.drop_zero,Int.toNat_natCast,List.length_map,go_sem])<;>rfl)):wpRU cl (⟨d,some (t,p),i,st⟩::l) K e o:=U_gb (ht a) h1 h2
def GDT {c:Prop} (x:c) {K:X→E→O→Prop} (h1:q=true→wpU gh cl a K (upd e t (.bo true)) o) (h2:q=false→wpU gh cl b K (upd e t (.bo false)) o) (hc:c→e t=.bo q:=by intro H;((try simp only[H,beq_self_eq_true,List.take_succ_cons,List.take_zero,List.drop_succ_cons,List.drop_zero,Int.toNat_natCast,List.length_map,go_sem])<;>rfl)):wpU gh cl (.cd (.t t) a b) K e o:=Qv (hc x) h1 h2
end
section
variable {cl:Qg} {e:E} {o:O}
def QfP {d:Option Nat} (f f':Nat→Nat) (D:List Nat) {st:List I} (hgen:GenC cl g vs N A r N' A' St) (hargs:as.map (Od.ev e)=renL f vs) (hA:∀ p∈A,o (f p.1)=some (Qj f p.2)) (hG:GenK vs N A r N' A' St f f' D)
  (hst:stbU d e o (put (Zx D e) d (ren f' r)) (putA f' A' (ZH D o)) st) (h:wpRU cl l K (put (Zx D e) d (ren f' r)) (putA f' A' (ZH D o))):wpRU cl (⟨d,none,.nc g as,st⟩::l) K e o:=by
 show WSU cl _ e o _;exact .inr (.inr (.inr (.inl ⟨vs,N,A,r,N',A',St,f,f',D,hargs,hgen,hA,hG,hst,h⟩)))
def VM (hn:(A.map fun p=>f p.1).Nodup) {p:Nat × Ob} (hp:p∈A) (o:O):putA f A o (f p.1)=some (Qj f p.2):=by
 induction A with
 | nil=>cases hp
 | cons q A ih =>
  rw[List.map_cons,List.nodup_cons] at hn;simp only[putA,upd];rcases List.mem_cons.1 hp with rfl|hp
  ·rw[if_pos rfl]
  ·rw[if_neg (fun hh=>hn.1 (List.mem_map.2 ⟨p,hp,hh⟩))];exact ih hn.2 hp
def QaA (h:∀ p∈A,f p.1≠t) (o:O):putA f A o t=o t:=by
 induction A with
 | nil=>rfl
 | cons q A ih =>
  simp only[putA,upd];rw[if_neg (fun hh=>h q List.mem_cons_self hh.symm)];exact ih fun p hp=>h p (List.mem_cons_of_mem _ hp)
def Qm1 {d:Option Nat} (f f':Nat→Nat) (D:List Nat) (hgen:GenC cl g vs N A r N' A' St) (hargs:as.map (Od.ev e)=renL f vs) (hA:∀ p∈A,o (f p.1)=some (Qj f p.2)) (hG:GenK vs N A r N' A' St f f' D)
  (h:∀ o1,(∀ p∈A',o1 (f' p.1)=some (Qj f' p.2))→(∀ t,(∀ s∈N',f' s≠t)→o1 t=ZH D o t)→wpRU cl l K (put (Zx D e) d (ren f' r)) o1):wpRU cl (⟨d,none,.nc g as,[]⟩::l) K e o:=by
 have hinj:(A'.map fun p=>f' p.1).Nodup:=by
  have h0:=hG.ad0;have h1:=hG.ai';have h2:=hG.an';clear hgen hG hA h;induction A' with
  | nil=>exact List.nodup_nil
  | cons q A' ih =>
   simp only[domA,List.map_cons,List.nodup_cons] at h0 ⊢
   refine⟨fun hh=>?_,ih h0.2 fun s hs=>h1 s (by simp only[domA,List.map_cons];exact List.mem_cons_of_mem _ hs)⟩
   obtain⟨p,hp,hpe⟩:=List.mem_map.1 hh;have e1:p.1∈domA A':=List.mem_map.2 ⟨p,hp,rfl⟩
   have:=Y9 h2 (h1 p.1 (by simp only[domA,List.map_cons];exact List.mem_cons_of_mem _ e1)) (h1 q.1 (by simp [domA])) hpe
   exact h0.1 (by rw[← this];exact e1)
 refine QfP f f' D hgen hargs hA hG trivial (h _ (fun p hp=>VM hinj hp _) fun t ht=>QaA (fun p hp=>ht p.1 (hG.ai' _ (List.mem_map.2 ⟨p,hp,rfl⟩))) _)
def Qmd (s:Nat) {x n:Od} (hx:x.ev e=.nil) (hn:natV (n.ev e)=some k) (h0:(k==0)=false) (hs:Zl k byt) (hp:s < 1000000) (h:wpRU cl l K (upd (swpE s e) d (.rw s sz 0 k)) (upd (swpO s o) s (some (.row sz (List.replicate k z))))):wpRU cl (⟨some d,none,.apz sz byt z x n,[]⟩::l) K e o:=by
 refine U_W ?_;have h0:k≠0:=by simpa using h0
 simp only[UW,hn,hx]
 exact⟨hs,fun hh=>absurd hh h0,fun _=>⟨s,hp,h⟩⟩
def Qfc {x:Od} (hx:szV (x.ev e)=some true) (h:wpRU cl l K (upd e d (.bo neg)) o):wpRU cl (⟨some d,none,.isz neg x,[]⟩::l) K e o:=by
 refine U_W ?_;simp only[UW,hx];exact h
def Qgb {x:Od} (hx:szV (x.ev e)=some false) (h:∀ p,wpRU cl l K (upd e d (.bo p)) o):wpRU cl (⟨some d,none,.isz neg x,[]⟩::l) K e o:=by
 refine U_W ?_;simp only[UW,hx];exact h
def Qd4 (h:wpRU cl l K (upd (swpE d e) d (.mp d)) (upd (swpO d o) d (some (.map [] 0)))):wpRU cl (⟨some d,none,.mkm,[]⟩::l) K e o:=by
 refine U_W ?_;exact h
def DF {x:Od} {v:V} (hv:rv e o (.mlen x)=some v) (h:wpRU cl l K (upd e d v) o):wpRU cl (⟨some d,none,.mlen x,[]⟩::l) K e o:=by
 refine U_W ?_;simp only[UW,hv];exact h
def QmW {kg:Bool} {z:V} {ok:Bool} {m k:Od} {v:V} (hv:lkpV o kg ks z ok (m.ev e) (k.ev e)=some v) (h:wpRU cl l K (upd e d v) o):wpRU cl (⟨some d,none,.lkp kg ks z ok m k,[]⟩::l) K e o:=by
 refine U_W ?_;simp only[UW,rv,hv];exact h
def Ql6 {x:Od} {v:V} (hv:entV o (x.ev e)=some v) (h:wpRU cl l K (upd e d v) o):wpRU cl (⟨some d,none,.ent x,[]⟩::l) K e o:=by
 refine U_W ?_;simp only[UW,rv,hv];exact h
def Dq {x:Od} {id i q:Nat} {st:List I} (hx:x.ev e=.pt id i j) (ho:o id=some (.row q es)) (hi:es[i]?=some cs) (hv:(y.ev e).cells=vs) (hl:vs.length=sz) (hj:j+sz≤cs.length) (hn:es.set i (splice j vs cs)=es')
  (hst:stbU none e o e (upd o id (some (.row q es'))) st) (h:wpRU cl l K e (upd o id (some (.row q es')))):wpRU cl (⟨none,none,.sto sz x y,st⟩::l) K e o:=by
 show WSU cl _ e o _;subst hn;subst hv;simp only[WSU,UW,hx,ho,hi]
 exact⟨hl,hj,hst,h⟩
def QeV {d:Option Nat} {st:List I} (ht:e t=.bo p) (h:wpRU cl (⟨d,none,i,st⟩::l) K e o):wpRU cl (⟨d,some (t,p),i,st⟩::l) K e o:=by
 show WSU cl _ e o _;have h:WSU cl _ e o _:=h;simp only[WSU,ht,gdV,if_true] at h ⊢;exact h
def XY {d:Option Nat}:stbU d e o e1 o1 []:=trivial
def W8 {d:Option Nat} {j:I} {l:List I} {v:V} (h1:rv e o j=some v) (h2:rv e1 o1 j=some v) (h3:ok v=true) (h:stbU d e o e1 o1 l):stbU d e o e1 o1 (j::l):=⟨.inl ⟨v,h1,h2,.inl h3⟩,h⟩
def QfC {d:Option Nat} {j:I} {l:List I} {v:V} (t:Nat) (h1:rv e o j=some v) (h2:rv e1 o1 j=some v) (h3:Qg2 v=true) (h4:d≠some t) (h5:e t=v) (h6:e1 t=v) (h:stbU d e o e1 o1 l):stbU d e o e1 o1 (j::l):=⟨.inl ⟨v,h1,h2,.inr ⟨h3,t,h4,h5,h6⟩⟩,h⟩
def DU {d:Option Nat} {l:List I} (h1:e t=.tp []) (h2:e1 t=.tp []) (h:stbU d e o e1 o1 l):stbU d e o e1 o1 (.ld sz ag (.t t)::l):=⟨.inr ⟨sz,ag,t,rfl,h1,h2⟩,h⟩
def U_st {d:Option Nat} {st:List I} (h:UW cl (d.getD 0) e o (fun v e1 o1=>stbU d e o (put e1 d v) o1 st∧wpRU cl l K (put e1 d v) o1) i):wpRU cl (⟨d,none,i,st⟩::l) K e o:=h
def Qu:Nat→List (V × V)→List (Nat × V × V)
 | _,[]=>[]
 | n,(k,v)::l=>(n,k,v)::Qu (n+1) l
def Z5 (L:List (V × V)):Ob:=.map (Qu 0 L) L.length
theorem X0:∀ (L:List (V × V)) (n:Nat),(Qu n L).length=L.length
 | [],_=>rfl
 | (_,_)::L,n=>by simp [Qu,X0 L]
theorem ZP:∀ (L:List (V × V)) (n j:Nat),(Qu n L)[j]?=(L[j]?).map fun p=>(n+j,p.1,p.2)
 | [],_,_=>by simp [Qu]
 | (k,v)::L,n,0=>by simp [Qu]
 | (k,v)::L,n,j+1=>by
  simp only[Qu,List.getElem?_cons_succ,ZP L (n+1) j];rw[show n+1+j=n+(j+1) by omega]
theorem Ko:∀ (L:List (V × V)) (n:Nat) (k v:V),Qu n (L++[(k,v)])=Qu n L++[(n+L.length,k,v)]
 | [],_,_,_=>rfl
 | (_,_)::L,n,k,v=>by simp [Qu,Ko L];omega
theorem Kp:∀ (L:List (V × V)) (n j:Nat) (k v:V),j < L.length→Qu n (L.set j (k,v))=(Qu n L).set j (n+j,k,v)
 | [],_,_,_,_,h=>by simp at h
 | (_,_)::L,n,0,k,v,_=>by simp [Qu]
 | (_,_)::L,n,j+1,k,v,h=>by
  simp only[List.set_cons_succ,Qu,Kp L (n+1) j k v (by simpa using h)];rw[show n+1+j=n+(j+1) by omega]
theorem Km:∀ {L:List (V × V)} {n:Nat} {x:Nat × V × V},x∈Qu n L→∃ j,x.1=n+j∧L[j]?=some x.2
 | [],_,_,h=>by cases h
 | (k,v)::L,n,x,h=>by
  simp only[Qu,List.mem_cons] at h;rcases h with rfl|h
  ·exact⟨0,rfl,rfl⟩
  ·obtain⟨j,h1,h2⟩:=Km h
   exact⟨j+1,OM,by simpa using h2⟩
def kidx {κ:Type} [DecidableEq κ] (k:κ):List (κ × V)→Option Nat
 | []=>none
 | (k',_)::l=>if k=k' then some 0 else (kidx k l).map (·+1)
theorem Xz {κ:Type} [DecidableEq κ] {enc:κ→V} {ag:Bool} {ks:List Lf} (heq:∀ a b,eqV ag ks (enc a) (enc b)=some (decide (a=b))) {k:κ} (h0:(enc k).isAg=ag∧(enc k).cells.length=ks.length):∀ (L:List (κ × V)) (n:Nat),QN ag ks (enc k) (Qu n (L.map fun p=>(enc p.1,p.2)))=some (kidx k L)
 | [],_=>by simp only[List.map_nil,Qu,QN,kidx,if_pos h0]
 | (k',v)::L,n=>by
  simp only[List.map_cons,Qu,QN,heq,kidx];by_cases hk:k=k'
  ·simp [hk]
  ·simp only[decide_eq_false hk,if_neg hk,Xz heq h0 L (n+1)];cases kidx k L<;>rfl
theorem XA {κ:Type} [DecidableEq κ] {k:κ}:∀ {L:List (κ × V)} {j:Nat},kidx k L=some j→∃ v,L[j]?=some (k,v)
 | [],_,h=>by cases h
 | (k',v)::L,j,h=>by
  simp only[kidx] at h;split at h
  ·rename_i hk;cases h;subst hk;exact⟨v,rfl⟩
  ·obtain⟨i,h1,rfl⟩:=Option.map_eq_some_iff.1 h;obtain⟨w,h2⟩:=XA h1
   exact⟨w,by simpa using h2⟩
def encL {κ:Type} (enc:κ→V) (L:List (κ × V)):List (V × V):=L.map fun p=>(enc p.1,p.2)
def menL {κ:Type} [DecidableEq κ] (k:κ) (z:V) (L:List (κ × V)):List (κ × V):=match kidx k L with
 | some _=>L
 | none=>L++[(k,z)]
def menI {κ:Type} [DecidableEq κ] (k:κ) (L:List (κ × V)):Nat:=match kidx k L with
 | some j=>j
 | none=>L.length
def menV {κ:Type} [DecidableEq κ] (k:κ) (z:V) (L:List (κ × V)):V:=match kidx k L with
 | some j=>((L[j]?).map (·.2)).getD .jk
 | none=>z
def Qmp {κ:Type} {enc:κ→V} {L:List (κ × V)} {m x:Od} {k0:κ} {v0 v:V} (hm:m.ev e=.mp s) (hx:natV (x.ev e)=some j) (ho:o s=some (Z5 (encL enc L))) (hj:L[j]?=some (k0,v0)) (hy:y.ev e=v)
  (h:wpRU cl l K e (upd o s (some (Z5 (encL enc (L.set j (k0,v))))))):wpRU cl (⟨none,none,.est m x y,[]⟩::l) K e o:=by
 refine U_W ?_;have hjl:=(List.getElem?_eq_some_iff.1 hj).1;have hjl2:j < (encL enc L).length:=by simpa [encL] using hjl
 simp only[UW,hm,hx,ho,Z5,hy]
 refine⟨⟨(j,enc k0,v0),List.mem_of_getElem? (i:=j) (by rw[ZP];simp [encL,hj]),rfl⟩,?_⟩
 have e1:encL enc (L.set j (k0,v))=(encL enc L).set j (enc k0,v):=by simp [encL,List.map_set]
 rw[e1] at h;simp only[Z5,Kp _ _ _ _ _ hjl2,List.length_set,Nat.zero_add] at h;have e2:((Qu 0 (encL enc L)).map fun x=>if x.1=j then (x.1,x.2.1,v) else x)=(Qu 0 (encL enc L)).set j (j,enc k0,v):=by
  apply List.ext_getElem?;intro i;rw[List.getElem?_map,List.getElem?_set,ZP];by_cases hij:j=i
  ·subst hij;rw[if_pos rfl,if_pos (by rw[X0];exact hjl2)]
   have:(encL enc L)[j]?=some (enc k0,v0):=by simp [encL,hj]
   rw[this];simp
  ·rw[if_neg hij];cases hi:(encL enc L)[i]? with
   | none=>rfl
   | some p=>simp [Ne.symm hij]
 rw[e2];exact h
def Qmk {m:Od} {L:List (V × V)} (hm:m.ev e=.mp s) (ho:o s=some (Z5 L)) (hn:(s==d)=false) (h:wpRU cl l K (upd (swpE d e) d (.it d)) (upd (swpO d o) d (some (.iter (some s) L.length [] L.length)))):wpRU cl (⟨some d,none,.rng m,[]⟩::l) K e o:=by
 refine U_W ?_;simp only[UW,hm,ho,Z5]
 exact⟨hn,h⟩
def QmA {x:Od} {mid:Nat} {L:List (V × V)} {seen:List Nat} (hx:x.ev e=.it s) (ho:o s=some (.iter (some mid) L.length seen L.length)) (hom:o mid=some (Z5 L))
  (h1:(∀ j,j < L.length→j∈seen)→wpRU cl l K (upd e d (.tp [.bo false])) o)
  (h2:∀ j k v,L[j]?=some (k,v)→j ∉ seen→wpRU cl l K (upd e d (.tp [.bo true,k,v])) (upd o s (some (.iter (some mid) L.length (seen++[j]) L.length)))):wpRU cl (⟨some d,none,.nxt x,[]⟩::l) K e o:=by
 refine U_W ?_;simp only[UW,hx,ho,hom,Z5]
 refine⟨?_,fun hall=>h1 fun j hj=>?_,fun p hp hns=>?_⟩
 ·cases hL:L with
  | nil=>exact .inr (.inl rfl)
  | cons p L=>exact .inr (.inr ⟨(0,p.1,p.2),by simp [Qu],SM⟩)
 ·have:(Qu 0 L)[j]?=some (j,(L[j]).1,(L[j]).2):=by rw[ZP];simp [hj]
  have:=hall _ (List.mem_of_getElem? this) hj
  exact this
 ·obtain⟨j,e1,e2⟩:=Km hp;rw[Nat.zero_add] at e1;rw[e1] at hns ⊢;exact h2 j _ _ e2 hns
def Qmz {d:Option Nat} {x:Od} {off q:Nat} (hx:x.ev e=.rw s z.length off len) (ho:o s=some (.row q es)) (hle:off+len≤es.length) (hes:es.take off++List.replicate len z++es.drop (off+len)=es')
  (h:wpRU cl l K (put e d (.tp [])) (upd o s (some (.row q es')))):wpRU cl (⟨d,none,.clr z x,[]⟩::l) K e o:=by
 refine U_W ?_;subst hes;simp only[UW,hx,ho]
 exact⟨trivial,hle,h⟩
def Qjn {x:Od} {i q:Nat} (hx:x.ev e=.ra s i j len) (hs:src o (y.ev e)=some ys) (hsz:∀ c∈ys,c.length=1) (ho:o s=some (.row q es)) (hc:es[i]?=some cs) (hle:j+len≤cs.length) (hn:min ys.length len=n) (hes:es.set i (splice j (ys.take len).flatten cs)=es')
  (h:wpRU cl l K (upd e d (.i .i64 n)) (upd o s (some (.row q es')))):wpRU cl (⟨some d,none,.cpy 1 x y,[]⟩::l) K e o:=by
 refine U_W ?_;subst hn;subst hes;simp only[UW,hs,hx,ho,hc]
 exact⟨hsz,trivial,hle,h⟩
end
def GenE (N':List Nat) (A':List (Nat × Ob)) (r:V) (St:List Nat) (v:V) (o:O):Prop :=
 ∃ (N0:List Nat) (A0:List (Nat × Ob)) (f:Nat→Nat),ren f v=r∧N0.map f=N'∧(A0.map fun p=>(f p.1,Qj f p.2))=A'∧(∀ p∈A0,o p.1=some p.2)∧(∀ s∈domA A0,s∈N0)∧rfI N0 v=true∧(A0.all fun p=>rfOb N0 p.2)=true∧∀ s∈St,s∈domA A0∧f s=s
open Classical in
def Qme {F:En} (hf:F g=some fn) (hk:ckC fn.body=true) (hl:vs.length=fn.np) (hn':N'.Nodup) (hSt:∀ s∈St,1000000≤s)
  (h:wpU false (Call F) fn.body (endX fn.res fun v o=>GenE N' A' r St v o) (ini vs) (ofA A)):GenC (Call F) g vs N A r N' A' St:=by
 intro m xs o K hv hS hdom hK;refine U_fn hf hk (gh:=false) (b:=fun i=>if ∃ s,m s=some i then none else o i) (fun h=>by cases h) hl hv hS (fun i x hi=>?_) h ?_
 ·dsimp only at hi;split at hi
  ·cases hi
  ·rename_i hno;exact⟨hi,fun s hs=>hno ⟨s,hs⟩⟩
 ·rintro m1 v o1 v' o1' ⟨N0,A0,f,rfl,rfl,rfl,hA0,hA0N,hr,hao,hst⟩ hvv hS1 hF1 hPin
  let mR:Nm:=fun t=>if h:∃ s∈N0,f s=t then m1 h.choose else none
  have c1:∀ s∈N0,mR (f s)=m1 s:=fun s hs=>by
   have h:∃ u∈N0,f u=f s:=⟨s,hs,rfl⟩;simp only[mR,dif_pos h];rw[Y9 hn' h.choose_spec.1 hs h.choose_spec.2]
  have c2:∀ t id,mR t=some id→∃ s∈N0,f s=t∧m1 s=some id:=fun t id h=>by
   simp only[mR] at h;split at h
   ·rename_i hh;exact⟨hh.choose,hh.choose_spec.1,hh.choose_spec.2,h⟩
   ·cases h
  have hpush:∀ s id,N0.contains s=true→m1 s=some id→mR (f s)=some id:=fun s id hs h=>by rw[c1 s (by simpa using hs)];exact h
  refine hK mR v' o1' (hvv.push N0 hpush hr) ⟨fun s t id a c=>?_,fun s id a=>?_,fun s x hx=>?_⟩ (fun s hs=>?_) (fun s id h=>?_) fun i x hi hno=>?_
  ·obtain⟨u,hu,rfl,a2⟩:=c2 s id a;obtain⟨w,hw,rfl,b2⟩:=c2 t id c;rw[hS1.inj u w id a2 b2]
  ·obtain⟨u,hu,rfl,a2⟩:=c2 s id a;exact hS1.live u id a2
  ·obtain⟨p,hp,hpe⟩:=List.mem_map.1 (QcG hx);cases hpe;obtain⟨id,y,g1,g2,g3⟩:=hS1.ob p.1 p.2 (hA0 p hp)
   exact⟨id,y,by rw[c1 p.1 (hA0N _ (YA.2 ⟨_,hp⟩))];exact g1,g2,g3.push N0 hpush (List.all_eq_true.1 hao p hp)⟩
  ·obtain⟨h1,h2⟩:=hst s hs;have h3:=c1 s (hA0N s h1);rw[h2] at h3;rw[h3];obtain⟨x,hx⟩:=YA.1 h1;obtain⟨id,y,g1,_,_⟩:=hS1.ob s x (hA0 _ hx);rcases hPin s (hSt s hs) with hh|hh
   ·exact hh
   ·rw[hh] at g1;cases g1
  ·obtain⟨u,hu,rfl,_⟩:=c2 s id h;exact List.mem_map.2 ⟨u,hu,rfl⟩
  ·have hb:(if ∃ s,m s=some i then none else o i)=some x:=by
    rw[if_neg (fun ⟨s,hs⟩=>hno s hs)];exact hi
   obtain⟨g1,g2⟩:=hF1 i x hb
   refine⟨g1,fun s hs=>?_⟩
   obtain⟨u,_,_,a2⟩:=c2 s i hs;exact g2 u a2
mutual
theorem Qbs:∀ (v:V),ren (fun s=>s) v=v
 | .ag cs=>by rw[ren,Wm cs]
 | .tp cs=>by rw[ren,Wm cs]
 | .fn g cs=>by rw[ren,Wm cs]
 | .sl _=>by rw[ren]
 | .ip _ _=>by rw[ren]
 | .rw _ _ _ _=>by rw[ren]
 | .ra _ _ _ _=>by rw[ren]
 | .pt _ _ _=>by rw[ren]
 | .mp _=>by rw[ren]
 | .it _=>by rw[ren]
 | .jk=>by rw[ren]
 | .bo _=>by rw[ren]
 | .i _ _=>by rw[ren]
 | .s _=>by rw[ren]
 | .nil=>by rw[ren]
 | .np=>by rw[ren]
 | .nf=>by rw[ren]
 | .nm=>by rw[ren]
theorem Wm:∀ (vs:List V),renL (fun s=>s) vs=vs
 | []=>by rw[renL]
 | v::vs=>by rw[renL,Qbs v,Wm vs]
end
def WM (x:Ob):Qj (fun s=>s) x=x:=by
 have h1:renL (fun s=>s)=id:=by funext c;exact Wm c
 cases x with
 | row sz es=>simp [Qj,h1]
 | map ents clock=>simp [Qj,Qbs]
 | iter mp a b c=>simp [Qj]
def GenE.of {v:V} (hv:v=r) (hA:∀ p∈A',o p.1=some p.2) (hN:∀ s∈domA A',s∈N') (hr:rfI N' r=true) (hao:(A'.all fun p=>rfOb N' p.2)=true) (hst:∀ s∈St,s∈domA A'):GenE N' A' r St v o :=
 ⟨N',A',fun s=>s,by rw[Qbs,hv],SM,by simp [WM],hA,hN,by rw[hv];exact hr,hao,fun s hs=>⟨hst s hs,rfl⟩⟩
def Ji:List (Nat × Nat × List (List V))→List (Nat × Ob)
 | []=>[]
 | (s,sz,L)::l=>if L=[] then Ji l else (s,.row sz L)::Ji l
theorem ZE:∀ {l:List (Nat × Nat × List (List V))} {p:Nat × Ob},p∈Ji l→∃ q∈l,q.2.2≠[]∧p=(q.1,.row q.2.1 q.2.2)
 | [],_,h=>by cases h
 | (s,sz,L)::l,p,h=>by
  simp only[Ji] at h;split at h
  ·obtain⟨q,h1,h2⟩:=ZE h;exact⟨q,by simp [h1],h2⟩
  ·rename_i hL;rcases List.mem_cons.1 h with rfl|h
   ·exact⟨(s,sz,L),SM,hL,rfl⟩
   ·obtain⟨q,h1,h2⟩:=ZE h;exact⟨q,by simp [h1],h2⟩
theorem Yw:∀ {l:List (Nat × Nat × List (List V))} {q:Nat × Nat × List (List V)},q∈l→q.2.2≠[]→(q.1,Ob.row q.2.1 q.2.2)∈Ji l
 | [],_,h,_=>by cases h
 | (s,sz,L)::l,q,h,hq=>by
  simp only[Ji];rcases List.mem_cons.1 h with rfl|h
  ·rw[if_neg hq];exact List.mem_cons_self
  ·split
   ·exact Yw h hq
   ·exact List.mem_cons_of_mem _ (Yw h hq)
def QY (f:Nat→Nat) (s sz:Nat) (L:List (List V)):ren f (ownV s sz L)=ownV (f s) sz L:=by
 unfold ownV;split<;>rw[ren]
def Qha (D:List Nat) (s sz:Nat) (L:List (List V)) (h:D.contains s=true):rfI D (ownV s sz L)=true:=by
 unfold ownV;split<;>rw[rfI];exact h
def Qdq (e:E) (t:Nat):Zx [] e t=e t:=rfl
def Qbe (d:Nat) (D:List Nat) (e:E) (t:Nat):Zx (d::D) e t=Zx D (swpE d e) t:=rfl
def QcY (o:O) (t:Nat):ZH [] o t=o t:=rfl
def QaW (d:Nat) (D:List Nat) (o:O) (t:Nat):ZH (d::D) o t=ZH D (swpO d o) t:=rfl
def Qg3 (s t:Nat) (e:E) (r:Nat):renE s t e r=ren (tof s t) (swp t (e r)):=rfl
def Qc5 (d:Nat) (L:List (V × V)) (h:∀ p∈L,swp d p.1=p.1∧swp d p.2=p.2):Qy d (Z5 L)=some (Z5 L):=by
 have:∀ (L:List (V × V)) (n:Nat),(∀ p∈L,swp d p.1=p.1∧swp d p.2=p.2)→((Qu n L).map fun x=>(x.1,swp d x.2.1,swp d x.2.2))=Qu n L:=by
  intro L;induction L with
  | nil=>intro n _;rfl
  | cons p L ih =>
   intro n h;obtain⟨k,v⟩:=p;simp only[Qu,List.map_cons,ih (n+1) fun q hq=>h q (by simp [hq]),(h (k,v) SM).1,(h (k,v) SM).2]
 simp only[Z5,Qy,this L 0 h]
attribute [go_sem] ren renL Qj QY tof Qdq Qbe QcY QaW putA ofA domA Qg3 rfI rfL rfOb
end Go.Proofs.YtklbhcjmaeedhaaGreatDoor

namespace Go.Proofs.YtklbhcjmaeedhaaGreatDoor
set_option linter.all false
variable {K:E→O→Prop} {l:List Stp} {a b:C} {q ag p neg gh:Bool} {f f':Nat→Nat} {j d sz n s g t k h nm byt len:Nat} {i:I} {x r u w:V} {cs z vs ws ds xs pre post:List V} {y:Od} {es fs L L' es' ys:List (List V)} {as:List Od} {α:Type} {cl:Qg} {e e' e1:E} {o o' o1:O} {fn:Fn} {ks:List Lf} {D N St N' bs:List Nat} {K':V→O→Prop} {res:V→V} {A A' base base':List (Nat × Ob)} {ps:List (Nat × Od)} {m m1 m0:Nm}
abbrev Ow:=Nat × Nat × List (List V)
variable {owns owns' os:List Ow}
def stOf (bs:List Nat) (os:List Ow):List Nat:=bs++domA (Ji os)
def obs (base:List (Nat × Ob)) (owns:List Ow):List (Nat × Ob):=base++Ji owns
def GenO (cl:Qg) (g:Nat) (vs:List V) (base:List (Nat × Ob)) (owns:List Ow) (r:V) (base':List (Nat × Ob)) (owns':List Ow) (bs:List Nat) (os:List Ow):Prop :=
 GenC cl g vs (domA (obs base owns)) (obs base owns) r (domA (obs base' owns')) (obs base' owns') (stOf bs os)
def GenOI (cl:Qg) (g:Nat) (vs:List V) (base:List (Nat × Ob)) (owns:List Ow) {ι:Type} (P:ι→Prop) (r:ι→V) (base':ι→List (Nat × Ob)) (owns':ι→List Ow) (bs:List Nat) (os:List Ow):Prop :=
 GenI cl g vs (domA (obs base owns)) (obs base owns) P r (fun i=>domA (obs (base' i) (owns' i))) (fun i=>obs (base' i) (owns' i)) (stOf bs os)
def Zf (base:List (Nat × Ob)) (owns:List Ow):domA (obs base owns)=domA base++domA (Ji owns):=by simp [domA,obs]
theorem Xk:∀ (owns:List Ow),(domA (Ji owns)).Sublist (owns.map (·.1))
 | []=>List.Sublist.slnil
 | (s,sz,L)::l=>by
  simp only[Ji,List.map_cons];split
  ·exact List.Sublist.cons _ (Xk l)
  ·exact List.Sublist.cons_cons _ (Xk l)
def Z7 (base:List (Nat × Ob)) (owns:List Ow):(domA (obs base owns)).Sublist (domA base++owns.map (·.1)):=by
 rw[Zf];exact List.Sublist.append (List.Sublist.refl _) (Xk owns)
def QE:s∈domA (Ji owns)↔∃ q∈owns,q.2.2≠[]∧q.1=s:=by
 constructor
 ·intro h;obtain⟨x,hx⟩:=YA.1 h;obtain⟨q,h1,h2,h3⟩:=ZE hx;cases h3
  exact⟨q,h1,h2,rfl⟩
 ·rintro⟨q,h1,h2,rfl⟩
  exact YA.2 ⟨_,Yw h1 h2⟩
def Zm (h:(s,sz,L)∈owns):rfI (domA (obs base owns)) (ownV s sz L)=true:=by
 unfold ownV;split
 ·rw[rfI]
 ·rename_i hL;rw[rfI,List.contains_eq_mem,decide_eq_true_eq,Zf];exact List.mem_append_right _ (QE.2 ⟨_,h,hL,rfl⟩)
def JA (h:s∈domA base):(domA (obs base owns)).contains s=true:=by
 rw[List.contains_eq_mem,decide_eq_true_eq,Zf];exact List.mem_append_left _ h
def YD (h:QQ L=true):rfOb D (.row sz L)=true:=by
 simp only[rfOb,List.all_eq_true];exact fun c hc=>Xv D c ((QW L).1 h c hc)
def Q2 (h:QQ L=true):Qj f (.row sz L)=.row sz L:=by
 simp only[Qj];congr 1;conv=>rhs;rw[← List.map_id L]
 exact List.map_congr_left fun c hc=>JY f c ((QW L).1 h c hc)
def Q1 (hn:((domA base++owns.map (·.1)).map f).Nodup) (hn':((domA base'++owns'.map (·.1)).map f').Nodup) (hn0:(domA base'++owns'.map (·.1)).Nodup) (hv:rfL (domA (obs base owns)) vs=true) (hb:(base.all fun p=>rfOb (domA (obs base owns)) p.2)=true) (hr:rfI (domA (obs base' owns')) r=true) (hb':(base'.all fun p=>rfOb (domA (obs base' owns')) p.2)=true)
  (hc:∀ q∈owns,QQ q.2.2=true) (hc':∀ q∈owns',QQ q.2.2=true)
  (hbs:∀ s∈bs,s∈domA base∧s∈domA base'∧f' s=f s∧f s ∉ D) (hos:∀ q∈os,q∈owns∧q∈owns'∧f' q.1=f q.1∧f q.1 ∉ D)
  (hD:∀ s∈domA base,s∈bs∨f s∈D) (hD2:∀ q∈owns,q∈os∨f q.1∈D) (hD':∀ s∈domA base',s∈bs∨(f' s∈D∧f' s < 1000000)) (hD2':∀ q∈owns',q∈os∨(f' q.1∈D∧f' q.1 < 1000000)) :
  GenK vs (domA (obs base owns)) (obs base owns) r (domA (obs base' owns')) (obs base' owns') (stOf bs os) f f' D:=by
 have own:∀ {B:List (Nat × Ob)} {O:List Ow},(∀ q∈O,QQ q.2.2=true)→(B.all fun p=>rfOb (domA (obs B O)) p.2)=true→((obs B O).all fun p=>rfOb (domA (obs B O)) p.2)=true:=fun {B O} h1 h2=>by
  rw[show (obs B O)=B++Ji O from rfl,List.all_append,Bool.and_eq_true]
  refine⟨h2,List.all_eq_true.2 fun p hp=>?_⟩
  obtain⟨q,g1,g2,rfl⟩:=ZE hp;exact YD (h1 q g1)
 have inst:∀ s,s∈bs∨(∃ q∈os,q.2.2≠[]∧q.1=s)→s∈stOf bs os:=fun s h=>by
  rcases h with h|h
  ·exact List.mem_append_left _ h
  ·exact List.mem_append_right _ (QE.2 h)
 refine⟨((Z7 base owns).map f).nodup hn,((Z7 base' owns').map f').nodup hn',hv,fun s h=>h,fun s h=>h,(Z7 base' owns').nodup hn0,own hc hb,hr,own hc' hb',fun s hs=>?_,fun s hs=>?_,fun s hs=>?_,fun s hs=>?_⟩
 ·rcases List.mem_append.1 hs with hs|hs
  ·obtain⟨a,b,c,d⟩:=hbs s hs
   exact⟨by rw[Zf];exact List.mem_append_left _ a,by rw[Zf];exact List.mem_append_left _ b,c,d⟩
  ·obtain⟨q,h1,h2,rfl⟩:=QE.1 hs;obtain⟨a,b,c,d⟩:=hos q h1
   exact⟨by rw[Zf];exact List.mem_append_right _ (QE.2 ⟨q,a,h2,rfl⟩),by rw[Zf];exact List.mem_append_right _ (QE.2 ⟨q,b,h2,rfl⟩),c,d⟩
 ·rw[Zf] at hs;rcases List.mem_append.1 hs with hs|hs
  ·rcases hD' s hs with h|h
   ·exact .inl (inst s (.inl h))
   ·exact .inr h.2
  ·obtain⟨q,h1,h2,rfl⟩:=QE.1 hs;rcases hD2' q h1 with h|h
   ·exact .inl (inst _ (.inr ⟨q,h,h2,rfl⟩))
   ·exact .inr h.2
 ·rw[Zf] at hs;rcases List.mem_append.1 hs with hs|hs
  ·rcases hD s hs with h|h
   ·exact .inl (inst s (.inl h))
   ·exact .inr h
  ·obtain⟨q,h1,h2,rfl⟩:=QE.1 hs;rcases hD2 q h1 with h|h
   ·exact .inl (inst _ (.inr ⟨q,h,h2,rfl⟩))
   ·exact .inr h
 ·rw[Zf] at hs;rcases List.mem_append.1 hs with hs|hs
  ·rcases hD' s hs with h|h
   ·exact .inl (inst s (.inl h))
   ·exact .inr h.1
  ·obtain⟨q,h1,h2,rfl⟩:=QE.1 hs;rcases hD2' q h1 with h|h
   ·exact .inl (inst _ (.inr ⟨q,h,h2,rfl⟩))
   ·exact .inr h.1
section
variable {cl:Qg} {e:E} {o:O}
def Yp {d:Option Nat} (f f':Nat→Nat) (D:List Nat) (hgen:GenO cl g vs base owns r base' owns' bs os) (hargs:as.map (Od.ev e)=renL f vs)
  (hA:∀ p∈base,o (f p.1)=some (Qj f p.2)) (hO:∀ q∈owns,q.2.2≠[]→o (f q.1)=some (.row q.2.1 q.2.2)) (hG:GenK vs (domA (obs base owns)) (obs base owns) r (domA (obs base' owns')) (obs base' owns') (stOf bs os) f f' D) (hc:∀ q∈owns,QQ q.2.2=true) (hc':∀ q∈owns',QQ q.2.2=true)
  (h:∀ o1,(∀ p∈base',o1 (f' p.1)=some (Qj f' p.2))→(∀ q∈owns',q.2.2≠[]→o1 (f' q.1)=some (.row q.2.1 q.2.2))→(∀ t,(∀ s∈domA base'++owns'.map (·.1),f' s≠t)→o1 t=ZH D o t)→wpRU cl l K (put (Zx D e) d (ren f' r)) o1):wpRU cl (⟨d,none,.nc g as,[]⟩::l) K e o:=by
 refine Qm1 f f' D hgen hargs (fun p hp=>?_) hG fun o1 h1 h2=>h o1 (fun p hp=>h1 p (List.mem_append_left _ hp)) (fun q hq hL=>?_) fun t ht=>h2 t fun s hs=>ht s ((Z7 base' owns').subset hs)
 ·rcases List.mem_append.1 hp with hp|hp
  ·exact hA p hp
  ·obtain⟨q,g1,g2,rfl⟩:=ZE hp;rw[Q2 (hc q g1)];exact hO q g1 g2
 ·have:=h1 _ (List.mem_append_right _ (Yw hq hL))
  rw[Q2 (hc' q hq)] at this;exact this
end
def Zg {v:V} (base0:List (Nat × Ob)) (owns0:List Ow) (f:Nat→Nat) (hv:ren f v=r) (hb:(base0.map fun p=>(f p.1,Qj f p.2))=base') (ho:(owns0.map fun q=>(f q.1,q.2.1,q.2.2))=owns') (hc:∀ q∈owns0,QQ q.2.2=true)
  (h1:∀ p∈base0,o p.1=some p.2) (h2:∀ q∈owns0,q.2.2≠[]→o q.1=some (.row q.2.1 q.2.2)) (hr:rfI (domA (obs base0 owns0)) v=true) (hao:(base0.all fun p=>rfOb (domA (obs base0 owns0)) p.2)=true) (hbs:∀ s∈bs,s∈domA base0∧f s=s) (hos:∀ q∈os,q∈owns0∧f q.1=q.1) :
  GenE (domA (obs base' owns')) (obs base' owns') r (stOf bs os) v o:=by
 have hmap:((obs base0 owns0).map fun p=>(f p.1,Qj f p.2))=obs base' owns':=by
  subst hb;subst ho;simp only[obs,List.map_append];congr 1;clear h1 h2 hr hao hbs hos;induction owns0 with
  | nil=>rfl
  | cons q l ih =>
   obtain⟨s,sz,L⟩:=q;simp only[Ji,List.map_cons];split
   ·exact ih fun q hq=>hc q (by simp [hq])
   ·rw[List.map_cons,ih fun q hq=>hc q (by simp [hq]),Q2 (hc (s,sz,L) SM)]
 refine⟨domA (obs base0 owns0),obs base0 owns0,f,hv,?_,hmap,fun p hp=>?_,fun s hs=>hs,hr,?_,fun s hs=>?_⟩
 ·rw[← hmap];simp [domA]
 ·rcases List.mem_append.1 hp with hp|hp
  ·exact h1 p hp
  ·obtain⟨q,g1,g2,rfl⟩:=ZE hp;exact h2 q g1 g2
 ·rw[show (obs base0 owns0)=base0++Ji owns0 from rfl,List.all_append,Bool.and_eq_true]
  refine⟨hao,List.all_eq_true.2 fun p hp=>?_⟩
  obtain⟨q,g1,g2,rfl⟩:=ZE hp;exact YD (hc q g1)
 ·rcases List.mem_append.1 hs with hs|hs
  ·obtain⟨a,b⟩:=hbs s hs
   exact⟨by rw[Zf];exact List.mem_append_left _ a,b⟩
  ·obtain⟨q,g1,g2,rfl⟩:=QE.1 hs;obtain⟨a,b⟩:=hos q g1
   exact⟨by rw[Zf];exact List.mem_append_right _ (QE.2 ⟨q,a,g2,rfl⟩),b⟩
def YS {F:En} (hf:F g=some fn) (hk:ckC fn.body=true) (hl:vs.length=fn.np) (hn':(domA base'++owns'.map (·.1)).Nodup) (hbs:∀ s∈bs,1000000≤s) (hos:∀ q∈os,1000000≤q.1)
  (hn:(domA base++owns.map (·.1)).Nodup)
  (h:∀ o,(∀ p∈base,o p.1=some p.2)→(∀ q∈owns,q.2.2≠[]→o q.1=some (.row q.2.1 q.2.2))→wpU false (Call F) fn.body (endX fn.res fun v o=>GenE (domA (obs base' owns')) (obs base' owns') r (stOf bs os) v o) (ini vs) o):GenO (Call F) g vs base owns r base' owns' bs os:=by
 refine Qme hf hk hl ((Z7 base' owns').nodup hn') (fun s hs=>?_) (h _ (fun p hp=>?_) fun q hq hL=>?_)
 ·rcases List.mem_append.1 hs with hs|hs
  ·exact hbs s hs
  ·obtain⟨q,g1,_,rfl⟩:=QE.1 hs;exact hos q g1
 ·exact Qda ((Z7 base owns).nodup hn) (List.mem_append_left _ hp)
 ·exact Qda ((Z7 base owns).nodup hn) (List.mem_append_right _ (Yw hq hL))
def QP {enc:α→List V} (h:∀ x,cldL (enc x)=true) (l:List α):QQ (l.map enc)=true :=
 (QW _).2 fun c hc=>by obtain⟨x,_,rfl⟩:=List.mem_map.1 hc;exact h x
def DP {enc:α→List V} (h:∀ x,Zc (enc x)=true) (d:Nat) (l:List α):swpR d (l.map enc)=l.map enc :=
 Q4 d (by rw[List.all_eq_true];intro c hc;obtain⟨x,_,rfl⟩:=List.mem_map.1 hc;exact h x)
def QC {enc:α→List V} {l:List α} (h:l≠[]):ownV s sz (l.map enc)=.rw s sz 0 l.length:=by
 rw[ownV,if_neg (by simpa using h),List.length_map]
end Go.Proofs.YtklbhcjmaeedhaaGreatDoor
