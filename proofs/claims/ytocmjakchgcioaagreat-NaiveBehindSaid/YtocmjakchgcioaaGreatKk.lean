import Derived.Test.YtocmjakchgcioaaGreatKt

namespace Go.Proofs.YtocmjakchgcioaaGreat
set_option linter.all false
variable {s n:Nat} {o:O} {p:Nd} {k:Int}
def QeN (n:Nd):Q9 (cel n)=true:=by cases n;rfl
def V2 (d:Nat) (n:Nd):swpL d (cel n)=cel n:=Kv d (QeN n)
def Qg6 (n:Nd):okf FZ (.ag (cel n))=true:=by cases n;rfl
def Qdv (n:Nd):clo FZ (.ag (cel n))=true:=by cases n;rfl
mutual
theorem VC:∀ (n:Nd),cldL (cel n)=true
 | .mk k s ps lo hi=>by
  have:=KJ ps
  simp [cel,nd8,cldL,cld,this]
theorem KJ:∀ (ps:List Nd),QG (cels ps)=true
 | []=>rfl
 | p::ps=>by rw[cels,QG,VC p,KJ ps];rfl
end
def W4 (ps:List Nd):QG (ps.map cel)=true:=by rw[← V6];exact KJ ps
def Qgm (n:Nd):(cel n).take 8=cel n:=List.take_of_length_le (by rw[Qz];omega)
def QaM (n:Nd) (a b c d e f g h:V):splice 0 (cel n) [a,b,c,d,e,f,g,h]=cel n:=J3 (by rw[Qz];rfl)
attribute [go_sem] V2 Qg6 Qdv VC W4 Qz Qgm QaM List.drop_zero
def nat0 (n:Nat):((n:Int)==0)=(n==0):=by cases n<;>rfl
def Ki (s:Nat→Nat):Pu F 57 [.ag (u4 s)] (.bo (QC s)):=VT s emp _ (fun _=>rfl)
mutual
def QP:Nd→Bool
 | .mk k s ps lo _ =>
  if k=1 then QC s
  else if k=2 then JM ps
  else if k=3 then W7 ps
  else if k=4 then decide (0 < lo)&&QcJ ps
  else false
def JM:List Nd→Bool
 | []=>false
 | p::ps=>QP p||JM ps
def W7:List Nd→Bool
 | []=>true
 | p::ps=>QP p&&W7 ps
def QcJ:List Nd→Bool
 | []=>false
 | p::_=>QP p
end
def Jf (ps:List Nd):JM ps=ps.any QP:=by induction ps with
 | nil=>rfl
 | cons p ps ih=>simp [JM,ih]
def WN (ps:List Nd):W7 ps=ps.all QP:=by induction ps with
 | nil=>rfl
 | cons p ps ih=>simp [W7,ih]
def Kq (ps:List Nd) (hl:ps.length < 9223372036854775808) (g:Nat) (p:Nd→Bool) (h:∀ x∈ps,Pu F g [.ag (cel x)] (.bo (p x))):Pu F 113 [.sl (ps.map cel),.fn g []] (.bo (ps.any p)) :=
 VI cel Qz ps hl g [] rfl p (fun x hx=>⟨[.ag (cel x)],fun o=>Y7 (by simp [FZ,okd,JS]),h x hx⟩) emp _ (fun _=>rfl)
def HK {s:Nat→Nat} {lo hi:Int} (h:Qu 4 s n lo hi=true):n=1∧0≤lo∧lo≤2147483647∧(hi = -1∨lo≤hi∧hi≤2147483647):=by
 simp [Qu] at h;omega
set_option maxHeartbeats 1000000 in
theorem KD:∀ (n:Nd),ZB n→Qm n=true→Pu F 115 [.ag (cel n)] (.bo (QP n))
 | .mk k s ps lo hi,hs,hf=>by
  have hf2:Qu k s ps.length lo hi=true∧ps.all Qm=true:=by
   rw[Qm,Bool.and_eq_true,Zt] at hf;exact hf
  have ih:∀ p∈ps,Pu F 115 [.ag (cel p)] (.bo (QP p)):=fun p hp=>KD p ((QX ps).1 hs.2.2 p hp) (List.all_eq_true.1 hf2.2 p hp);have ih2:∀ p∈ps,Pu F 135 [.ag (cel p)] (.bo (!QP p)):=fun p hp=>by
   refine Qe e135 rfl rfl (by simp only[go_sem,Bool.and_true]) ?_;dsimp only[Qjn,c135];(repeat' (first|refine RSN trivial ?_|((with_reducible refine PCN trivial (r:=.bo (QP p)) ?h ?_);case h=>exact (ih p hp))|with_reducible refine GBN trivial (fun _=>?_) (fun _=>?_)|with_reducible refine GDN trivial (fun _=>?_) (fun _=>?_)));rfl
  have hc1:=Kq ps hs.2.1 115 QP ih;have hc2:=Kq ps hs.2.1 135 (fun p=>!QP p) ih2;by_cases h4:k=4
  ·subst h4;obtain⟨hl1,_,_,_⟩:=HK hf2.1;obtain⟨p,rfl⟩:=List.length_eq_one_iff.1 hl1;have ihp:=ih p SM;refine Qe e115 rfl rfl (by simp only[go_sem,Bool.and_true]) ?_;dsimp only[QhB,c115];rw[QZ];(repeat' (first|refine RST nd8.eq_1 ?_|((with_reducible refine PCT nd8.eq_1 (r:=.bo (QP p)) ?h ?_);case h=>exact ihp)|with_reducible refine GBT nd8.eq_1 (fun _=>?_) (fun _=>?_)|with_reducible refine GDT nd8.eq_1 (fun _=>?_) (fun _=>?_)));all_goals (refine congrArg some (congrArg V.bo ?_);clear ih ih2 hc1 hc2 ihp hf hf2 hs;simp_all [QP,QcJ];try omega)
  ·refine Qe e115 rfl rfl (by simp only[go_sem,Bool.and_true]) ?_;dsimp only[QhB,c115];rw[QZ];(repeat' (first|refine RST nd8.eq_1 ?_|((with_reducible refine PCT nd8.eq_1 (r:=.bo (QC s)) ?h ?_);case h=>exact (Ki s))|((with_reducible refine PCT nd8.eq_1 (r:=.bo (ps.any QP)) ?h ?_);case h=>exact hc1)|((with_reducible refine PCT nd8.eq_1 (r:=.bo (ps.any fun p=>!QP p)) ?h ?_);case h=>exact hc2)|with_reducible refine GBT nd8.eq_1 (fun _=>?_) (fun _=>?_)|with_reducible refine GDT nd8.eq_1 (fun _=>?_) (fun _=>?_)));all_goals clear ih ih2 hc1 hc2 hf hf2 hs
   all_goals first
    | (refine congrArg some (congrArg V.bo ?_);simp_all [QP,Jf,WN];done)
    | (refine congrArg some (congrArg V.bo ?_);simp_all [QP,Jf,WN,List.all_eq_not_any_not];done)
    | (exfalso;simp_all;done)
termination_by n=>SizeOf.sizeOf n
decreasing_by
 have:=List.sizeOf_lt_of_mem hp
 simp;omega
mutual
def Zq:Nd→Bool
 | .mk k _ ps lo _ =>
  if k=1 then false
  else if k=2 then YS ps
  else if k=3 then YT ps
  else if k=4 then lo==0||DU ps
  else true
def YT:List Nd→Bool
 | []=>false
 | p::ps=>Zq p||YT ps
def YS:List Nd→Bool
 | []=>true
 | p::ps=>Zq p&&YS ps
def DU:List Nd→Bool
 | []=>false
 | p::_=>Zq p
end
def Xi (ps:List Nd):YT ps=ps.any Zq:=by induction ps with
 | nil=>rfl
 | cons p ps ih=>simp [YT,ih]
def WW (ps:List Nd):YS ps=ps.all Zq:=by induction ps with
 | nil=>rfl
 | cons p ps ih=>simp [YS,ih]
set_option maxHeartbeats 1000000 in
theorem Vh:∀ (n:Nd),ZB n→Qm n=true→Pu F 120 [.ag (cel n)] (.bo (Zq n))
 | .mk k s ps lo hi,hs,hf=>by
  have hf2:Qu k s ps.length lo hi=true∧ps.all Qm=true:=by
   rw[Qm,Bool.and_eq_true,Zt] at hf;exact hf
  have ih:∀ p∈ps,Pu F 120 [.ag (cel p)] (.bo (Zq p)):=fun p hp=>Vh p ((QX ps).1 hs.2.2 p hp) (List.all_eq_true.1 hf2.2 p hp);have ih2:∀ p∈ps,Pu F 138 [.ag (cel p)] (.bo (!Zq p)):=fun p hp=>by
   refine Qe e138 rfl rfl (by simp only[go_sem,Bool.and_true]) ?_;dsimp only[QjB,c138];(repeat' (first|refine RSN trivial ?_|((with_reducible refine PCN trivial (r:=.bo (Zq p)) ?h ?_);case h=>exact (ih p hp))|with_reducible refine GBN trivial (fun _=>?_) (fun _=>?_)|with_reducible refine GDN trivial (fun _=>?_) (fun _=>?_)));rfl
  have hc1:=Kq ps hs.2.1 120 Zq ih;have hc2:=Kq ps hs.2.1 138 (fun p=>!Zq p) ih2;by_cases h4:k=4
  ·subst h4;obtain⟨hl1,_,_,_⟩:=HK hf2.1;obtain⟨p,rfl⟩:=List.length_eq_one_iff.1 hl1;have ihp:=ih p SM;refine Qe e120 rfl rfl (by simp only[go_sem,Bool.and_true]) ?_;dsimp only[Qh9,c120];rw[QZ];(repeat' (first|refine RST nd8.eq_1 ?_|((with_reducible refine PCT nd8.eq_1 (r:=.bo (Zq p)) ?h ?_);case h=>exact ihp)|with_reducible refine GBT nd8.eq_1 (fun _=>?_) (fun _=>?_)|with_reducible refine GDT nd8.eq_1 (fun _=>?_) (fun _=>?_)));all_goals (refine congrArg some (congrArg V.bo ?_);clear ih ih2 hc1 hc2 ihp hf hf2 hs;simp_all [Zq,DU];try omega)
  ·refine Qe e120 rfl rfl (by simp only[go_sem,Bool.and_true]) ?_;dsimp only[Qh9,c120];rw[QZ];(repeat' (first|refine RST nd8.eq_1 ?_|((with_reducible refine PCT nd8.eq_1 (r:=.bo (ps.any Zq)) ?h ?_);case h=>exact hc1)|((with_reducible refine PCT nd8.eq_1 (r:=.bo (ps.any fun p=>!Zq p)) ?h ?_);case h=>exact hc2)|with_reducible refine GBT nd8.eq_1 (fun _=>?_) (fun _=>?_)|with_reducible refine GDT nd8.eq_1 (fun _=>?_) (fun _=>?_)));all_goals clear ih ih2 hc1 hc2 hf hf2 hs
   all_goals first
    | (refine congrArg some (congrArg V.bo ?_);simp_all [Zq,Xi,WW];done)
    | (refine congrArg some (congrArg V.bo ?_);simp_all [Zq,Xi,WW,List.all_eq_not_any_not];done)
    | (exfalso;simp_all;done)
termination_by n=>SizeOf.sizeOf n
decreasing_by
 have:=List.sizeOf_lt_of_mem hp
 simp;omega
def JB (p:Nd→Nd→Bool):List Nd→List Nd→Bool
 | x::xs,y::ys=>p x y&&JB p xs ys
 | _,_=>true
def Qao (p:Nd→Nd→Bool) (qs:List Nd):JB p [] qs=true:=by cases qs<;>rfl
def Qls (ps qs:List Nd) (hl:ps.length < 9223372036854775808) (g:Nat) (p:Nd→Nd→Bool) (h:∀ x∈ps,∀ y∈qs,Pu F g [.ag (cel x),.ag (cel y)] (.bo (p x y))) :
  Pu F 142 [.sl (ps.map cel),.sl (qs.map cel),.fn g []] (.bo (ps.length==qs.length&&JB p ps qs)):=by
 have hnn:((ps.length:Int) != (qs.length:Int))=!(ps.length==qs.length):=by
  rw[Bool.eq_iff_iff];simp;omega
 refine Qe e142 rfl rfl (by simp only[go_sem,Bool.and_true]) ?_;dsimp only[QkG,c142];(repeat' (first|refine RST hnn ?_|with_reducible refine GBT hnn (fun _=>?_) (fun _=>?_)|with_reducible refine GDT hnn (fun _=>?_) (fun _=>?_)))
 ·refine congrArg some (congrArg V.bo ?_);simp_all
 have hlen:ps.length=qs.length:=by simp_all
 refine U_lp (fun r e o=>∃ i:Nat,i+r=ps.length∧e 1=.sl (qs.map cel)∧e 2=.fn g []∧e 15=.sl (ps.map cel)∧e 16=.i .i64 ps.length∧e 17=.i .i64 i∧JB p ps qs=JB p (ps.drop i) (qs.drop i)) (k:=ps.length) ?_ (Qa F) ?_
 ·refine⟨0,OM,Z0,Z0,Z0,by simp only[List.length_map,go_sem],Zr0,rfl⟩
 rintro r e o ⟨i,hir,h1,h2,h15,h16,h17,hz⟩;dsimp only[QfC];refine RN (Ad2 h16 h17) ?_;refine Qh (q:=decide ((i:Int) < (ps.length:Int))) (Z0) (fun hc=>?_) (fun hc=>?_)
 ·have hi:i < ps.length:=by simpa using hc
  have hi2:i < qs.length:=by omega
  have hw1:IntKind.i64.wrap ((i:Int)+1)=((i+1:Nat):Int):=by rw[Qg OM OM];rfl
  have hp:(ps.map cel)[i]?=some (cel ps[i]):=by simp [hi]
  have hq:(qs.map cel)[i]?=some (cel qs[i]):=by simp [hi2]
  have hpos:(0:Int)≤(i:Int):=by omega
  have hcall:=h ps[i] (List.getElem_mem _) qs[i] (List.getElem_mem _);rw[List.drop_eq_getElem_cons hi,List.drop_eq_getElem_cons hi2,JB] at hz;refine RT (Ad4 h1 h2 h15 (Ad5 h16 h17 hpos hp hq)) ?_;refine U_pv (g:=g) (cs:=[]) (vs:=[.ag (cel ps[i]),.ag (cel qs[i])]) (ws:=[.ag (cel ps[i]),.ag (cel qs[i])]) (r:=.bo (p ps[i] qs[i])) (Z1 h2) (Zr0) (ZO (by simp only[List.all_cons,List.all_nil,Bool.and_true,go_sem])) (Bool.or_eq_true_iff.2 (.inr rfl)) rfl hcall ?_;refine RN trivial ?_;refine Qh (q:=!p ps[i] qs[i]) (Z0) (fun hc2=>?_) (fun hc2=>?_)
  ·refine RN trivial ?_;refine congrArg some (congrArg V.bo ?_);rw[hz];simp_all
  ·refine RN (Ad2 h17 hw1) ?_
   refine⟨r - 1,OM,i+1,OM,Z1 h1,Z1 h2,Z1 h15,Z1 h16,Z0,?_⟩
   rw[hz];simp_all
 ·have hi:i=ps.length:=by
   have:¬ i < ps.length:=by simpa using hc
   omega
  refine RN trivial ?_;refine congrArg some (congrArg V.bo ?_);rw[hz,hi,List.drop_length,Qao,hlen];simp
mutual
def Jc:Nd→Nd→Bool
 | .mk k s ps lo hi,.mk k' s' ps' lo' hi'=>k==k'&&(s 0==s' 0&&(s 1==s' 1&&(s 2==s' 2&&s 3==s' 3)))&&lo==lo'&&hi==hi'&&QdZ ps ps'
def QdZ:List Nd→List Nd→Bool
 | [],[]=>true
 | p::ps,q::qs=>Jc p q&&QdZ ps qs
 | _,_=>false
end
theorem HX:∀ (ps qs:List Nd),QdZ ps qs=(ps.length==qs.length&&JB Jc ps qs)
 | [],[]=>rfl
 | [],_::_=>rfl
 | _::_,[]=>rfl
 | p::ps,q::qs=>by
  rw[QdZ,HX ps qs,JB]
  have:(ps.length+1==qs.length+1)=(ps.length==qs.length):=by simp
  rw[List.length_cons,List.length_cons,this];cases Jc p q<;>cases (ps.length==qs.length)<;>rfl
set_option maxHeartbeats 1000000 in
theorem Qce:∀ (a b:Nd),ZB a→ZB b→Pu F 137 [.ag (cel a),.ag (cel b)] (.bo (Jc a b))
 | .mk k s ps lo hi,.mk k' s' ps' lo' hi',ha,hb=>by
  have ih:∀ p∈ps,∀ q∈ps',Pu F 137 [.ag (cel p),.ag (cel q)] (.bo (Jc p q)):=fun p hp q hq=>Qce p q ((QX ps).1 ha.2.2 p hp) ((QX ps').1 hb.2.2 q hq);have hE:=Qls ps ps' ha.2.1 137 Jc ih;have nn:∀ a b:Nat,((a:Int)==(b:Int))=(a==b):=fun a b=>by rw[Bool.eq_iff_iff];simp;omega
  refine Qe e137 rfl rfl (by simp only[go_sem,Bool.and_true]) ?_;dsimp only[QiT,c137];rw[QZ,QZ];(repeat' (first|(with_reducible (first|refine YA ?_|refine Yb ?_|refine YO ?_|refine Wj ?_|refine X_nx ?_|((first|refine U_q (v:=?_) ?h1 ?_|refine U_ld (v:=?_) ?h1 ?_|refine E_1 (v:=?_) ?h1 ?_|refine U_gt ?h1 ?_);case h1=>((try simp only[nd8,List.take_succ_cons,List.take_zero,List.drop_succ_cons,eqV,eqps,lfEq,nn,go_sem])<;>rfl))|(refine HH (cs:=?_) (cs':=?_) (n:=?_) ?h1 ?h2 ?h3 ?h4 ?_;case h1|h2|h3|h4=>((try simp only[nd8,List.take_succ_cons,List.take_zero,List.drop_succ_cons,eqV,eqps,lfEq,nn,go_sem])<;>rfl))|(refine Qay ?h1 ?_;case h1=>((try simp only[nd8,List.take_succ_cons,List.take_zero,List.drop_succ_cons,eqV,eqps,lfEq,nn,go_sem])<;>rfl))))|((with_reducible refine U_pc (g:=142) (r:=.bo (ps.length==ps'.length&&JB Jc ps ps')) (vs:=?_) (ws:=?_) ?h1 ?h2 ?h3 ?h4 ?h5 ?_);(case h1=>((try simp only[nd8,List.take_succ_cons,List.take_zero,List.drop_succ_cons,eqV,eqps,lfEq,nn,go_sem])<;>rfl));(case h2=>refine ZO ?_;first|rfl|simp only[List.all_cons,List.all_nil,Bool.and_true,go_sem]);(case h5=>exact hE);(case h3=>first|exact Bool.or_eq_true_iff.2 (.inr rfl)|(refine Bool.or_eq_true_iff.2 (.inl ?_);simp only[clos,List.all_cons,List.all_nil,Bool.and_true,go_sem]));(case h4=>first|rfl|simp only[go_sem,Bool.and_true]))|with_reducible (refine U_gb (q:=?_) ?h1 (fun _=>?_) (fun _=>?_);case h1=>((try simp only[nd8,List.take_succ_cons,List.take_zero,List.drop_succ_cons,eqV,eqps,lfEq,nn,go_sem])<;>rfl))|with_reducible (refine Qh (q:=?_) ?h1 (fun _=>?_) (fun _=>?_);case h1=>((try simp only[nd8,List.take_succ_cons,List.take_zero,List.drop_succ_cons,eqV,eqps,lfEq,nn,go_sem])<;>rfl))));all_goals clear ih hE ha hb nn
  all_goals (refine congrArg some (congrArg V.bo ?_);rw[Jc,HX];simp_all)
termination_by a=>SizeOf.sizeOf a
decreasing_by
 have:=List.sizeOf_lt_of_mem hp
 simp;omega
def zSet:Nat→Nat:=fun _=>0
def noN:Nd:=.mk 0 zSet [] 0 0
def oneN (k:Int):List Nd→Nd
 | []=>noN
 | [p]=>p
 | ps=>.mk k zSet ps 0 0
def Yq (o:O) (k:Int) (s:Nat→Nat) (ps:List Nd) (lo hi:Int) (x:V) (hx:frzU 23 o x=some (.sl (ps.map cel))):fzU o (.ag (nd8 k s x lo hi))=some (.ag (cel (.mk k s ps lo hi))):=by
 rw[QZ];unfold fzU FZ;show (([V.i .i64 k,.i .u64 (s 0),.i .u64 (s 1),.i .u64 (s 2),.i .u64 (s 3),x,.i .i64 lo,.i .i64 hi]).mapM (frzU 23 _)).map V.ag=_;simp only[List.mapM_cons,hx];rfl
def Jo (p:Nd) (lo hi:Int):Nd :=
 bif (hi==0) then noN else bif (p.kind==0) then noN else bif QP p then noN
 else bif (lo==1) then (bif (hi==1) then p else .mk 4 zSet [p] (bif Zq p then 0 else lo) hi)
 else .mk 4 zSet [p] (bif Zq p then 0 else lo) hi
def D0 (n:Nd) (j:Nat):∀ v∈cel n,okf (j+1) v=true:=by
 cases n;intro v hv;simp [cel,nd8] at hv;rcases hv with rfl|rfl|rfl|rfl|rfl|rfl|rfl|rfl<;>rfl
def QdI {l:List Nd} (h:o s=some (.row 8 (l.map cel))) (hn:l.length=n):frzU 23 o (.rw s 8 0 n)=some (.sl (l.map cel)):=by
 have hs:src o (.rw s 8 0 n)=some (l.map cel):=by
  simp only[src,h];rw[if_pos (by simp;omega)];simp [List.take_of_length_le,hn]
 have hm:((l.map cel).mapM fun c:List V=>c.mapM (frzU 22 o))=some (l.map cel):=ZK fun c hc v hv=>by
  obtain⟨p,_,rfl⟩:=List.mem_map.1 hc;exact Jy _ _ (D0 p 21 v hv)
 simp only[frzU,hs,hm];rfl
def Zu (p:Nd):(cel p)[0]?=some (.i .i64 p.kind):=by cases p;rfl
set_option maxHeartbeats 2000000 in
def QdN (p:Nd) (hp:ZB p) (hf:Qm p=true) (lo hi:Int):Pu F 118 [.ag (cel p),.i .i64 lo,.i .i64 hi] (.ag (cel (Jo p lo hi))):=by
 have hv:=KD p hp hf;have hn:=Vh p hp hf;refine Qe e118 rfl rfl (by simp only[go_sem,Bool.and_true]) ?_;dsimp only[Qjw,c118];(repeat' (first|(with_reducible (first|refine YA ?_|refine Yb ?_|refine YO ?_|refine X9 ?_|refine QaV ?_|refine Wj ?_|refine X_nx ?_|refine X_rt ?_|refine B_nx ?_|refine B_rt ?_|((first|refine U_q (v:=?_) ?h1 ?_|refine U_ld (v:=?_) ?h1 ?_|refine E_1 (v:=?_) ?h1 ?_|refine QcN (n:=?_) ?h1 ?_|refine U_gt ?h1 ?_|refine Wd ?h1 ?_);case h1=>((try simp only[Zu,go_sem])<;>rfl))|(refine HH (cs:=?_) (cs':=?_) (n:=?_) ?h1 ?h2 ?h3 ?h4 ?_;case h1|h2|h3|h4=>((try simp only[Zu,go_sem])<;>rfl))|(refine XC (id:=?_) (i:=?_) (j:=?_) (q:=?_) (es:=?_) (cs:=?_) (vs:=?_) (es':=?_) ?h1 ?h2 ?h3 ?h4 ?h5 ?h6 ?h7 ?_;case h1|h2|h3|h4|h5|h6|h7=>((try simp only[Zu,go_sem])<;>rfl))|(refine QbO (es:=?_) (es':=?_) ?h1 ?h2 ?h3 ?_;case h1|h2|h3=>((try simp only[Zu,go_sem])<;>rfl))|((first|refine Qb6 ?h1 ?_|refine Qay ?h1 ?_|refine X8 ?h1 ?_);case h1=>((try simp only[Zu,go_sem])<;>rfl))|rw[QS]))|((with_reducible refine U_pc (g:=115) (r:=.bo (QP p)) (vs:=?_) (ws:=?_) ?h1 ?h2 ?h3 ?h4 ?h5 ?_);(case h1=>((try simp only[Zu,go_sem])<;>rfl));(case h2=>refine ZO ?_;first|rfl|simp only[List.all_cons,List.all_nil,Bool.and_true,go_sem]);(case h5=>exact hv);(case h3=>first|exact Bool.or_eq_true_iff.2 (.inr rfl)|(refine Bool.or_eq_true_iff.2 (.inl ?_);simp only[clos,List.all_cons,List.all_nil,Bool.and_true,go_sem]));(case h4=>first|rfl|simp only[go_sem,Bool.and_true]))|((with_reducible refine U_pc (g:=120) (r:=.bo (Zq p)) (vs:=?_) (ws:=?_) ?h1 ?h2 ?h3 ?h4 ?h5 ?_);(case h1=>((try simp only[Zu,go_sem])<;>rfl));(case h2=>refine ZO ?_;first|rfl|simp only[List.all_cons,List.all_nil,Bool.and_true,go_sem]);(case h5=>exact hn);(case h3=>first|exact Bool.or_eq_true_iff.2 (.inr rfl)|(refine Bool.or_eq_true_iff.2 (.inl ?_);simp only[clos,List.all_cons,List.all_nil,Bool.and_true,go_sem]));(case h4=>first|rfl|simp only[go_sem,Bool.and_true]))|with_reducible (refine U_gb (q:=?_) ?h1 (fun _=>?_) (fun _=>?_);case h1=>((try simp only[Zu,go_sem])<;>rfl))|with_reducible (refine Qh (q:=?_) ?h1 (fun _=>?_) (fun _=>?_);case h1=>((try simp only[Zu,go_sem])<;>rfl))));all_goals clear hv hn hp hf
 all_goals simp only[Jo,cond_true,cond_false, *]
 all_goals first
  | exact Yq _ 0 zSet [] 0 0 .nil rfl
  | exact Ja (by simp only[go_sem])
  | exact Yq _ 4 zSet [p] _ hi _ (QdI (l:=[p]) (n:=1) (by simp only[go_sem]) rfl)
  | skip
mutual
def cntN:Nd→Nat
 | .mk _ _ ps _ _=>1+cntL ps
def cntL:List Nd→Nat
 | []=>0
 | p::ps=>cntN p+cntL ps
end
mutual
def put1 (k:Int):List Nd→Nd→List Nd
 | l,.mk k2 s ps lo hi =>
  if k2=k then putL k l ps
  else if k=2∧k2=0 then l
  else if k=3∧(QP (.mk k2 s ps lo hi)||l.any (Jc (.mk k2 s ps lo hi)))=true then l
  else l++[.mk k2 s ps lo hi]
def putL (k:Int):List Nd→List Nd→List Nd
 | l,[]=>l
 | l,p::ps=>putL k (put1 k l p) ps
end
def okN (n:Nd):Prop:=ZB n∧Qm n=true
def Zv {n:Nd} (h:okN n):(∀ p∈n.parts,okN p)∧n.parts.length < 9223372036854775808:=by
 cases n with
 | mk k s ps lo hi =>
  obtain⟨h1,h2⟩:=h;rw[Qm,Bool.and_eq_true,Zt] at h2
  exact⟨fun p hp=>⟨(QX ps).1 h1.2.2 p hp,List.all_eq_true.1 h2.2 p hp⟩,h1.2.1⟩
mutual
theorem Qc1 (k:Int):∀ (l:List Nd) (p:Nd),okN p→(∀ q∈l,okN q)→(∀ q∈put1 k l p,okN q)∧(put1 k l p).length≤l.length+cntN p
 | l,.mk k2 s ps lo hi,hp,hl=>by
  rw[put1,cntN];split
  ·have:=KG k l ps (Zv hp).1 hl
   exact⟨this.1,OM⟩
  ·split
   ·exact⟨hl,OM⟩
   ·split
    ·exact⟨hl,OM⟩
    ·refine⟨fun q hq=>?_,by rw[List.length_append];simp only[List.length_cons,List.length_nil];omega⟩
     rcases List.mem_append.1 hq with h|h
     ·exact hl q h
     ·simp at h;rw[h];exact hp
theorem KG (k:Int):∀ (l ps:List Nd),(∀ p∈ps,okN p)→(∀ q∈l,okN q)→(∀ q∈putL k l ps,okN q)∧(putL k l ps).length≤l.length+cntL ps
 | l,[],_,hl=>by rw[putL,cntL];exact⟨hl,OM⟩
 | l,p::ps,hp,hl=>by
  rw[putL,cntL];have h1:=Qc1 k l p (hp p SM) hl;have h2:=KG k (put1 k l p) ps (fun q hq=>hp q (by simp [hq])) h1.1
  exact⟨h2.1,OM⟩
end
def Qf9 (k:Int) (l:List Nd) (p:Nd):put1 k l p =
  if p.kind=k then putL k l p.parts
  else bif (k==2)&&(p.kind==0) then l
  else bif (k==3)&&(QP p||l.any (Jc p)) then l
  else l++[p]:=by
 have c:∀ (b:Bool) (x y:List Nd),(bif b then x else y)=if b=true then x else y:=fun b x y=>by cases b<;>rfl
 cases p;rw[put1,c,c];simp only[Bool.and_eq_true,beq_iff_eq];rfl
def QeJ (p:Nd):(cel p)[5]?=some (.sl (p.parts.map cel)):=by cases p;rw[QZ];rfl
def JQ (d:Nat) (l:List Nd):List.map (swpL d) (List.map cel l)=List.map cel l:=by
 rw[List.map_map];exact List.map_congr_left fun p _=>V2 d p
def ZR (l:List Nd):okLL (l.map cel)=true:=List.all_eq_true.2 fun c hc=>by
 obtain⟨p,_,rfl⟩:=List.mem_map.1 hc
 have:=W4 p.parts
 cases p with
 | mk k s ps lo hi=>rw[QZ];simp [nd8,okL,ok];exact this
def KQ (l:List Nd):ok (.sl (l.map cel))=true:=by rw[ok];exact W4 l
def KW (p:Nd):SizeOf.sizeOf p.parts < SizeOf.sizeOf p:=by cases p;simp [Nd.parts];omega
def Qj3 (p q:Nd) (hp:ZB p) (hq:ZB q):Pu F 136 [.ag (cel q),.ip (cel p) 0] (.bo (Jc p q)):=by
 refine Qe e136 rfl rfl (by simp only[go_sem,Bool.and_true]) ?_;dsimp only[Qlg,c136];(repeat' (first|refine RSN trivial ?_|((with_reducible refine PCN trivial (r:=.bo (Jc p q)) ?h ?_);case h=>exact (Qce p q hp hq))|with_reducible refine GBN trivial (fun _=>?_) (fun _=>?_)|with_reducible refine GDN trivial (fun _=>?_) (fun _=>?_)));rfl
attribute [go_sem] JQ Zu QeJ
def Qg1 (h:o s=some (.row 8 [cel p])):fzU o (.fn 136 [.pt s 0 0])=some (.fn 136 [.ip (cel p) 0]):=by
 have hm:(cel p).mapM (frzU 22 o)=some (cel p):=ZN fun v hv=>Jy _ _ (D0 p 21 v hv);unfold fzU FZ;simp only[frzU,Qs,h,List.mapM_cons,List.mapM_nil,List.getElem?_cons_zero,hm];rfl
set_option maxHeartbeats 2000000 in
def Qjb (k:Int):∀ (n:Nat) (ps l:List Nd),SizeOf.sizeOf ps < n→(∀ p∈ps,okN p)→(∀ q∈l,okN q)→l.length+cntL ps≤1000→ps.length < 9223372036854775808 →
  ApC (Call F) 117 (fun v=>[V.i .i64 k]++v::[.sl (ps.map cel)]) 8 (l.map cel) ((putL k l ps).map cel):=by
 intro n;induction n with
 | zero=>intro ps l h;omega
 | succ n ih =>
  intro ps l hn hps hl hcnt hlen;refine Ql7 e117 rfl rfl rfl (by rw[okL,KQ];rfl) (ZR _) (ZR _) ?_;dsimp only[QkW,c117];(repeat (with_reducible (first|refine YA ?_|refine Yb ?_|refine YO ?_|refine X9 ?_|refine X_nx ?_|(refine U_q (v:=?_) ?h1 ?_;case h1=>((try simp only[List.cons_append,List.nil_append,List.length_map,go_sem])<;>rfl)))));refine U_lp (fun r e o=>∃ (j:Nat) (acc:List Nd),j+r=ps.length∧e 0=.i .i64 k∧e 1=ownV 999999 8 (acc.map cel)∧(acc≠[]→o 999999=some (.row 8 (acc.map cel)))∧e 9=.sl (ps.map cel)∧e 10=.i .i64 ps.length∧e 11=.i .i64 j ∧
   putL k acc (ps.drop j)=putL k l ps∧(∀ q∈acc,okN q)∧acc.length+cntL (ps.drop j)≤1000) (k:=ps.length) ?_ (Qa F) ?_
  ·refine⟨0,l,OM,by simp only[List.cons_append,List.nil_append,go_sem],by simp only[List.cons_append,List.nil_append,go_sem],fun h=>?_,by simp only[List.cons_append,List.nil_append,go_sem],by simp only[List.cons_append,List.nil_append,List.length_map,go_sem],Zr0,rfl,hl,hcnt⟩
   rw[if_neg (by simpa using h)];exact We _ _ _
  clear hl hcnt;rintro r e o ⟨j,acc,hjr,h0,h1,ho,h9,h10,h11,hput,hacc,hcnt⟩;dsimp only[Qe5];refine RN (Ad2 h10 h11) ?_;refine Qh (q:=decide ((j:Int) < (ps.length:Int))) (Z0) (fun hc=>?_) (fun hc=>?_)
  ·have hj:j < ps.length:=by simpa using hc
   have hp:(ps.map cel)[j]?=some (cel ps[j]):=by simp [hj]
   have hpos:(0:Int)≤(j:Int):=by omega
   have hw1:IntKind.i64.wrap ((j:Int)+1)=((j+1:Nat):Int):=by rw[Qg OM OM];rfl
   have hpk:=hps ps[j] (List.getElem_mem _);have hsz:SizeOf.sizeOf ps[j] < SizeOf.sizeOf ps:=List.sizeOf_lt_of_mem (List.getElem_mem _);rw[List.drop_eq_getElem_cons hj,putL] at hput;rw[List.drop_eq_getElem_cons hj,cntL] at hcnt;have hok:=Qc1 k acc ps[j] hpk hacc;generalize hpp:ps[j]=p at *;rw[Qf9] at hput hok;have hcel1:1≤cntN p:=by cases p;rw[cntN];omega
   refine RT (Ad3 h0 h1 (Ad5 h9 h10 h11 hpos hp)) ?_;refine Qh (q:=p.kind==k) (Z0) (fun hk=>?_) (fun hk=>?_)
   ·
    have hk:p.kind=k:=eq_of_beq hk;rw[if_pos hk] at hput hok;have hcp:cntL p.parts≤cntN p:=by cases p;rw[cntN];simp [Nd.parts]
    have hap:=ih p.parts acc (by have:=KW p;omega) (Zv hpk).1 hacc OM (Zv hpk).2;refine RN (Ad2 h0 h1) ?_;refine U_ap 999999 (pre:=[.i .i64 k]) (post:=[.sl (p.parts.map cel)]) OM (Zr2 h0 h1) rfl (by rw[okL,KQ];rfl) (ZR _) (ZR _) (fun h=>?_) hap ?_
    ·have:=ho (by simpa using h)
     simp only[this,go_sem]
    refine RN (Ad2 h11 hw1) ?_
    refine⟨r - 1,OM,j+1,_,OM,Z1 h0,Z0,fun h=>?_,Z1 h9,Z1 h10,Z0,hput,hok.1,OM⟩
    rw[if_neg (by simpa using h)];exact We _ _ _
   have hk:¬ p.kind=k:=by simpa using hk
   rw[if_neg hk] at hput hok;have keep:∀ (e':E) (o':O) (acc':List Nd),putL k acc' (ps.drop (j+1))=putL k l ps→(∀ q∈acc',okN q)→acc'.length≤acc.length+cntN p→e' 0=.i .i64 k→e' 1=ownV 999999 8 (acc'.map cel)→(acc'≠[]→o' 999999=some (.row 8 (acc'.map cel)))→e' 9=.sl (ps.map cel)→e' 10=.i .i64 ps.length→e' 11=.i .i64 ((j+1:Nat):Int) →
     ∃ k',k' < r∧∃ (j:Nat) (acc:List Nd),j+k'=ps.length∧e' 0=.i .i64 k∧e' 1=ownV 999999 8 (acc.map cel)∧(acc≠[]→o' 999999=some (.row 8 (acc.map cel)))∧e' 9=.sl (ps.map cel)∧e' 10=.i .i64 ps.length∧e' 11=.i .i64 j ∧
      putL k acc (ps.drop j)=putL k l ps∧(∀ q∈acc,okN q)∧acc.length+cntL (ps.drop j)≤1000 :=
    fun e' o' acc' g1 g2 g3 g4 g5 g6 g7 g8 g9=>⟨r - 1,OM,j+1,acc',OM,g4,g5,g6,g7,g8,g9,g1,g2,OM⟩
   have hv:=KD p hpk.1 hpk.2;have hc38:Pu F 113 [.sl (acc.map cel),.fn 136 [.ip (cel p) 0]] (.bo (acc.any (Jc p))) :=
    VI cel Qz acc OM 136 [.ip (cel p) 0] rfl (Jc p) (fun q hq=>⟨[.ag (cel q),.ip (cel p) 0],fun o=>Y7 (by simp [FZ,okd,JS]),Qj3 p q hpk.1 (hacc q hq).1⟩) emp _ (fun _=>rfl)
   have hoA:∀ o':O,(acc≠[]→o' 999999=some (.row 8 (acc.map cel)))→fzU o' (ownV 999999 8 (acc.map cel))=some (.sl (acc.map cel)):=fun o' h=>Dp 23 (fun hh=>h (by simpa using hh)) fun c hcm v hv=>by
    obtain⟨q,_,rfl⟩:=List.mem_map.1 hcm;exact D0 q 22 v hv
   (repeat' (first|refine RSN (Ad4 h0 h1 h11 hw1) ?_|((with_reducible refine PCN (Ad4 h0 h1 h11 hw1) (r:=.bo (QP p)) ?h ?_);case h=>exact hv)|with_reducible refine GBN (Ad4 h0 h1 h11 hw1) (fun _=>?_) (fun _=>?_)|with_reducible refine GDN (Ad4 h0 h1 h11 hw1) (fun _=>?_) (fun _=>?_)));all_goals clear ih
   any_goals
    refine U_pc (g:=113) (r:=.bo (acc.any (Jc p))) (vs:=[ownV 999999 8 (acc.map cel),.fn 136 [.pt 8 0 0]]) (ws:=[.sl (acc.map cel),.fn 136 [.ip (cel p) 0]]) (Z1 h1) (K7 (hoA _ fun hh=>by simp only[ho hh,go_sem]) (K7 (Qg1 (Z0)) QdO)) (Bool.or_eq_true_iff.2 (.inr rfl)) rfl hc38 ?_;(repeat' (first|refine RSN (Ad4 h0 h1 h11 hw1) ?_|with_reducible refine GBN (Ad4 h0 h1 h11 hw1) (fun _=>?_) (fun _=>?_)|with_reducible refine GDN (Ad4 h0 h1 h11 hw1) (fun _=>?_) (fun _=>?_)))
   all_goals clear hc38 hv hoA
   all_goals first
    | (simp only[*,Bool.true_and,Bool.and_true,Bool.false_and,Bool.and_false,cond_true,cond_false,Bool.or_true,Bool.true_or,Bool.false_or,Bool.not_true,Bool.not_false] at hput hok;exact keep _ _ acc hput hacc OM (Z1 h0) (Z1 h1) (fun hh=>by simp only[ho hh,go_sem]) (Z1 h9) (Z1 h10) (Z0))
    | (refine Yi 999999 (L:=acc.map cel) (ys:=[cel p]) (Z1 h1) (fun hh=>by simp only[ho (by simpa using hh),go_sem]) (by simp only[src,go_sem];rfl) (by intro c hc;simp at hc;rw[hc];exact Qz p) SM OM ⟨by simp;omega,OM⟩ (JQ _ _) (by simp only[go_sem]) ?_;refine RN (Ad2 h11 hw1) ?_;simp only[*,Bool.true_and,Bool.and_true,Bool.false_and,Bool.and_false,cond_true,cond_false,Bool.or_true,Bool.true_or,Bool.false_or,Bool.not_true,Bool.not_false] at hput hok;exact keep _ _ (acc++[p]) hput hok.1 (by simp;omega) (Z1 h0) (by simp only[List.map_append,go_sem]) (fun hh=>by simp only[List.map_append,go_sem]) (Z1 h9) (Z1 h10) (Z0))
  ·have hj:j=ps.length:=by
    have:¬ j < ps.length:=by simpa using hc
    omega
   subst hj;rw[List.drop_length,putL] at hput;refine RN h1 ?_
   exact⟨999999,by rw[hput],fun h=>by rw[← hput];exact ho (by rw[hput];simpa using h)⟩
def oneV (k:Int) (ps:List Nd) (v:V):V :=
 match ps with
 | []=>.ag (nd8 0 zSet .nil 0 0)
 | [p]=>.ag (cel p)
 | _=>.ag (nd8 k zSet v 0 0)
def QbU {a b:Nat} {x:Ob} (ha:o a=some x) (hb:o b=none):(a==b)=false:=by
 rw[beq_eq_false_iff_ne];intro h;rw[h,hb] at ha;cases ha
def QiH (k:Int) (ps:List Nd) (hl:ps.length < 9223372036854775808):RdC (Call F) 116 (fun v=>[V.i .i64 k]++v::[]) 8 (ps.map cel) (oneV k ps):=by
 intro v o K hv hK;have hlen:Ye v=some (.i .i64 ps.length):=by
  rcases hv with⟨h,rfl⟩|⟨_,id,rfl,_⟩
  ·have:ps=[]:=by simpa using h
   rw[this];rfl
  ·simp [Ye]
 show Call F 116 [.i .i64 k,v] o K;refine Z7 e116 rfl ?_;dsimp only[Qk4,c116];refine C_sq ?_;refine C_rg ?_;refine Qmu fun ia hia=>?_;have hold:∀ (ob:Ob) i x,o i=some x→upd (upd o ia (some (.row 8 [[.i .i64 0,.i .u64 0,.i .u64 0,.i .u64 0,.i .u64 0,.nil,.i .i64 0,.i .i64 0]]))) ia (some ob) i=some x:=fun ob i x hi=>by
  have:i≠ia:=fun hh=>by rw[hh,hia] at hi;cases hi
  simp only[upd,if_neg this];exact hi
 refine RXN trivial ?_;refine R_q (v:=.i .i64 ps.length) (by simp only[qv,ev_t,We];exact hlen) ?_;have hz8:∀ cs:List V,cs.length=8→splice 0 cs [V.i .i64 0,.i .u64 0,.i .u64 0,.i .u64 0,.i .u64 0,.nil,.i .i64 0,.i .i64 0]=cs:=fun cs h=>J3 (by rw[h];rfl)
 match ps,hv,hK,hlen with
 | [],hv,hK,_ =>
  refine RXN trivial ?_;refine QhY (id:=ia) (i:=0) (j:=0) (vs:=nd8 0 zSet .nil 0 0) (Z0) (We _ _ _) rfl (Zr0) rfl rfl SM ?_;refine RXN trivial ?_;refine E_1 (v:=oneV k [] v) (by (simp only[nd8,List.drop_zero,List.take_succ_cons,List.take_zero,go_sem]<;>rfl)) ?_;exact hK _ (hold _)
 | [p],hv,hK,_ =>
  rcases hv with⟨h,_⟩|⟨_,id,rfl,ho⟩
  ·cases h
  have hne:(id==ia)=false:=QbU ho hia;refine RXN (Ad2 hne ho) ?_;refine QhY (id:=ia) (i:=0) (j:=0) (vs:=cel p) (Z0) (We _ _ _) rfl (Zr0) rfl (Qz _) SM ?_;rw[hz8 _ (Qz p)];refine RXN trivial ?_;exact hK _ (hold _)
 | p::q::ps,hv,hK,_ =>
  rcases hv with⟨h,_⟩|⟨_,id,rfl,ho⟩
  ·cases h
  have n0:(((ps.length+1+1:Nat):Int)==0)=false:=by rw[beq_eq_false_iff_ne];omega
  have n1:(((ps.length+1+1:Nat):Int)==1)=false:=by rw[beq_eq_false_iff_ne];omega
  refine RXN (Ad2 n0 n1) ?_;refine QhY (id:=ia) (i:=0) (j:=0) (vs:=nd8 k zSet (.rw id 8 0 ((p::q::ps).map cel).length) 0 0) (Z0) (We _ _ _) rfl (Zr0) rfl rfl SM ?_;refine RXN trivial ?_;refine E_1 (v:=oneV k (p::q::ps) (.rw id 8 0 ((p::q::ps).map cel).length)) (by (simp only[nd8,List.drop_zero,List.take_succ_cons,List.take_zero,go_sem]<;>rfl)) ?_;exact hK _ (hold _)
mutual
def Qd:Nd→Nd
 | .mk k s ps lo hi =>
  if QP (.mk k s ps lo hi)=true then .mk 1 zSet [] 0 0
  else if k=2∨k=3 then oneN k (putL k [] (Qf ps))
  else if k=4 then Jo (Xm ps) lo hi
  else .mk k s ps lo hi
def Qf:List Nd→List Nd
 | []=>[]
 | p::ps=>Qd p::Qf ps
def Xm:List Nd→Nd
 | []=>noN
 | p::_=>Qd p
end
def VW (l m:List Nd):cntL (l++m)=cntL l+cntL m:=by induction l with
 | nil=>simp [cntL]
 | cons p l ih=>simp [cntL,ih];omega
def QhZ (l:List Nd):l.length≤cntL l:=by induction l with
 | nil=>simp
 | cons p l ih=>have:1≤cntN p:=by cases p;rw[cntN];omega
                rw[List.length_cons,cntL];omega
mutual
theorem Qee (k:Int):∀ (l:List Nd) (p:Nd),cntL (put1 k l p)≤cntL l+cntN p
 | l,.mk k2 s ps lo hi=>by
  rw[put1,cntN];split
  ·have:=Kw k l ps;omega
  ·split
   ·omega
   ·split
    ·omega
    ·rw[VW,cntL,cntL,cntN];omega
theorem Kw (k:Int):∀ (l ps:List Nd),cntL (putL k l ps)≤cntL l+cntL ps
 | l,[]=>by rw[putL,cntL];omega
 | l,p::ps=>by
  rw[putL,cntL];have h1:=Qee k l p;have h2:=Kw k (put1 k l p) ps;omega
end
def KS {lo hi:Int} {ps:List Nd} (hs:Qu k zSet ps.length lo hi=true) (hl:ps.length < 9223372036854775808) (h:∀ p∈ps,okN p):okN (.mk k zSet ps lo hi) :=
 ⟨⟨fun j _=>by simp [zSet],hl,(QX ps).2 fun p hp=>(h p hp).1⟩,by rw[Qm,hs,Zt];simpa using fun p hp=>(h p hp).2⟩
def Qh1 (hk:k=2∨k=3) (l:List Nd) (h:∀ p∈l,okN p) (hl:l.length < 9223372036854775808):okN (oneN k l)∧cntN (oneN k l)≤1+cntL l:=by
 match l with
 | []=>exact⟨KS (by simp [Qu,QC,zSet]) SM SM,by simp [oneN,noN,cntN,cntL]⟩
 | [p]=>exact⟨h p SM,by simp [oneN,cntL]⟩
 | p::q::l =>
  refine⟨KS ?_ hl h,by simp [oneN,cntN]⟩
  rcases hk with rfl|rfl<;>simp [Qu,QC,zSet]
def QbZ (hp:okN p) {lo hi:Int} (h0:0≤lo) (h1:lo≤2147483647) (h2:hi = -1∨lo≤hi∧hi≤2147483647):okN (Jo p lo hi)∧cntN (Jo p lo hi)≤1+cntN p:=by
 have hno:okN noN∧cntN noN≤1+cntN p:=⟨KS (by simp [Qu,QC,zSet]) SM SM,by simp [noN,cntN,cntL]⟩;have hmk:∀ b:Bool,okN (.mk 4 zSet [p] (bif b then 0 else lo) hi)∧cntN (.mk 4 zSet [p] (bif b then 0 else lo) hi)≤1+cntN p:=fun b =>
  ⟨KS (by cases b<;>simp [Qu,QC,zSet]<;>omega) SM (by simpa using hp),by simp [cntN,cntL]⟩
 unfold Jo;cases (hi==0)<;>cases (p.kind==0)<;>cases (QP p)<;>cases (lo==1)<;>cases (hi==1)<;>first|exact hno|exact hmk _|exact⟨hp,SM⟩
def XO (k:Int) (s:Nat→Nat) (ps:List Nd) (lo hi:Int):Qd (.mk k s ps lo hi)=if QP (.mk k s ps lo hi)=true then .mk 1 zSet [] 0 0
  else if k=2∨k=3 then oneN k (putL k [] (Qf ps))
  else if k=4 then Jo (Xm ps) lo hi
  else .mk k s ps lo hi:=by rw[Qd]
def WR (ps:List Nd):Qf ps=ps.map Qd:=by induction ps with
 | nil=>rfl
 | cons p ps ih=>simp [Qf,ih]
mutual
theorem Yn:∀ (n:Nd),okN n→cntN n≤1000→okN (Qd n)∧cntN (Qd n)≤cntN n
 | .mk k s ps lo hi,h,hc=>by
  rw[cntN] at hc;have hps:=(Zv h).1;have hpl:=(Zv h).2;have hf:=h.2;rw[Qm,Bool.and_eq_true] at hf;have h1:=J0 ps hps OM;rw[XO,cntN];split
  ·exact⟨KS (by simp [Qu]) SM SM,by simp [cntN,cntL]⟩
  ·split
   ·rename_i hk;have h2:=KG k [] (Qf ps) h1.1 SM;have h3:=Kw k [] (Qf ps);have hlen:(Qf ps).length=ps.length:=by rw[WR];simp
    have h4:=Qh1 hk (putL k [] (Qf ps)) h2.1 (by have:=h2.2;rw[List.length_nil] at this;omega)
    refine⟨h4.1,?_⟩
    rw[cntL] at h3;omega
   ·split
    ·rename_i h4;subst h4;obtain⟨g1,g2,g3,g4⟩:=HK hf.1;obtain⟨p,rfl⟩:=List.length_eq_one_iff.1 g1;have hc':1+(cntN p+0)≤1000:=by simpa [cntL] using hc
     have h5:=Yn p (hps p (by simp [Nd.parts])) OM;have h6:=QbZ h5.1 g2 g3 g4
     refine⟨h6.1,?_⟩
     have h7:=h6.2;simp only[Xm,cntL];omega
    ·exact⟨h,by simp [cntN]⟩
theorem J0:∀ (ps:List Nd),(∀ p∈ps,okN p)→cntL ps≤1000→(∀ p∈Qf ps,okN p)∧cntL (Qf ps)≤cntL ps
 | [],_,_=>⟨by simp [Qf],by simp [Qf]⟩
 | p::ps,h,hc=>by
  rw[cntL] at hc;have h1:=Yn p (h p SM) OM;have h2:=J0 ps (fun q hq=>h q (by simp [hq])) OM
  refine⟨fun q hq=>?_,by simp only[Qf,cntL];omega⟩
  rw[Qf] at hq;rcases List.mem_cons.1 hq with rfl|hq
  ·exact h1.1
  ·exact h2.1 q hq
end
def Hj (s sz:Nat) {L:List (List V)} (h:L≠[]):still s L (ownV s sz L)=.sl L:=by
 rw[ownV,if_neg h,still];simp
def Qgw (k:Int) (ps:List Nd) {m:Nm} {v x:V} (h:VR m v x):VR m (oneV k ps v) (oneV k ps x):=by
 match ps with
 | []=>exact YE m _ rfl
 | [p]=>exact YE m _ (by show cld (.ag (cel p))=true;rw[cld,VC])
 | p::q::ps =>
  refine .ag _ _ rfl fun j a b ha hb=>?_
  match j with
  | 5=>simp [nd8] at ha hb;subst ha;subst hb;exact h
  | 0=>simp [nd8] at ha hb;subst ha;subst hb;exact .i _ _
  | 1=>simp [nd8] at ha hb;subst ha;subst hb;exact .i _ _
  | 2=>simp [nd8] at ha hb;subst ha;subst hb;exact .i _ _
  | 3=>simp [nd8] at ha hb;subst ha;subst hb;exact .i _ _
  | 4=>simp [nd8] at ha hb;subst ha;subst hb;exact .i _ _
  | 6=>simp [nd8] at ha hb;subst ha;subst hb;exact .i _ _
  | 7=>simp [nd8] at ha hb;subst ha;subst hb;exact .i _ _
  | j+8=>simp [nd8] at ha
def Ke {α β:Type} (f:α→β) (l:List α) {j:Nat} (h:j < l.length):(l.take (j+1)).map f=(l.take j).map f++[f l[j]]:=by
 rw[List.take_add_one,List.getElem?_eq_getElem h,List.map_append];rfl
set_option maxHeartbeats 4000000 in
theorem HL:∀ (n:Nd),okN n→cntN n≤900→Pu F 75 [.ag (cel n)] (.ag (cel (Qd n)))
 | .mk k s ps lo hi,h,hc=>by
  have hps:=(Zv h).1;have hpl:=(Zv h).2;have hf:=h.2;rw[Qm,Bool.and_eq_true,Zt] at hf;rw[cntN] at hc;have hcp:∀ p∈ps,cntN p≤cntL ps:=by
   intro p hp;obtain⟨a,b,rfl⟩:=List.append_of_mem hp;rw[VW,cntL];omega
  have ih:∀ p∈ps,Pu F 75 [.ag (cel p)] (.ag (cel (Qd p))):=fun p hp=>HL p (hps p hp) (by have:=hcp p hp;omega);have hv:=KD _ h.1 h.2;have hlc:=QhZ ps;have hsl:=J0 ps hps OM;have hslm:=WR ps;refine Qe e75 rfl rfl (by simp only[go_sem,Bool.and_true]) ?_;dsimp only[fn75,c75];rw[XO];generalize hvv:QP (.mk k s ps lo hi)=vb at hv;rw[QZ] at hv ⊢;(repeat' (first|refine RST nd8.eq_1 ?_|((with_reducible refine PCT nd8.eq_1 (r:=.bo vb) ?h ?_);case h=>exact hv)|with_reducible refine GBT nd8.eq_1 (fun _=>?_) (fun _=>?_)|with_reducible refine GDT nd8.eq_1 (fun _=>?_) (fun _=>?_)))
  ·rename_i hvt;rw[if_pos hvt];exact Yq _ 1 zSet [] 0 0 .nil rfl
  rename_i hvf;rw[if_neg (by rw[hvf];simp)];clear hv;refine U_lp (fun r e o=>∃ j:Nat,j+r=ps.length∧e 1=.pt 1 0 0∧o 1=some (.row 8 [nd8 k s (.sl (ps.map cel)) lo hi])∧e 2=.pt 2 0 0∧o 2=some (.row 8 [nd8 0 zSet .nil 0 0])∧e 3=ownV 20 8 (((ps.take j).map Qd).map cel)∧(((ps.take j).map Qd).map cel≠[]→o 20=some (.row 8 (((ps.take j).map Qd).map cel))) ∧
   e 10=.sl (ps.map cel)∧e 11=.i .i64 ps.length∧e 12=.i .i64 j) (k:=ps.length) ?_ (Qa F) ?_
  ·exact⟨0,OM,Z0,Zr0,Z0,Zr0,Zr0,fun hh=>absurd rfl hh,Z0,by simp only[List.length_map,go_sem],Zr0⟩
  rintro r e o ⟨j,hjr,h1,o1,h2,o2,h3,o3,h10,h11,h12⟩;dsimp only[QkY];refine RN (Ad2 h11 h12) ?_;refine Qh (q:=decide ((j:Int) < (ps.length:Int))) (Z0) (fun hcc=>?_) (fun hcc=>?_)
  ·have hj:j < ps.length:=by simpa using hcc
   have hp:(ps.map cel)[j]?=some (cel ps[j]):=by simp [hj]
   have hpos:(0:Int)≤(j:Int):=by omega
   have hw1:IntKind.i64.wrap ((j:Int)+1)=((j+1:Nat):Int):=by rw[Qg OM OM];rfl
   have hih:=ih ps[j] (List.getElem_mem _);have htk:=Ke Qd ps hj;have htl:((ps.take j).map Qd).length≤1000:=by simp;omega
   generalize hpp:ps[j]=p at *;generalize hac:(ps.take j).map Qd=acc at *;(repeat' (first|refine RST (Ad4 h1 h2 h3 (Ad5 h10 h11 h12 hpos hp)) ?_|((with_reducible refine PCT (Ad4 h1 h2 h3 (Ad5 h10 h11 h12 hpos hp)) (r:=.ag (cel (Qd p))) ?h ?_);case h=>exact hih)|with_reducible refine GBT (Ad4 h1 h2 h3 (Ad5 h10 h11 h12 hpos hp)) (fun _=>?_) (fun _=>?_)|with_reducible refine GDT (Ad4 h1 h2 h3 (Ad5 h10 h11 h12 hpos hp)) (fun _=>?_) (fun _=>?_)));refine Yi 20 (L:=acc.map cel) (ys:=[cel (Qd p)]) (Z1 h3) (fun hh=>by simp only[o3 hh,go_sem]) (by simp only[src,go_sem];rfl) (by intro c hc;simp at hc;rw[hc];exact Qz _) SM OM ⟨by simp;omega,OM⟩ (JQ _ _) (by simp only[go_sem]) ?_;refine RN (Ad2 h12 hw1) ?_
   refine⟨r - 1,OM,j+1,OM,Z1 h1,by simp only[o1,nd8,go_sem],Z1 h2,by simp only[o2,nd8,go_sem],?_,fun hh=>?_,Z1 h10,Z1 h11,Z0⟩
   ·rw[htk,List.map_append];simp only[go_sem]
   ·rw[htk,List.map_append];simp only[go_sem]
  ·have hj:j=ps.length:=by
    have:¬ j < ps.length:=by simpa using hcc
    omega
   subst hj;rw[List.take_length,← hslm] at h3 o3;repeat (with_reducible (first|refine Vu ?_|refine X_ex ?_|refine YF ?_|refine X_nx ?_))
   refine Yb ?_;refine Yb ?_;by_cases hnil:ps=[]
   ·subst hnil;have h23:k≠2∧k≠3∧k≠4:=by
     have:=hf.1
     refine⟨?_,?_,?_⟩<;>rintro rfl<;>simp [Qu] at this
    rw[if_neg OM,if_neg OM];clear ih hps hsl hslm hcp h hf;(repeat' (first|refine RST (Ad5 h1 o1 h2 o2 nd8.eq_1) ?_|with_reducible refine GBT (Ad5 h1 o1 h2 o2 nd8.eq_1) (fun _=>?_) (fun _=>?_)|with_reducible refine GDT (Ad5 h1 o1 h2 o2 nd8.eq_1) (fun _=>?_) (fun _=>?_)));all_goals first
     | (exfalso;simp_all;done)
     | exact Yq _ k s [] lo hi _ rfl
   ·have hnil2:Qf ps≠[]:=by rw[hslm];simpa using hnil
    have hnil3:(Qf ps).map cel≠[]:=by simpa using hnil2
    have hso:=Hj 20 8 hnil3;refine Du 20 (sz:=8) (es:=(Qf ps).map cel) (o3 hnil3) (ZR _) ?_;by_cases h4:k=4
    ·subst h4;obtain⟨g1,g2,g3,g4⟩:=HK hf.1;obtain⟨p,rfl⟩:=List.length_eq_one_iff.1 g1;have htm:=QdN (Qd p) (hsl.1 _ (by simp [Qf])).1 (hsl.1 _ (by simp [Qf])).2 lo hi;rw[if_neg OM,if_pos rfl];simp only[Xm];simp only[Qf,List.map_cons,List.map_nil] at hso h3 o3;simp only[Qf,List.map_cons,List.map_nil];clear ih hps hsl hslm hcp h hf;(repeat' (first|refine RST (Ad3 h1 o1 (Ad5 h2 o2 h3 hso nd8.eq_1)) ?_|((with_reducible refine PCT (Ad3 h1 o1 (Ad5 h2 o2 h3 hso nd8.eq_1)) (r:=.ag (cel (Jo (Qd p) lo hi))) ?h ?_);case h=>exact htm)|with_reducible refine GBT (Ad3 h1 o1 (Ad5 h2 o2 h3 hso nd8.eq_1)) (fun _=>?_) (fun _=>?_)|with_reducible refine GDT (Ad3 h1 o1 (Ad5 h2 o2 h3 hso nd8.eq_1)) (fun _=>?_) (fun _=>?_)));all_goals first
      | exact Ja (by simp only[go_sem])
      | skip
    by_cases h23:k=2∨k=3
    ·rw[if_pos h23];have hM:=KG k [] (Qf ps) hsl.1 SM;have hMl:(putL k [] (Qf ps)).length < 9223372036854775808:=by have:=hM.2;rw[List.length_nil] at this;omega
     have hap:=Qjb k (SizeOf.sizeOf (Qf ps)+1) (Qf ps) [] OM hsl.1 SM (by rw[List.length_nil];omega) (by rw[hslm];simpa [Nd.parts] using hpl);have hrd:=QiH k (putL k [] (Qf ps)) hMl;generalize putL k [] (Qf ps)=M at *;clear ih hps hsl hcp h hf hM;(repeat' (first|refine RST (Ad3 h1 o1 (Ad5 h2 o2 h3 hso nd8.eq_1)) ?_|with_reducible refine GBT (Ad3 h1 o1 (Ad5 h2 o2 h3 hso nd8.eq_1)) (fun _=>?_) (fun _=>?_)|with_reducible refine GDT (Ad3 h1 o1 (Ad5 h2 o2 h3 hso nd8.eq_1)) (fun _=>?_) (fun _=>?_)));any_goals
      (exfalso;simp_all;done)
     all_goals
      refine QlP 32 (L:=([]:List Nd).map cel) (L':=M.map cel) (pre:=[.i .i64 k]) (post:=[.sl ((Qf ps).map cel)]) OM (Zr0) rfl (by rw[okL,KQ];rfl) rfl (ZR _) (fun hh=>absurd rfl hh) hap
       ⟨.inl ⟨.i .i64 k,by simp only[o1,nd8,go_sem],by split<;>simp only[o1,nd8,go_sem],.inl rfl⟩,trivial⟩ ?_
      have hoM:∀ x:O,M.map cel≠[]→(if M.map cel=[] then swpO 32 x else upd (swpO 32 x) 32 (some (.row 8 (M.map cel)))) 32=some (.row 8 (M.map cel)):=fun x hh=>by rw[if_neg hh];exact We _ _ _
      have ho2':∀ x:O,x 2=some (.row 8 [nd8 0 zSet .nil 0 0])→(if M.map cel=[] then swpO 32 x else upd (swpO 32 x) 32 (some (.row 8 (M.map cel)))) 2=some (.row 8 [nd8 0 zSet .nil 0 0]):=fun x hh=>by split<;>simp only[hh,nd8,go_sem]
      have hx2:ZT 20 ((Qf ps).map cel) o 2=some (.row 8 [nd8 0 zSet .nil 0 0]):=by simp only[o2,nd8,go_sem]
      refine U_rd 32 (L:=M.map cel) (res:=oneV k M) (pre:=[.i .i64 k]) (post:=[]) (Zr0) rfl rfl (ZR _) (hoM _) hrd (fun m x hh=>Qgw k M hh) ?_;have hx3:=ho2' _ hx2;have hx4:=hoM (ZT 20 ((Qf ps).map cel) o);generalize (if M.map cel=[] then swpO 32 (ZT 20 ((Qf ps).map cel) o) else upd (swpO 32 (ZT 20 ((Qf ps).map cel) o)) 32 (some (.row 8 (M.map cel))))=oz at hx3 hx4 ⊢;clear hoM ho2' hap hrd;rcases M with _|⟨p,_|⟨q,M⟩⟩
      ·(repeat (with_reducible (first|refine YA ?_|refine Wj ?_|refine X_nx ?_|refine X_rt ?_|refine B_rt ?_|(refine E_1 (v:=?_) ?h1 ?_;case h1=>((try simp only[h2,hx3,nd8,oneV,List.take_succ_cons,List.take_zero,go_sem])<;>rfl))|(refine XC (id:=?_) (i:=?_) (j:=?_) (q:=?_) (es:=?_) (cs:=?_) (vs:=?_) (es':=?_) ?h1 ?h2 ?h3 ?h4 ?h5 ?h6 ?h7 ?_;case h1|h2|h3|h4|h5|h6|h7=>((try simp only[h2,hx3,nd8,oneV,List.take_succ_cons,List.take_zero,go_sem])<;>rfl)))));exact Yq _ 0 zSet [] 0 0 .nil rfl
      ·(repeat (with_reducible (first|refine YA ?_|refine Wj ?_|refine X_nx ?_|refine X_rt ?_|refine B_rt ?_|(refine E_1 (v:=?_) ?h1 ?_;case h1=>((try simp only[h2,hx3,nd8,oneV,List.take_succ_cons,List.take_zero,go_sem])<;>rfl))|(refine XC (id:=?_) (i:=?_) (j:=?_) (q:=?_) (es:=?_) (cs:=?_) (vs:=?_) (es':=?_) ?h1 ?h2 ?h3 ?h4 ?h5 ?h6 ?h7 ?_;case h1|h2|h3|h4|h5|h6|h7=>((try simp only[h2,hx3,nd8,oneV,List.take_succ_cons,List.take_zero,go_sem])<;>rfl)))));exact Ja (by simp only[go_sem,oneN])
      ·(repeat (with_reducible (first|refine YA ?_|refine Wj ?_|refine X_nx ?_|refine X_rt ?_|refine B_rt ?_|(refine E_1 (v:=?_) ?h1 ?_;case h1=>((try simp only[h2,hx3,nd8,oneV,List.take_succ_cons,List.take_zero,go_sem])<;>rfl))|(refine XC (id:=?_) (i:=?_) (j:=?_) (q:=?_) (es:=?_) (cs:=?_) (vs:=?_) (es':=?_) ?h1 ?h2 ?h3 ?h4 ?h5 ?h6 ?h7 ?_;case h1|h2|h3|h4|h5|h6|h7=>((try simp only[h2,hx3,nd8,oneV,List.take_succ_cons,List.take_zero,go_sem])<;>rfl)))));refine Yq _ k zSet (p::q::M) 0 0 _ (Dp 22 (fun hh=>?_) fun c hcm v hv=>?_)
       ·have:=hx4 hh
        simp only[this,go_sem]
       ·have hcm2:c∈(p::q::M).map cel:=hcm;obtain⟨z,_,rfl⟩:=List.mem_map.1 hcm2;exact D0 z 21 v hv
    ·rw[if_neg h23,if_neg h4];clear ih hps hsl hslm hcp h hf;(repeat' (first|refine RST (Ad3 h1 o1 (Ad5 h2 o2 h3 hso nd8.eq_1)) ?_|with_reducible refine GBT (Ad3 h1 o1 (Ad5 h2 o2 h3 hso nd8.eq_1)) (fun _=>?_) (fun _=>?_)|with_reducible refine GDT (Ad3 h1 o1 (Ad5 h2 o2 h3 hso nd8.eq_1)) (fun _=>?_) (fun _=>?_)));any_goals
      (exfalso;simp_all;done)
     all_goals exact Yq _ k s ps lo hi _ rfl
termination_by n=>SizeOf.sizeOf n
decreasing_by
 have:=List.sizeOf_lt_of_mem hp
 simp;omega
def QcX (n:Nd) (h:okN n) (hc:cntN n≤900):Pu F 53 [.ag (cel n)] (.tp [.ag (cel (Qd n)),.i .i64 0]):=by
 have hs:=HL n h hc;have hf:Pu F 74 [.ag (cel n)] (.bo (Qm n)):=Jk n h.1 emp _ (fun _=>rfl);rw[h.2] at hf;refine Qe e53 rfl rfl (by simp only[go_sem,Bool.and_true]) ?_;dsimp only[fn53,c53];(repeat' (first|refine RSN trivial ?_|((with_reducible refine PCN trivial (r:=.bo true) ?h ?_);case h=>exact hf)|((with_reducible refine PCN trivial (r:=.ag (cel (Qd n))) ?h ?_);case h=>exact hs)|with_reducible refine GBN trivial (fun _=>?_) (fun _=>?_)|with_reducible refine GDN trivial (fun _=>?_) (fun _=>?_)));refine Ja ?_;generalize Qd n=z;cases z;rfl
end Go.Proofs.YtocmjakchgcioaaGreat
