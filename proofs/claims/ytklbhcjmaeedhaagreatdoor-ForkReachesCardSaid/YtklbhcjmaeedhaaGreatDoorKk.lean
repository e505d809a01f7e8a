import Derived.Test.YtklbhcjmaeedhaaGreatDoorKt

namespace Go.Proofs.YtklbhcjmaeedhaaGreatDoor
set_option linter.all false
variable {s n:Nat} {o:O} {p:Nd} {k:Int}
def Qeh (n:Nd):Zc (cel n)=true:=by cases n;rfl
def Qap (d:Nat) (n:Nd):swpL d (cel n)=cel n:=K6 d (Qeh n)
def QhU (n:Nd):okf FZ (.ag (cel n))=true:=by cases n;rfl
def QeU (n:Nd):clo FZ (.ag (cel n))=true:=by cases n;rfl
mutual
theorem Vz:∀ (n:Nd),cldL (cel n)=true
 | .mk k s ps lo hi=>by
  have:=KV ps
  simp [cel,nd8,cldL,cld,this]
theorem KV:∀ (ps:List Nd),QQ (cels ps)=true
 | []=>rfl
 | p::ps=>by rw[cels,QQ,Vz p,KV ps];rfl
end
def Xw (ps:List Nd):QQ (ps.map cel)=true:=by rw[← QaH];exact KV ps
def Qgw (n:Nd):(cel n).take 8=cel n:=List.take_of_length_le (by rw[QI];omega)
def Qa2 (n:Nd) (a b c d e f g h:V):splice 0 (cel n) [a,b,c,d,e,f,g,h]=cel n:=Wb (by rw[QI];rfl)
attribute [go_sem] Qap QhU QeU Vz Xw QI Qgw Qa2 List.drop_zero
def nat0 (n:Nat):((n:Int)==0)=(n==0):=by cases n<;>rfl
def KN (s:Nat→Nat):Pu F 43 [.ag (u4 s)] (.bo (Qq s)):=Qah s emp _ (fun _=>rfl)
mutual
def QD:Nd→Bool
 | .mk k s ps lo _ =>
  if k=1 then Qq s
  else if k=2 then ZU ps
  else if k=3 then Ye ps
  else if k=4 then decide (0 < lo)&&JG ps
  else false
def ZU:List Nd→Bool
 | []=>false
 | p::ps=>QD p||ZU ps
def Ye:List Nd→Bool
 | []=>true
 | p::ps=>QD p&&Ye ps
def JG:List Nd→Bool
 | []=>false
 | p::_=>QD p
end
def Jq (ps:List Nd):ZU ps=ps.any QD:=by induction ps with
 | nil=>rfl
 | cons p ps ih=>simp [ZU,ih]
def XH (ps:List Nd):Ye ps=ps.all QD:=by induction ps with
 | nil=>rfl
 | cons p ps ih=>simp [Ye,ih]
def Ky (ps:List Nd) (hl:ps.length < 9223372036854775808) (g:Nat) (p:Nd→Bool) (h:∀ x∈ps,Pu F g [.ag (cel x)] (.bo (p x))):Pu F 97 [.sl (ps.map cel),.fn g []] (.bo (ps.any p)) :=
 V9 cel QI ps hl g [] rfl p (fun x hx=>⟨[.ag (cel x)],fun o=>Jk (by simp [FZ,okd,Wa]),h x hx⟩) emp _ (fun _=>rfl)
def Wu {s:Nat→Nat} {lo hi:Int} (h:Qk 4 s n lo hi=true):n=1∧0≤lo∧lo≤2147483647∧(hi = -1∨lo≤hi∧hi≤2147483647):=by
 simp [Qk] at h;omega
set_option maxHeartbeats 1000000 in
theorem KR:∀ (n:Nd),Zv n→Qe n=true→Pu F 99 [.ag (cel n)] (.bo (QD n))
 | .mk k s ps lo hi,hs,hf=>by
  have hf2:Qk k s ps.length lo hi=true∧ps.all Qe=true:=by
   rw[Qe,Bool.and_eq_true,Zw] at hf;exact hf
  have ih:∀ p∈ps,Pu F 99 [.ag (cel p)] (.bo (QD p)):=fun p hp=>KR p ((QX ps).1 hs.2.2 p hp) (List.all_eq_true.1 hf2.2 p hp);have ih2:∀ p∈ps,Pu F 118 [.ag (cel p)] (.bo (!QD p)):=fun p hp=>by
   refine Qh e118 rfl rfl (by simp only[go_sem,Bool.and_true]) ?_;dsimp only[Qkd,c118];(repeat' (first|refine RSN trivial ?_|((with_reducible refine PCN trivial (r:=.bo (QD p)) ?h ?_);case h=>exact (ih p hp))|with_reducible refine GBN trivial (fun _=>?_) (fun _=>?_)|with_reducible refine GDN trivial (fun _=>?_) (fun _=>?_)));rfl
  have hc1:=Ky ps hs.2.1 99 QD ih;have hc2:=Ky ps hs.2.1 118 (fun p=>!QD p) ih2;by_cases h4:k=4
  ·subst h4;obtain⟨hl1,_,_,_⟩:=Wu hf2.1;obtain⟨p,rfl⟩:=List.length_eq_one_iff.1 hl1;have ihp:=ih p SM;refine Qh e99 rfl rfl (by simp only[go_sem,Bool.and_true]) ?_;dsimp only[fn99,c99];rw[QZ];(repeat' (first|refine RST nd8.eq_1 ?_|((with_reducible refine PCT nd8.eq_1 (r:=.bo (QD p)) ?h ?_);case h=>exact ihp)|with_reducible refine GBT nd8.eq_1 (fun _=>?_) (fun _=>?_)|with_reducible refine GDT nd8.eq_1 (fun _=>?_) (fun _=>?_)));all_goals (refine congrArg some (congrArg V.bo ?_);clear ih ih2 hc1 hc2 ihp hf hf2 hs;simp_all [QD,JG];try omega)
  ·refine Qh e99 rfl rfl (by simp only[go_sem,Bool.and_true]) ?_;dsimp only[fn99,c99];rw[QZ];(repeat' (first|refine RST nd8.eq_1 ?_|((with_reducible refine PCT nd8.eq_1 (r:=.bo (Qq s)) ?h ?_);case h=>exact (KN s))|((with_reducible refine PCT nd8.eq_1 (r:=.bo (ps.any QD)) ?h ?_);case h=>exact hc1)|((with_reducible refine PCT nd8.eq_1 (r:=.bo (ps.any fun p=>!QD p)) ?h ?_);case h=>exact hc2)|with_reducible refine GBT nd8.eq_1 (fun _=>?_) (fun _=>?_)|with_reducible refine GDT nd8.eq_1 (fun _=>?_) (fun _=>?_)));all_goals clear ih ih2 hc1 hc2 hf hf2 hs
   all_goals first
    | (refine congrArg some (congrArg V.bo ?_);simp_all [QD,Jq,XH];done)
    | (refine congrArg some (congrArg V.bo ?_);simp_all [QD,Jq,XH,List.all_eq_not_any_not];done)
    | (exfalso;simp_all;done)
termination_by n=>SizeOf.sizeOf n
decreasing_by
 have:=List.sizeOf_lt_of_mem hp
 simp;omega
mutual
def QU:Nd→Bool
 | .mk k _ ps lo _ =>
  if k=1 then false
  else if k=2 then ZJ ps
  else if k=3 then Zy ps
  else if k=4 then lo==0||Yv ps
  else true
def Zy:List Nd→Bool
 | []=>false
 | p::ps=>QU p||Zy ps
def ZJ:List Nd→Bool
 | []=>true
 | p::ps=>QU p&&ZJ ps
def Yv:List Nd→Bool
 | []=>false
 | p::_=>QU p
end
def WV (ps:List Nd):Zy ps=ps.any QU:=by induction ps with
 | nil=>rfl
 | cons p ps ih=>simp [Zy,ih]
def W7 (ps:List Nd):ZJ ps=ps.all QU:=by induction ps with
 | nil=>rfl
 | cons p ps ih=>simp [ZJ,ih]
set_option maxHeartbeats 1000000 in
theorem VZ:∀ (n:Nd),Zv n→Qe n=true→Pu F 104 [.ag (cel n)] (.bo (QU n))
 | .mk k s ps lo hi,hs,hf=>by
  have hf2:Qk k s ps.length lo hi=true∧ps.all Qe=true:=by
   rw[Qe,Bool.and_eq_true,Zw] at hf;exact hf
  have ih:∀ p∈ps,Pu F 104 [.ag (cel p)] (.bo (QU p)):=fun p hp=>VZ p ((QX ps).1 hs.2.2 p hp) (List.all_eq_true.1 hf2.2 p hp);have ih2:∀ p∈ps,Pu F 121 [.ag (cel p)] (.bo (!QU p)):=fun p hp=>by
   refine Qh e121 rfl rfl (by simp only[go_sem,Bool.and_true]) ?_;dsimp only[Qk7,c121];(repeat' (first|refine RSN trivial ?_|((with_reducible refine PCN trivial (r:=.bo (QU p)) ?h ?_);case h=>exact (ih p hp))|with_reducible refine GBN trivial (fun _=>?_) (fun _=>?_)|with_reducible refine GDN trivial (fun _=>?_) (fun _=>?_)));rfl
  have hc1:=Ky ps hs.2.1 104 QU ih;have hc2:=Ky ps hs.2.1 121 (fun p=>!QU p) ih2;by_cases h4:k=4
  ·subst h4;obtain⟨hl1,_,_,_⟩:=Wu hf2.1;obtain⟨p,rfl⟩:=List.length_eq_one_iff.1 hl1;have ihp:=ih p SM;refine Qh e104 rfl rfl (by simp only[go_sem,Bool.and_true]) ?_;dsimp only[QiG,c104];rw[QZ];(repeat' (first|refine RST nd8.eq_1 ?_|((with_reducible refine PCT nd8.eq_1 (r:=.bo (QU p)) ?h ?_);case h=>exact ihp)|with_reducible refine GBT nd8.eq_1 (fun _=>?_) (fun _=>?_)|with_reducible refine GDT nd8.eq_1 (fun _=>?_) (fun _=>?_)));all_goals (refine congrArg some (congrArg V.bo ?_);clear ih ih2 hc1 hc2 ihp hf hf2 hs;simp_all [QU,Yv];try omega)
  ·refine Qh e104 rfl rfl (by simp only[go_sem,Bool.and_true]) ?_;dsimp only[QiG,c104];rw[QZ];(repeat' (first|refine RST nd8.eq_1 ?_|((with_reducible refine PCT nd8.eq_1 (r:=.bo (ps.any QU)) ?h ?_);case h=>exact hc1)|((with_reducible refine PCT nd8.eq_1 (r:=.bo (ps.any fun p=>!QU p)) ?h ?_);case h=>exact hc2)|with_reducible refine GBT nd8.eq_1 (fun _=>?_) (fun _=>?_)|with_reducible refine GDT nd8.eq_1 (fun _=>?_) (fun _=>?_)));all_goals clear ih ih2 hc1 hc2 hf hf2 hs
   all_goals first
    | (refine congrArg some (congrArg V.bo ?_);simp_all [QU,WV,W7];done)
    | (refine congrArg some (congrArg V.bo ?_);simp_all [QU,WV,W7,List.all_eq_not_any_not];done)
    | (exfalso;simp_all;done)
termination_by n=>SizeOf.sizeOf n
decreasing_by
 have:=List.sizeOf_lt_of_mem hp
 simp;omega
def JV (p:Nd→Nd→Bool):List Nd→List Nd→Bool
 | x::xs,y::ys=>p x y&&JV p xs ys
 | _,_=>true
def QaQ (p:Nd→Nd→Bool) (qs:List Nd):JV p [] qs=true:=by cases qs<;>rfl
def Qke (ps qs:List Nd) (hl:ps.length < 9223372036854775808) (g:Nat) (p:Nd→Nd→Bool) (h:∀ x∈ps,∀ y∈qs,Pu F g [.ag (cel x),.ag (cel y)] (.bo (p x y))) :
  Pu F 125 [.sl (ps.map cel),.sl (qs.map cel),.fn g []] (.bo (ps.length==qs.length&&JV p ps qs)):=by
 have hnn:((ps.length:Int) != (qs.length:Int))=!(ps.length==qs.length):=by
  rw[Bool.eq_iff_iff];simp;omega
 refine Qh e125 rfl rfl (by simp only[go_sem,Bool.and_true]) ?_;dsimp only[Qkq,c125];(repeat' (first|refine RST hnn ?_|with_reducible refine GBT hnn (fun _=>?_) (fun _=>?_)|with_reducible refine GDT hnn (fun _=>?_) (fun _=>?_)))
 ·refine congrArg some (congrArg V.bo ?_);simp_all
 have hlen:ps.length=qs.length:=by simp_all
 refine U_lp (fun r e o=>∃ i:Nat,i+r=ps.length∧e 1=.sl (qs.map cel)∧e 2=.fn g []∧e 15=.sl (ps.map cel)∧e 16=.i .i64 ps.length∧e 17=.i .i64 i∧JV p ps qs=JV p (ps.drop i) (qs.drop i)) (k:=ps.length) ?_ (Qa F) ?_
 ·refine⟨0,OM,Z0,Z0,Z0,by simp only[List.length_map,go_sem],Zr0,rfl⟩
 rintro r e o ⟨i,hir,h1,h2,h15,h16,h17,hz⟩;dsimp only[Qgk];refine RN (Ad2 h16 h17) ?_;refine Qv (q:=decide ((i:Int) < (ps.length:Int))) (Z0) (fun hc=>?_) (fun hc=>?_)
 ·have hi:i < ps.length:=by simpa using hc
  have hi2:i < qs.length:=by omega
  have hw1:IntKind.i64.wrap ((i:Int)+1)=((i+1:Nat):Int):=by rw[Qi OM OM];rfl
  have hp:(ps.map cel)[i]?=some (cel ps[i]):=by simp [hi]
  have hq:(qs.map cel)[i]?=some (cel qs[i]):=by simp [hi2]
  have hpos:(0:Int)≤(i:Int):=by omega
  have hcall:=h ps[i] (List.getElem_mem _) qs[i] (List.getElem_mem _);rw[List.drop_eq_getElem_cons hi,List.drop_eq_getElem_cons hi2,JV] at hz;refine RT (Ad4 h1 h2 h15 (Ad5 h16 h17 hpos hp hq)) ?_;refine U_pv (g:=g) (cs:=[]) (vs:=[.ag (cel ps[i]),.ag (cel qs[i])]) (ws:=[.ag (cel ps[i]),.ag (cel qs[i])]) (r:=.bo (p ps[i] qs[i])) (Z1 h2) (Zr0) (Zp (by simp only[List.all_cons,List.all_nil,Bool.and_true,go_sem])) (Bool.or_eq_true_iff.2 (.inr rfl)) rfl hcall ?_;refine RN trivial ?_;refine Qv (q:=!p ps[i] qs[i]) (Z0) (fun hc2=>?_) (fun hc2=>?_)
  ·refine RN trivial ?_;refine congrArg some (congrArg V.bo ?_);rw[hz];simp_all
  ·refine RN (Ad2 h17 hw1) ?_
   refine⟨r - 1,OM,i+1,OM,Z1 h1,Z1 h2,Z1 h15,Z1 h16,Z0,?_⟩
   rw[hz];simp_all
 ·have hi:i=ps.length:=by
   have:¬ i < ps.length:=by simpa using hc
   omega
  refine RN trivial ?_;refine congrArg some (congrArg V.bo ?_);rw[hz,hi,List.drop_length,QaQ,hlen];simp
mutual
def Y2:Nd→Nd→Bool
 | .mk k s ps lo hi,.mk k' s' ps' lo' hi'=>k==k'&&(s 0==s' 0&&(s 1==s' 1&&(s 2==s' 2&&s 3==s' 3)))&&lo==lo'&&hi==hi'&&H4 ps ps'
def H4:List Nd→List Nd→Bool
 | [],[]=>true
 | p::ps,q::qs=>Y2 p q&&H4 ps qs
 | _,_=>false
end
theorem Hw:∀ (ps qs:List Nd),H4 ps qs=(ps.length==qs.length&&JV Y2 ps qs)
 | [],[]=>rfl
 | [],_::_=>rfl
 | _::_,[]=>rfl
 | p::ps,q::qs=>by
  rw[H4,Hw ps qs,JV]
  have:(ps.length+1==qs.length+1)=(ps.length==qs.length):=by simp
  rw[List.length_cons,List.length_cons,this];cases Y2 p q<;>cases (ps.length==qs.length)<;>rfl
set_option maxHeartbeats 1000000 in
theorem QcQ:∀ (a b:Nd),Zv a→Zv b→Pu F 120 [.ag (cel a),.ag (cel b)] (.bo (Y2 a b))
 | .mk k s ps lo hi,.mk k' s' ps' lo' hi',ha,hb=>by
  have ih:∀ p∈ps,∀ q∈ps',Pu F 120 [.ag (cel p),.ag (cel q)] (.bo (Y2 p q)):=fun p hp q hq=>QcQ p q ((QX ps).1 ha.2.2 p hp) ((QX ps').1 hb.2.2 q hq);have hE:=Qke ps ps' ha.2.1 120 Y2 ih;have nn:∀ a b:Nat,((a:Int)==(b:Int))=(a==b):=fun a b=>by rw[Bool.eq_iff_iff];simp;omega
  refine Qh e120 rfl rfl (by simp only[go_sem,Bool.and_true]) ?_;dsimp only[QjT,c120];rw[QZ,QZ];(repeat' (first|(with_reducible (first|refine YK ?_|refine ZM ?_|refine Y3 ?_|refine WB ?_|refine X_nx ?_|((first|refine U_q (v:=?_) ?h1 ?_|refine U_ld (v:=?_) ?h1 ?_|refine E_1 (v:=?_) ?h1 ?_|refine U_gt ?h1 ?_);case h1=>((try simp only[nd8,List.take_succ_cons,List.take_zero,List.drop_succ_cons,eqV,eqps,lfEq,nn,go_sem])<;>rfl))|(refine VI (cs:=?_) (cs':=?_) (n:=?_) ?h1 ?h2 ?h3 ?h4 ?_;case h1|h2|h3|h4=>((try simp only[nd8,List.take_succ_cons,List.take_zero,List.drop_succ_cons,eqV,eqps,lfEq,nn,go_sem])<;>rfl))|(refine Vs ?h1 ?_;case h1=>((try simp only[nd8,List.take_succ_cons,List.take_zero,List.drop_succ_cons,eqV,eqps,lfEq,nn,go_sem])<;>rfl))))|((with_reducible refine U_pc (g:=125) (r:=.bo (ps.length==ps'.length&&JV Y2 ps ps')) (vs:=?_) (ws:=?_) ?h1 ?h2 ?h3 ?h4 ?h5 ?_);(case h1=>((try simp only[nd8,List.take_succ_cons,List.take_zero,List.drop_succ_cons,eqV,eqps,lfEq,nn,go_sem])<;>rfl));(case h2=>refine Zp ?_;first|rfl|simp only[List.all_cons,List.all_nil,Bool.and_true,go_sem]);(case h5=>exact hE);(case h3=>first|exact Bool.or_eq_true_iff.2 (.inr rfl)|(refine Bool.or_eq_true_iff.2 (.inl ?_);simp only[clos,List.all_cons,List.all_nil,Bool.and_true,go_sem]));(case h4=>first|rfl|simp only[go_sem,Bool.and_true]))|with_reducible (refine U_gb (q:=?_) ?h1 (fun _=>?_) (fun _=>?_);case h1=>((try simp only[nd8,List.take_succ_cons,List.take_zero,List.drop_succ_cons,eqV,eqps,lfEq,nn,go_sem])<;>rfl))|with_reducible (refine Qv (q:=?_) ?h1 (fun _=>?_) (fun _=>?_);case h1=>((try simp only[nd8,List.take_succ_cons,List.take_zero,List.drop_succ_cons,eqV,eqps,lfEq,nn,go_sem])<;>rfl))));all_goals clear ih hE ha hb nn
  all_goals (refine congrArg some (congrArg V.bo ?_);rw[Y2,Hw];simp_all)
termination_by a=>SizeOf.sizeOf a
decreasing_by
 have:=List.sizeOf_lt_of_mem hp
 simp;omega
def zSet:Nat→Nat:=fun _=>0
def noN:Nd:=.mk 0 zSet [] 0 0
def oneN (k:Int):List Nd→Nd
 | []=>noN
 | [p]=>p
 | ps=>.mk k zSet ps 0 0
def Yy (o:O) (k:Int) (s:Nat→Nat) (ps:List Nd) (lo hi:Int) (x:V) (hx:frzU 23 o x=some (.sl (ps.map cel))):fzU o (.ag (nd8 k s x lo hi))=some (.ag (cel (.mk k s ps lo hi))):=by
 rw[QZ];unfold fzU FZ;show (([V.i .i64 k,.i .u64 (s 0),.i .u64 (s 1),.i .u64 (s 2),.i .u64 (s 3),x,.i .i64 lo,.i .i64 hi]).mapM (frzU 23 _)).map V.ag=_;simp only[List.mapM_cons,hx];rfl
def Yn (p:Nd) (lo hi:Int):Nd :=
 bif (hi==0) then noN else bif (p.kind==0) then noN else bif QD p then noN
 else bif (lo==1) then (bif (hi==1) then p else .mk 4 zSet [p] (bif QU p then 0 else lo) hi)
 else .mk 4 zSet [p] (bif QU p then 0 else lo) hi
def Dk (n:Nd) (j:Nat):∀ v∈cel n,okf (j+1) v=true:=by
 cases n;intro v hv;simp [cel,nd8] at hv;rcases hv with rfl|rfl|rfl|rfl|rfl|rfl|rfl|rfl<;>rfl
def QeS {l:List Nd} (h:o s=some (.row 8 (l.map cel))) (hn:l.length=n):frzU 23 o (.rw s 8 0 n)=some (.sl (l.map cel)):=by
 have hs:src o (.rw s 8 0 n)=some (l.map cel):=by
  simp only[src,h];rw[if_pos (by simp;omega)];simp [List.take_of_length_le,hn]
 have hm:((l.map cel).mapM fun c:List V=>c.mapM (frzU 22 o))=some (l.map cel):=ZR fun c hc v hv=>by
  obtain⟨p,_,rfl⟩:=List.mem_map.1 hc;exact WN _ _ (Dk p 21 v hv)
 simp only[frzU,hs,hm];rfl
def Zz (p:Nd):(cel p)[0]?=some (.i .i64 p.kind):=by cases p;rfl
set_option maxHeartbeats 2000000 in
def Qeb (p:Nd) (hp:Zv p) (hf:Qe p=true) (lo hi:Int):Pu F 102 [.ag (cel p),.i .i64 lo,.i .i64 hi] (.ag (cel (Yn p lo hi))):=by
 have hv:=KR p hp hf;have hn:=VZ p hp hf;refine Qh e102 rfl rfl (by simp only[go_sem,Bool.and_true]) ?_;dsimp only[Qi6,c102];(repeat' (first|(with_reducible (first|refine YK ?_|refine ZM ?_|refine Y3 ?_|refine K8 ?_|refine Hx ?_|refine WB ?_|refine X_nx ?_|refine X_rt ?_|refine B_nx ?_|refine B_rt ?_|((first|refine U_q (v:=?_) ?h1 ?_|refine U_ld (v:=?_) ?h1 ?_|refine E_1 (v:=?_) ?h1 ?_|refine Hz (n:=?_) ?h1 ?_|refine U_gt ?h1 ?_|refine Wp ?h1 ?_);case h1=>((try simp only[Zz,go_sem])<;>rfl))|(refine VI (cs:=?_) (cs':=?_) (n:=?_) ?h1 ?h2 ?h3 ?h4 ?_;case h1|h2|h3|h4=>((try simp only[Zz,go_sem])<;>rfl))|(refine Wd (id:=?_) (i:=?_) (j:=?_) (q:=?_) (es:=?_) (cs:=?_) (vs:=?_) (es':=?_) ?h1 ?h2 ?h3 ?h4 ?h5 ?h6 ?h7 ?_;case h1|h2|h3|h4|h5|h6|h7=>((try simp only[Zz,go_sem])<;>rfl))|(refine Qcy (es:=?_) (es':=?_) ?h1 ?h2 ?h3 ?_;case h1|h2|h3=>((try simp only[Zz,go_sem])<;>rfl))|((first|refine Qcl ?h1 ?_|refine Vs ?h1 ?_|refine Ws ?h1 ?_);case h1=>((try simp only[Zz,go_sem])<;>rfl))|rw[Q0]))|((with_reducible refine U_pc (g:=99) (r:=.bo (QD p)) (vs:=?_) (ws:=?_) ?h1 ?h2 ?h3 ?h4 ?h5 ?_);(case h1=>((try simp only[Zz,go_sem])<;>rfl));(case h2=>refine Zp ?_;first|rfl|simp only[List.all_cons,List.all_nil,Bool.and_true,go_sem]);(case h5=>exact hv);(case h3=>first|exact Bool.or_eq_true_iff.2 (.inr rfl)|(refine Bool.or_eq_true_iff.2 (.inl ?_);simp only[clos,List.all_cons,List.all_nil,Bool.and_true,go_sem]));(case h4=>first|rfl|simp only[go_sem,Bool.and_true]))|((with_reducible refine U_pc (g:=104) (r:=.bo (QU p)) (vs:=?_) (ws:=?_) ?h1 ?h2 ?h3 ?h4 ?h5 ?_);(case h1=>((try simp only[Zz,go_sem])<;>rfl));(case h2=>refine Zp ?_;first|rfl|simp only[List.all_cons,List.all_nil,Bool.and_true,go_sem]);(case h5=>exact hn);(case h3=>first|exact Bool.or_eq_true_iff.2 (.inr rfl)|(refine Bool.or_eq_true_iff.2 (.inl ?_);simp only[clos,List.all_cons,List.all_nil,Bool.and_true,go_sem]));(case h4=>first|rfl|simp only[go_sem,Bool.and_true]))|with_reducible (refine U_gb (q:=?_) ?h1 (fun _=>?_) (fun _=>?_);case h1=>((try simp only[Zz,go_sem])<;>rfl))|with_reducible (refine Qv (q:=?_) ?h1 (fun _=>?_) (fun _=>?_);case h1=>((try simp only[Zz,go_sem])<;>rfl))));all_goals clear hv hn hp hf
 all_goals simp only[Yn,cond_true,cond_false, *]
 all_goals first
  | exact Yy _ 0 zSet [] 0 0 .nil rfl
  | exact JM (by simp only[go_sem])
  | exact Yy _ 4 zSet [p] _ hi _ (QeS (l:=[p]) (n:=1) (by simp only[go_sem]) rfl)
  | skip
mutual
def cntN:Nd→Nat
 | .mk _ _ ps _ _=>1+cntL ps
def cntL:List Nd→Nat
 | []=>0
 | p::ps=>cntN p+cntL ps
end
mutual
def put1 (k:Int):List Nd→Nd→List Nd
 | l,.mk k2 s ps lo hi =>
  if k2=k then putL k l ps
  else if k=2∧k2=0 then l
  else if k=3∧(QD (.mk k2 s ps lo hi)||l.any (Y2 (.mk k2 s ps lo hi)))=true then l
  else l++[.mk k2 s ps lo hi]
def putL (k:Int):List Nd→List Nd→List Nd
 | l,[]=>l
 | l,p::ps=>putL k (put1 k l p) ps
end
def okN (n:Nd):Prop:=Zv n∧Qe n=true
def Zn {n:Nd} (h:okN n):(∀ p∈n.parts,okN p)∧n.parts.length < 9223372036854775808:=by
 cases n with
 | mk k s ps lo hi =>
  obtain⟨h1,h2⟩:=h;rw[Qe,Bool.and_eq_true,Zw] at h2
  exact⟨fun p hp=>⟨(QX ps).1 h1.2.2 p hp,List.all_eq_true.1 h2.2 p hp⟩,h1.2.1⟩
mutual
theorem QcH (k:Int):∀ (l:List Nd) (p:Nd),okN p→(∀ q∈l,okN q)→(∀ q∈put1 k l p,okN q)∧(put1 k l p).length≤l.length+cntN p
 | l,.mk k2 s ps lo hi,hp,hl=>by
  rw[put1,cntN];split
  ·have:=KC k l ps (Zn hp).1 hl
   exact⟨this.1,OM⟩
  ·split
   ·exact⟨hl,OM⟩
   ·split
    ·exact⟨hl,OM⟩
    ·refine⟨fun q hq=>?_,by rw[List.length_append];simp only[List.length_cons,List.length_nil];omega⟩
     rcases List.mem_append.1 hq with h|h
     ·exact hl q h
     ·simp at h;rw[h];exact hp
theorem KC (k:Int):∀ (l ps:List Nd),(∀ p∈ps,okN p)→(∀ q∈l,okN q)→(∀ q∈putL k l ps,okN q)∧(putL k l ps).length≤l.length+cntL ps
 | l,[],_,hl=>by rw[putL,cntL];exact⟨hl,OM⟩
 | l,p::ps,hp,hl=>by
  rw[putL,cntL];have h1:=QcH k l p (hp p SM) hl;have h2:=KC k (put1 k l p) ps (fun q hq=>hp q (by simp [hq])) h1.1
  exact⟨h2.1,OM⟩
end
def Qis (k:Int) (l:List Nd) (p:Nd):put1 k l p =
  if p.kind=k then putL k l p.parts
  else bif (k==2)&&(p.kind==0) then l
  else bif (k==3)&&(QD p||l.any (Y2 p)) then l
  else l++[p]:=by
 have c:∀ (b:Bool) (x y:List Nd),(bif b then x else y)=if b=true then x else y:=fun b x y=>by cases b<;>rfl
 cases p;rw[put1,c,c];simp only[Bool.and_eq_true,beq_iff_eq];rfl
def Qfp (p:Nd):(cel p)[5]?=some (.sl (p.parts.map cel)):=by cases p;rw[QZ];rfl
def Wk (d:Nat) (l:List Nd):List.map (swpL d) (List.map cel l)=List.map cel l:=by
 rw[List.map_map];exact List.map_congr_left fun p _=>Qap d p
def ZX (l:List Nd):okLL (l.map cel)=true:=List.all_eq_true.2 fun c hc=>by
 obtain⟨p,_,rfl⟩:=List.mem_map.1 hc
 have:=Xw p.parts
 cases p with
 | mk k s ps lo hi=>rw[QZ];simp [nd8,okL,ok];exact this
def K7 (l:List Nd):ok (.sl (l.map cel))=true:=by rw[ok];exact Xw l
def HK (p:Nd):SizeOf.sizeOf p.parts < SizeOf.sizeOf p:=by cases p;simp [Nd.parts];omega
def Qkc (p q:Nd) (hp:Zv p) (hq:Zv q):Pu F 119 [.ag (cel q),.ip (cel p) 0] (.bo (Y2 p q)):=by
 refine Qh e119 rfl rfl (by simp only[go_sem,Bool.and_true]) ?_;dsimp only[Qkv,c119];(repeat' (first|refine RSN trivial ?_|((with_reducible refine PCN trivial (r:=.bo (Y2 p q)) ?h ?_);case h=>exact (QcQ p q hp hq))|with_reducible refine GBN trivial (fun _=>?_) (fun _=>?_)|with_reducible refine GDN trivial (fun _=>?_) (fun _=>?_)));rfl
attribute [go_sem] Wk Zz Qfp
def QhO (h:o s=some (.row 8 [cel p])):fzU o (.fn 119 [.pt s 0 0])=some (.fn 119 [.ip (cel p) 0]):=by
 have hm:(cel p).mapM (frzU 22 o)=some (cel p):=Yr fun v hv=>WN _ _ (Dk p 21 v hv);unfold fzU FZ;simp only[frzU,Qz,h,List.mapM_cons,List.mapM_nil,List.getElem?_cons_zero,hm];rfl
set_option maxHeartbeats 2000000 in
def Qk2 (k:Int):∀ (n:Nat) (ps l:List Nd),SizeOf.sizeOf ps < n→(∀ p∈ps,okN p)→(∀ q∈l,okN q)→l.length+cntL ps≤1000→ps.length < 9223372036854775808 →
  ApC (Call F) 101 (fun v=>[V.i .i64 k]++v::[.sl (ps.map cel)]) 8 (l.map cel) ((putL k l ps).map cel):=by
 intro n;induction n with
 | zero=>intro ps l h;omega
 | succ n ih =>
  intro ps l hn hps hl hcnt hlen;refine QmP e101 rfl rfl rfl (by rw[okL,K7];rfl) (ZX _) (ZX _) ?_;dsimp only[QkQ,c101];(repeat (with_reducible (first|refine YK ?_|refine ZM ?_|refine Y3 ?_|refine K8 ?_|refine X_nx ?_|(refine U_q (v:=?_) ?h1 ?_;case h1=>((try simp only[List.cons_append,List.nil_append,List.length_map,go_sem])<;>rfl)))));refine U_lp (fun r e o=>∃ (j:Nat) (acc:List Nd),j+r=ps.length∧e 0=.i .i64 k∧e 1=ownV 999999 8 (acc.map cel)∧(acc≠[]→o 999999=some (.row 8 (acc.map cel)))∧e 9=.sl (ps.map cel)∧e 10=.i .i64 ps.length∧e 11=.i .i64 j ∧
   putL k acc (ps.drop j)=putL k l ps∧(∀ q∈acc,okN q)∧acc.length+cntL (ps.drop j)≤1000) (k:=ps.length) ?_ (Qa F) ?_
  ·refine⟨0,l,OM,by simp only[List.cons_append,List.nil_append,go_sem],by simp only[List.cons_append,List.nil_append,go_sem],fun h=>?_,by simp only[List.cons_append,List.nil_append,go_sem],by simp only[List.cons_append,List.nil_append,List.length_map,go_sem],Zr0,rfl,hl,hcnt⟩
   rw[if_neg (by simpa using h)];exact Wy _ _ _
  clear hl hcnt;rintro r e o ⟨j,acc,hjr,h0,h1,ho,h9,h10,h11,hput,hacc,hcnt⟩;dsimp only[QfA];refine RN (Ad2 h10 h11) ?_;refine Qv (q:=decide ((j:Int) < (ps.length:Int))) (Z0) (fun hc=>?_) (fun hc=>?_)
  ·have hj:j < ps.length:=by simpa using hc
   have hp:(ps.map cel)[j]?=some (cel ps[j]):=by simp [hj]
   have hpos:(0:Int)≤(j:Int):=by omega
   have hw1:IntKind.i64.wrap ((j:Int)+1)=((j+1:Nat):Int):=by rw[Qi OM OM];rfl
   have hpk:=hps ps[j] (List.getElem_mem _);have hsz:SizeOf.sizeOf ps[j] < SizeOf.sizeOf ps:=List.sizeOf_lt_of_mem (List.getElem_mem _);rw[List.drop_eq_getElem_cons hj,putL] at hput;rw[List.drop_eq_getElem_cons hj,cntL] at hcnt;have hok:=QcH k acc ps[j] hpk hacc;generalize hpp:ps[j]=p at *;rw[Qis] at hput hok;have hcel1:1≤cntN p:=by cases p;rw[cntN];omega
   refine RT (Ad3 h0 h1 (Ad5 h9 h10 h11 hpos hp)) ?_;refine Qv (q:=p.kind==k) (Z0) (fun hk=>?_) (fun hk=>?_)
   ·
    have hk:p.kind=k:=eq_of_beq hk;rw[if_pos hk] at hput hok;have hcp:cntL p.parts≤cntN p:=by cases p;rw[cntN];simp [Nd.parts]
    have hap:=ih p.parts acc (by have:=HK p;omega) (Zn hpk).1 hacc OM (Zn hpk).2;refine RN (Ad2 h0 h1) ?_;refine U_ap 999999 (pre:=[.i .i64 k]) (post:=[.sl (p.parts.map cel)]) OM (Zr2 h0 h1) rfl (by rw[okL,K7];rfl) (ZX _) (ZX _) (fun h=>?_) hap ?_
    ·have:=ho (by simpa using h)
     simp only[this,go_sem]
    refine RN (Ad2 h11 hw1) ?_
    refine⟨r - 1,OM,j+1,_,OM,Z1 h0,Z0,fun h=>?_,Z1 h9,Z1 h10,Z0,hput,hok.1,OM⟩
    rw[if_neg (by simpa using h)];exact Wy _ _ _
   have hk:¬ p.kind=k:=by simpa using hk
   rw[if_neg hk] at hput hok;have keep:∀ (e':E) (o':O) (acc':List Nd),putL k acc' (ps.drop (j+1))=putL k l ps→(∀ q∈acc',okN q)→acc'.length≤acc.length+cntN p→e' 0=.i .i64 k→e' 1=ownV 999999 8 (acc'.map cel)→(acc'≠[]→o' 999999=some (.row 8 (acc'.map cel)))→e' 9=.sl (ps.map cel)→e' 10=.i .i64 ps.length→e' 11=.i .i64 ((j+1:Nat):Int) →
     ∃ k',k' < r∧∃ (j:Nat) (acc:List Nd),j+k'=ps.length∧e' 0=.i .i64 k∧e' 1=ownV 999999 8 (acc.map cel)∧(acc≠[]→o' 999999=some (.row 8 (acc.map cel)))∧e' 9=.sl (ps.map cel)∧e' 10=.i .i64 ps.length∧e' 11=.i .i64 j ∧
      putL k acc (ps.drop j)=putL k l ps∧(∀ q∈acc,okN q)∧acc.length+cntL (ps.drop j)≤1000 :=
    fun e' o' acc' g1 g2 g3 g4 g5 g6 g7 g8 g9=>⟨r - 1,OM,j+1,acc',OM,g4,g5,g6,g7,g8,g9,g1,g2,OM⟩
   have hv:=KR p hpk.1 hpk.2;have hc38:Pu F 97 [.sl (acc.map cel),.fn 119 [.ip (cel p) 0]] (.bo (acc.any (Y2 p))) :=
    V9 cel QI acc OM 119 [.ip (cel p) 0] rfl (Y2 p) (fun q hq=>⟨[.ag (cel q),.ip (cel p) 0],fun o=>Jk (by simp [FZ,okd,Wa]),Qkc p q hpk.1 (hacc q hq).1⟩) emp _ (fun _=>rfl)
   have hoA:∀ o':O,(acc≠[]→o' 999999=some (.row 8 (acc.map cel)))→fzU o' (ownV 999999 8 (acc.map cel))=some (.sl (acc.map cel)):=fun o' h=>D2 23 (fun hh=>h (by simpa using hh)) fun c hcm v hv=>by
    obtain⟨q,_,rfl⟩:=List.mem_map.1 hcm;exact Dk q 22 v hv
   (repeat' (first|refine RSN (Ad4 h0 h1 h11 hw1) ?_|((with_reducible refine PCN (Ad4 h0 h1 h11 hw1) (r:=.bo (QD p)) ?h ?_);case h=>exact hv)|with_reducible refine GBN (Ad4 h0 h1 h11 hw1) (fun _=>?_) (fun _=>?_)|with_reducible refine GDN (Ad4 h0 h1 h11 hw1) (fun _=>?_) (fun _=>?_)));all_goals clear ih
   any_goals
    refine U_pc (g:=97) (r:=.bo (acc.any (Y2 p))) (vs:=[ownV 999999 8 (acc.map cel),.fn 119 [.pt 8 0 0]]) (ws:=[.sl (acc.map cel),.fn 119 [.ip (cel p) 0]]) (Z1 h1) (Hs (hoA _ fun hh=>by simp only[ho hh,go_sem]) (Hs (QhO (Z0)) QdQ)) (Bool.or_eq_true_iff.2 (.inr rfl)) rfl hc38 ?_;(repeat' (first|refine RSN (Ad4 h0 h1 h11 hw1) ?_|with_reducible refine GBN (Ad4 h0 h1 h11 hw1) (fun _=>?_) (fun _=>?_)|with_reducible refine GDN (Ad4 h0 h1 h11 hw1) (fun _=>?_) (fun _=>?_)))
   all_goals clear hc38 hv hoA
   all_goals first
    | (simp only[*,Bool.true_and,Bool.and_true,Bool.false_and,Bool.and_false,cond_true,cond_false,Bool.or_true,Bool.true_or,Bool.false_or,Bool.not_true,Bool.not_false] at hput hok;exact keep _ _ acc hput hacc OM (Z1 h0) (Z1 h1) (fun hh=>by simp only[ho hh,go_sem]) (Z1 h9) (Z1 h10) (Z0))
    | (refine YO 999999 (L:=acc.map cel) (ys:=[cel p]) (Z1 h1) (fun hh=>by simp only[ho (by simpa using hh),go_sem]) (by simp only[src,go_sem];rfl) (by intro c hc;simp at hc;rw[hc];exact QI p) SM OM ⟨by simp;omega,OM⟩ (Wk _ _) (by simp only[go_sem]) ?_;refine RN (Ad2 h11 hw1) ?_;simp only[*,Bool.true_and,Bool.and_true,Bool.false_and,Bool.and_false,cond_true,cond_false,Bool.or_true,Bool.true_or,Bool.false_or,Bool.not_true,Bool.not_false] at hput hok;exact keep _ _ (acc++[p]) hput hok.1 (by simp;omega) (Z1 h0) (by simp only[List.map_append,go_sem]) (fun hh=>by simp only[List.map_append,go_sem]) (Z1 h9) (Z1 h10) (Z0))
  ·have hj:j=ps.length:=by
    have:¬ j < ps.length:=by simpa using hc
    omega
   subst hj;rw[List.drop_length,putL] at hput;refine RN h1 ?_
   exact⟨999999,by rw[hput],fun h=>by rw[← hput];exact ho (by rw[hput];simpa using h)⟩
def oneV (k:Int) (ps:List Nd) (v:V):V :=
 match ps with
 | []=>.ag (nd8 0 zSet .nil 0 0)
 | [p]=>.ag (cel p)
 | _=>.ag (nd8 k zSet v 0 0)
def Qb3 {a b:Nat} {x:Ob} (ha:o a=some x) (hb:o b=none):(a==b)=false:=by
 rw[beq_eq_false_iff_ne];intro h;rw[h,hb] at ha;cases ha
def Qjc (k:Int) (ps:List Nd) (hl:ps.length < 9223372036854775808):RdC (Call F) 100 (fun v=>[V.i .i64 k]++v::[]) 8 (ps.map cel) (oneV k ps):=by
 intro v o K hv hK;have hlen:JZ v=some (.i .i64 ps.length):=by
  rcases hv with⟨h,rfl⟩|⟨_,id,rfl,_⟩
  ·have:ps=[]:=by simpa using h
   rw[this];rfl
  ·simp [JZ]
 show Call F 100 [.i .i64 k,v] o K;refine Yb e100 rfl ?_;dsimp only[QiZ,c100];refine C_sq ?_;refine C_rg ?_;refine QmD fun ia hia=>?_;have hold:∀ (ob:Ob) i x,o i=some x→upd (upd o ia (some (.row 8 [[.i .i64 0,.i .u64 0,.i .u64 0,.i .u64 0,.i .u64 0,.nil,.i .i64 0,.i .i64 0]]))) ia (some ob) i=some x:=fun ob i x hi=>by
  have:i≠ia:=fun hh=>by rw[hh,hia] at hi;cases hi
  simp only[upd,if_neg this];exact hi
 refine RXN trivial ?_;refine R_q (v:=.i .i64 ps.length) (by simp only[qv,ev_t,Wy];exact hlen) ?_;have hz8:∀ cs:List V,cs.length=8→splice 0 cs [V.i .i64 0,.i .u64 0,.i .u64 0,.i .u64 0,.i .u64 0,.nil,.i .i64 0,.i .i64 0]=cs:=fun cs h=>Wb (by rw[h];rfl)
 match ps,hv,hK,hlen with
 | [],hv,hK,_ =>
  refine RXN trivial ?_;refine Qif (id:=ia) (i:=0) (j:=0) (vs:=nd8 0 zSet .nil 0 0) (Z0) (Wy _ _ _) rfl (Zr0) rfl rfl SM ?_;refine RXN trivial ?_;refine E_1 (v:=oneV k [] v) (by (simp only[nd8,List.drop_zero,List.take_succ_cons,List.take_zero,go_sem]<;>rfl)) ?_;exact hK _ (hold _)
 | [p],hv,hK,_ =>
  rcases hv with⟨h,_⟩|⟨_,id,rfl,ho⟩
  ·cases h
  have hne:(id==ia)=false:=Qb3 ho hia;refine RXN (Ad2 hne ho) ?_;refine Qif (id:=ia) (i:=0) (j:=0) (vs:=cel p) (Z0) (Wy _ _ _) rfl (Zr0) rfl (QI _) SM ?_;rw[hz8 _ (QI p)];refine RXN trivial ?_;exact hK _ (hold _)
 | p::q::ps,hv,hK,_ =>
  rcases hv with⟨h,_⟩|⟨_,id,rfl,ho⟩
  ·cases h
  have n0:(((ps.length+1+1:Nat):Int)==0)=false:=by rw[beq_eq_false_iff_ne];omega
  have n1:(((ps.length+1+1:Nat):Int)==1)=false:=by rw[beq_eq_false_iff_ne];omega
  refine RXN (Ad2 n0 n1) ?_;refine Qif (id:=ia) (i:=0) (j:=0) (vs:=nd8 k zSet (.rw id 8 0 ((p::q::ps).map cel).length) 0 0) (Z0) (Wy _ _ _) rfl (Zr0) rfl rfl SM ?_;refine RXN trivial ?_;refine E_1 (v:=oneV k (p::q::ps) (.rw id 8 0 ((p::q::ps).map cel).length)) (by (simp only[nd8,List.drop_zero,List.take_succ_cons,List.take_zero,go_sem]<;>rfl)) ?_;exact hK _ (hold _)
mutual
def Qb:Nd→Nd
 | .mk k s ps lo hi =>
  if QD (.mk k s ps lo hi)=true then .mk 1 zSet [] 0 0
  else if k=2∨k=3 then oneN k (putL k [] (Qd ps))
  else if k=4 then Yn (YU ps) lo hi
  else .mk k s ps lo hi
def Qd:List Nd→List Nd
 | []=>[]
 | p::ps=>Qb p::Qd ps
def YU:List Nd→Nd
 | []=>noN
 | p::_=>Qb p
end
def DJ (l m:List Nd):cntL (l++m)=cntL l+cntL m:=by induction l with
 | nil=>simp [cntL]
 | cons p l ih=>simp [cntL,ih];omega
def QhI (l:List Nd):l.length≤cntL l:=by induction l with
 | nil=>simp
 | cons p l ih=>have:1≤cntN p:=by cases p;rw[cntN];omega
                rw[List.length_cons,cntL];omega
mutual
theorem Qfr (k:Int):∀ (l:List Nd) (p:Nd),cntL (put1 k l p)≤cntL l+cntN p
 | l,.mk k2 s ps lo hi=>by
  rw[put1,cntN];split
  ·have:=Kz k l ps;omega
  ·split
   ·omega
   ·split
    ·omega
    ·rw[DJ,cntL,cntL,cntN];omega
theorem Kz (k:Int):∀ (l ps:List Nd),cntL (putL k l ps)≤cntL l+cntL ps
 | l,[]=>by rw[putL,cntL];omega
 | l,p::ps=>by
  rw[putL,cntL];have h1:=Qfr k l p;have h2:=Kz k (put1 k l p) ps;omega
end
def HA {lo hi:Int} {ps:List Nd} (hs:Qk k zSet ps.length lo hi=true) (hl:ps.length < 9223372036854775808) (h:∀ p∈ps,okN p):okN (.mk k zSet ps lo hi) :=
 ⟨⟨fun j _=>by simp [zSet],hl,(QX ps).2 fun p hp=>(h p hp).1⟩,by rw[Qe,hs,Zw];simpa using fun p hp=>(h p hp).2⟩
def QgV (hk:k=2∨k=3) (l:List Nd) (h:∀ p∈l,okN p) (hl:l.length < 9223372036854775808):okN (oneN k l)∧cntN (oneN k l)≤1+cntL l:=by
 match l with
 | []=>exact⟨HA (by simp [Qk,Qq,zSet]) SM SM,by simp [oneN,noN,cntN,cntL]⟩
 | [p]=>exact⟨h p SM,by simp [oneN,cntL]⟩
 | p::q::l =>
  refine⟨HA ?_ hl h,by simp [oneN,cntN]⟩
  rcases hk with rfl|rfl<;>simp [Qk,Qq,zSet]
def Qc2 (hp:okN p) {lo hi:Int} (h0:0≤lo) (h1:lo≤2147483647) (h2:hi = -1∨lo≤hi∧hi≤2147483647):okN (Yn p lo hi)∧cntN (Yn p lo hi)≤1+cntN p:=by
 have hno:okN noN∧cntN noN≤1+cntN p:=⟨HA (by simp [Qk,Qq,zSet]) SM SM,by simp [noN,cntN,cntL]⟩;have hmk:∀ b:Bool,okN (.mk 4 zSet [p] (bif b then 0 else lo) hi)∧cntN (.mk 4 zSet [p] (bif b then 0 else lo) hi)≤1+cntN p:=fun b =>
  ⟨HA (by cases b<;>simp [Qk,Qq,zSet]<;>omega) SM (by simpa using hp),by simp [cntN,cntL]⟩
 unfold Yn;cases (hi==0)<;>cases (p.kind==0)<;>cases (QD p)<;>cases (lo==1)<;>cases (hi==1)<;>first|exact hno|exact hmk _|exact⟨hp,SM⟩
def We (k:Int) (s:Nat→Nat) (ps:List Nd) (lo hi:Int):Qb (.mk k s ps lo hi)=if QD (.mk k s ps lo hi)=true then .mk 1 zSet [] 0 0
  else if k=2∨k=3 then oneN k (putL k [] (Qd ps))
  else if k=4 then Yn (YU ps) lo hi
  else .mk k s ps lo hi:=by rw[Qb]
def XB (ps:List Nd):Qd ps=ps.map Qb:=by induction ps with
 | nil=>rfl
 | cons p ps ih=>simp [Qd,ih]
mutual
theorem Ys:∀ (n:Nd),okN n→cntN n≤1000→okN (Qb n)∧cntN (Qb n)≤cntN n
 | .mk k s ps lo hi,h,hc=>by
  rw[cntN] at hc;have hps:=(Zn h).1;have hpl:=(Zn h).2;have hf:=h.2;rw[Qe,Bool.and_eq_true] at hf;have h1:=Jc ps hps OM;rw[We,cntN];split
  ·exact⟨HA (by simp [Qk]) SM SM,by simp [cntN,cntL]⟩
  ·split
   ·rename_i hk;have h2:=KC k [] (Qd ps) h1.1 SM;have h3:=Kz k [] (Qd ps);have hlen:(Qd ps).length=ps.length:=by rw[XB];simp
    have h4:=QgV hk (putL k [] (Qd ps)) h2.1 (by have:=h2.2;rw[List.length_nil] at this;omega)
    refine⟨h4.1,?_⟩
    rw[cntL] at h3;omega
   ·split
    ·rename_i h4;subst h4;obtain⟨g1,g2,g3,g4⟩:=Wu hf.1;obtain⟨p,rfl⟩:=List.length_eq_one_iff.1 g1;have hc':1+(cntN p+0)≤1000:=by simpa [cntL] using hc
     have h5:=Ys p (hps p (by simp [Nd.parts])) OM;have h6:=Qc2 h5.1 g2 g3 g4
     refine⟨h6.1,?_⟩
     have h7:=h6.2;simp only[YU,cntL];omega
    ·exact⟨h,by simp [cntN]⟩
theorem Jc:∀ (ps:List Nd),(∀ p∈ps,okN p)→cntL ps≤1000→(∀ p∈Qd ps,okN p)∧cntL (Qd ps)≤cntL ps
 | [],_,_=>⟨by simp [Qd],by simp [Qd]⟩
 | p::ps,h,hc=>by
  rw[cntL] at hc;have h1:=Ys p (h p SM) OM;have h2:=Jc ps (fun q hq=>h q (by simp [hq])) OM
  refine⟨fun q hq=>?_,by simp only[Qd,cntL];omega⟩
  rw[Qd] at hq;rcases List.mem_cons.1 hq with rfl|hq
  ·exact h1.1
  ·exact h2.1 q hq
end
def HX (s sz:Nat) {L:List (List V)} (h:L≠[]):still s L (ownV s sz L)=.sl L:=by
 rw[ownV,if_neg h,still];simp
def QgL (k:Int) (ps:List Nd) {m:Nm} {v x:V} (h:VR m v x):VR m (oneV k ps v) (oneV k ps x):=by
 match ps with
 | []=>exact YN m _ rfl
 | [p]=>exact YN m _ (by show cld (.ag (cel p))=true;rw[cld,Vz])
 | p::q::ps =>
  refine .ag _ _ rfl fun j a b ha hb=>?_
  match j with
  | 5=>simp [nd8] at ha hb;subst ha;subst hb;exact h
  | 0=>simp [nd8] at ha hb;subst ha;subst hb;exact .i _ _
  | 1=>simp [nd8] at ha hb;subst ha;subst hb;exact .i _ _
  | 2=>simp [nd8] at ha hb;subst ha;subst hb;exact .i _ _
  | 3=>simp [nd8] at ha hb;subst ha;subst hb;exact .i _ _
  | 4=>simp [nd8] at ha hb;subst ha;subst hb;exact .i _ _
  | 6=>simp [nd8] at ha hb;subst ha;subst hb;exact .i _ _
  | 7=>simp [nd8] at ha hb;subst ha;subst hb;exact .i _ _
  | j+8=>simp [nd8] at ha
def He {α β:Type} (f:α→β) (l:List α) {j:Nat} (h:j < l.length):(l.take (j+1)).map f=(l.take j).map f++[f l[j]]:=by
 rw[List.take_add_one,List.getElem?_eq_getElem h,List.map_append];rfl
set_option maxHeartbeats 4000000 in
theorem HE:∀ (n:Nd),okN n→cntN n≤900→Pu F 59 [.ag (cel n)] (.ag (cel (Qb n)))
 | .mk k s ps lo hi,h,hc=>by
  have hps:=(Zn h).1;have hpl:=(Zn h).2;have hf:=h.2;rw[Qe,Bool.and_eq_true,Zw] at hf;rw[cntN] at hc;have hcp:∀ p∈ps,cntN p≤cntL ps:=by
   intro p hp;obtain⟨a,b,rfl⟩:=List.append_of_mem hp;rw[DJ,cntL];omega
  have ih:∀ p∈ps,Pu F 59 [.ag (cel p)] (.ag (cel (Qb p))):=fun p hp=>HE p (hps p hp) (by have:=hcp p hp;omega);have hv:=KR _ h.1 h.2;have hlc:=QhI ps;have hsl:=Jc ps hps OM;have hslm:=XB ps;refine Qh e59 rfl rfl (by simp only[go_sem,Bool.and_true]) ?_;dsimp only[fn59,c59];rw[We];generalize hvv:QD (.mk k s ps lo hi)=vb at hv;rw[QZ] at hv ⊢;(repeat' (first|refine RST nd8.eq_1 ?_|((with_reducible refine PCT nd8.eq_1 (r:=.bo vb) ?h ?_);case h=>exact hv)|with_reducible refine GBT nd8.eq_1 (fun _=>?_) (fun _=>?_)|with_reducible refine GDT nd8.eq_1 (fun _=>?_) (fun _=>?_)))
  ·rename_i hvt;rw[if_pos hvt];exact Yy _ 1 zSet [] 0 0 .nil rfl
  rename_i hvf;rw[if_neg (by rw[hvf];simp)];clear hv;refine U_lp (fun r e o=>∃ j:Nat,j+r=ps.length∧e 1=.pt 1 0 0∧o 1=some (.row 8 [nd8 k s (.sl (ps.map cel)) lo hi])∧e 2=.pt 2 0 0∧o 2=some (.row 8 [nd8 0 zSet .nil 0 0])∧e 3=ownV 20 8 (((ps.take j).map Qb).map cel)∧(((ps.take j).map Qb).map cel≠[]→o 20=some (.row 8 (((ps.take j).map Qb).map cel))) ∧
   e 10=.sl (ps.map cel)∧e 11=.i .i64 ps.length∧e 12=.i .i64 j) (k:=ps.length) ?_ (Qa F) ?_
  ·exact⟨0,OM,Z0,Zr0,Z0,Zr0,Zr0,fun hh=>absurd rfl hh,Z0,by simp only[List.length_map,go_sem],Zr0⟩
  rintro r e o ⟨j,hjr,h1,o1,h2,o2,h3,o3,h10,h11,h12⟩;dsimp only[QlA];refine RN (Ad2 h11 h12) ?_;refine Qv (q:=decide ((j:Int) < (ps.length:Int))) (Z0) (fun hcc=>?_) (fun hcc=>?_)
  ·have hj:j < ps.length:=by simpa using hcc
   have hp:(ps.map cel)[j]?=some (cel ps[j]):=by simp [hj]
   have hpos:(0:Int)≤(j:Int):=by omega
   have hw1:IntKind.i64.wrap ((j:Int)+1)=((j+1:Nat):Int):=by rw[Qi OM OM];rfl
   have hih:=ih ps[j] (List.getElem_mem _);have htk:=He Qb ps hj;have htl:((ps.take j).map Qb).length≤1000:=by simp;omega
   generalize hpp:ps[j]=p at *;generalize hac:(ps.take j).map Qb=acc at *;(repeat' (first|refine RST (Ad4 h1 h2 h3 (Ad5 h10 h11 h12 hpos hp)) ?_|((with_reducible refine PCT (Ad4 h1 h2 h3 (Ad5 h10 h11 h12 hpos hp)) (r:=.ag (cel (Qb p))) ?h ?_);case h=>exact hih)|with_reducible refine GBT (Ad4 h1 h2 h3 (Ad5 h10 h11 h12 hpos hp)) (fun _=>?_) (fun _=>?_)|with_reducible refine GDT (Ad4 h1 h2 h3 (Ad5 h10 h11 h12 hpos hp)) (fun _=>?_) (fun _=>?_)));refine YO 20 (L:=acc.map cel) (ys:=[cel (Qb p)]) (Z1 h3) (fun hh=>by simp only[o3 hh,go_sem]) (by simp only[src,go_sem];rfl) (by intro c hc;simp at hc;rw[hc];exact QI _) SM OM ⟨by simp;omega,OM⟩ (Wk _ _) (by simp only[go_sem]) ?_;refine RN (Ad2 h12 hw1) ?_
   refine⟨r - 1,OM,j+1,OM,Z1 h1,by simp only[o1,nd8,go_sem],Z1 h2,by simp only[o2,nd8,go_sem],?_,fun hh=>?_,Z1 h10,Z1 h11,Z0⟩
   ·rw[htk,List.map_append];simp only[go_sem]
   ·rw[htk,List.map_append];simp only[go_sem]
  ·have hj:j=ps.length:=by
    have:¬ j < ps.length:=by simpa using hcc
    omega
   subst hj;rw[List.take_length,← hslm] at h3 o3;repeat (with_reducible (first|refine Qbv ?_|refine X_ex ?_|refine Jm ?_|refine X_nx ?_))
   refine ZM ?_;refine ZM ?_;by_cases hnil:ps=[]
   ·subst hnil;have h23:k≠2∧k≠3∧k≠4:=by
     have:=hf.1
     refine⟨?_,?_,?_⟩<;>rintro rfl<;>simp [Qk] at this
    rw[if_neg OM,if_neg OM];clear ih hps hsl hslm hcp h hf;(repeat' (first|refine RST (Ad5 h1 o1 h2 o2 nd8.eq_1) ?_|with_reducible refine GBT (Ad5 h1 o1 h2 o2 nd8.eq_1) (fun _=>?_) (fun _=>?_)|with_reducible refine GDT (Ad5 h1 o1 h2 o2 nd8.eq_1) (fun _=>?_) (fun _=>?_)));all_goals first
     | (exfalso;simp_all;done)
     | exact Yy _ k s [] lo hi _ rfl
   ·have hnil2:Qd ps≠[]:=by rw[hslm];simpa using hnil
    have hnil3:(Qd ps).map cel≠[]:=by simpa using hnil2
    have hso:=HX 20 8 hnil3;refine Qac 20 (sz:=8) (es:=(Qd ps).map cel) (o3 hnil3) (ZX _) ?_;by_cases h4:k=4
    ·subst h4;obtain⟨g1,g2,g3,g4⟩:=Wu hf.1;obtain⟨p,rfl⟩:=List.length_eq_one_iff.1 g1;have htm:=Qeb (Qb p) (hsl.1 _ (by simp [Qd])).1 (hsl.1 _ (by simp [Qd])).2 lo hi;rw[if_neg OM,if_pos rfl];simp only[YU];simp only[Qd,List.map_cons,List.map_nil] at hso h3 o3;simp only[Qd,List.map_cons,List.map_nil];clear ih hps hsl hslm hcp h hf;(repeat' (first|refine RST (Ad3 h1 o1 (Ad5 h2 o2 h3 hso nd8.eq_1)) ?_|((with_reducible refine PCT (Ad3 h1 o1 (Ad5 h2 o2 h3 hso nd8.eq_1)) (r:=.ag (cel (Yn (Qb p) lo hi))) ?h ?_);case h=>exact htm)|with_reducible refine GBT (Ad3 h1 o1 (Ad5 h2 o2 h3 hso nd8.eq_1)) (fun _=>?_) (fun _=>?_)|with_reducible refine GDT (Ad3 h1 o1 (Ad5 h2 o2 h3 hso nd8.eq_1)) (fun _=>?_) (fun _=>?_)));all_goals first
      | exact JM (by simp only[go_sem])
      | skip
    by_cases h23:k=2∨k=3
    ·rw[if_pos h23];have hM:=KC k [] (Qd ps) hsl.1 SM;have hMl:(putL k [] (Qd ps)).length < 9223372036854775808:=by have:=hM.2;rw[List.length_nil] at this;omega
     have hap:=Qk2 k (SizeOf.sizeOf (Qd ps)+1) (Qd ps) [] OM hsl.1 SM (by rw[List.length_nil];omega) (by rw[hslm];simpa [Nd.parts] using hpl);have hrd:=Qjc k (putL k [] (Qd ps)) hMl;generalize putL k [] (Qd ps)=M at *;clear ih hps hsl hcp h hf hM;(repeat' (first|refine RST (Ad3 h1 o1 (Ad5 h2 o2 h3 hso nd8.eq_1)) ?_|with_reducible refine GBT (Ad3 h1 o1 (Ad5 h2 o2 h3 hso nd8.eq_1)) (fun _=>?_) (fun _=>?_)|with_reducible refine GDT (Ad3 h1 o1 (Ad5 h2 o2 h3 hso nd8.eq_1)) (fun _=>?_) (fun _=>?_)));any_goals
      (exfalso;simp_all;done)
     all_goals
      refine Ql1 32 (L:=([]:List Nd).map cel) (L':=M.map cel) (pre:=[.i .i64 k]) (post:=[.sl ((Qd ps).map cel)]) OM (Zr0) rfl (by rw[okL,K7];rfl) rfl (ZX _) (fun hh=>absurd rfl hh) hap
       ⟨.inl ⟨.i .i64 k,by simp only[o1,nd8,go_sem],by split<;>simp only[o1,nd8,go_sem],.inl rfl⟩,trivial⟩ ?_
      have hoM:∀ x:O,M.map cel≠[]→(if M.map cel=[] then swpO 32 x else upd (swpO 32 x) 32 (some (.row 8 (M.map cel)))) 32=some (.row 8 (M.map cel)):=fun x hh=>by rw[if_neg hh];exact Wy _ _ _
      have ho2':∀ x:O,x 2=some (.row 8 [nd8 0 zSet .nil 0 0])→(if M.map cel=[] then swpO 32 x else upd (swpO 32 x) 32 (some (.row 8 (M.map cel)))) 2=some (.row 8 [nd8 0 zSet .nil 0 0]):=fun x hh=>by split<;>simp only[hh,nd8,go_sem]
      have hx2:ZK 20 ((Qd ps).map cel) o 2=some (.row 8 [nd8 0 zSet .nil 0 0]):=by simp only[o2,nd8,go_sem]
      refine U_rd 32 (L:=M.map cel) (res:=oneV k M) (pre:=[.i .i64 k]) (post:=[]) (Zr0) rfl rfl (ZX _) (hoM _) hrd (fun m x hh=>QgL k M hh) ?_;have hx3:=ho2' _ hx2;have hx4:=hoM (ZK 20 ((Qd ps).map cel) o);generalize (if M.map cel=[] then swpO 32 (ZK 20 ((Qd ps).map cel) o) else upd (swpO 32 (ZK 20 ((Qd ps).map cel) o)) 32 (some (.row 8 (M.map cel))))=oz at hx3 hx4 ⊢;clear hoM ho2' hap hrd;rcases M with _|⟨p,_|⟨q,M⟩⟩
      ·(repeat (with_reducible (first|refine YK ?_|refine WB ?_|refine X_nx ?_|refine X_rt ?_|refine B_rt ?_|(refine E_1 (v:=?_) ?h1 ?_;case h1=>((try simp only[h2,hx3,nd8,oneV,List.take_succ_cons,List.take_zero,go_sem])<;>rfl))|(refine Wd (id:=?_) (i:=?_) (j:=?_) (q:=?_) (es:=?_) (cs:=?_) (vs:=?_) (es':=?_) ?h1 ?h2 ?h3 ?h4 ?h5 ?h6 ?h7 ?_;case h1|h2|h3|h4|h5|h6|h7=>((try simp only[h2,hx3,nd8,oneV,List.take_succ_cons,List.take_zero,go_sem])<;>rfl)))));exact Yy _ 0 zSet [] 0 0 .nil rfl
      ·(repeat (with_reducible (first|refine YK ?_|refine WB ?_|refine X_nx ?_|refine X_rt ?_|refine B_rt ?_|(refine E_1 (v:=?_) ?h1 ?_;case h1=>((try simp only[h2,hx3,nd8,oneV,List.take_succ_cons,List.take_zero,go_sem])<;>rfl))|(refine Wd (id:=?_) (i:=?_) (j:=?_) (q:=?_) (es:=?_) (cs:=?_) (vs:=?_) (es':=?_) ?h1 ?h2 ?h3 ?h4 ?h5 ?h6 ?h7 ?_;case h1|h2|h3|h4|h5|h6|h7=>((try simp only[h2,hx3,nd8,oneV,List.take_succ_cons,List.take_zero,go_sem])<;>rfl)))));exact JM (by simp only[go_sem,oneN])
      ·(repeat (with_reducible (first|refine YK ?_|refine WB ?_|refine X_nx ?_|refine X_rt ?_|refine B_rt ?_|(refine E_1 (v:=?_) ?h1 ?_;case h1=>((try simp only[h2,hx3,nd8,oneV,List.take_succ_cons,List.take_zero,go_sem])<;>rfl))|(refine Wd (id:=?_) (i:=?_) (j:=?_) (q:=?_) (es:=?_) (cs:=?_) (vs:=?_) (es':=?_) ?h1 ?h2 ?h3 ?h4 ?h5 ?h6 ?h7 ?_;case h1|h2|h3|h4|h5|h6|h7=>((try simp only[h2,hx3,nd8,oneV,List.take_succ_cons,List.take_zero,go_sem])<;>rfl)))));refine Yy _ k zSet (p::q::M) 0 0 _ (D2 22 (fun hh=>?_) fun c hcm v hv=>?_)
       ·have:=hx4 hh
        simp only[this,go_sem]
       ·have hcm2:c∈(p::q::M).map cel:=hcm;obtain⟨z,_,rfl⟩:=List.mem_map.1 hcm2;exact Dk z 21 v hv
    ·rw[if_neg h23,if_neg h4];clear ih hps hsl hslm hcp h hf;(repeat' (first|refine RST (Ad3 h1 o1 (Ad5 h2 o2 h3 hso nd8.eq_1)) ?_|with_reducible refine GBT (Ad3 h1 o1 (Ad5 h2 o2 h3 hso nd8.eq_1)) (fun _=>?_) (fun _=>?_)|with_reducible refine GDT (Ad3 h1 o1 (Ad5 h2 o2 h3 hso nd8.eq_1)) (fun _=>?_) (fun _=>?_)));any_goals
      (exfalso;simp_all;done)
     all_goals exact Yy _ k s ps lo hi _ rfl
termination_by n=>SizeOf.sizeOf n
decreasing_by
 have:=List.sizeOf_lt_of_mem hp
 simp;omega
def Qdz (n:Nd) (h:okN n) (hc:cntN n≤900):Pu F 39 [.ag (cel n)] (.tp [.ag (cel (Qb n)),.i .i64 0]):=by
 have hs:=HE n h hc;have hf:Pu F 58 [.ag (cel n)] (.bo (Qe n)):=JC n h.1 emp _ (fun _=>rfl);rw[h.2] at hf;refine Qh e39 rfl rfl (by simp only[go_sem,Bool.and_true]) ?_;dsimp only[fn39,c39];(repeat' (first|refine RSN trivial ?_|((with_reducible refine PCN trivial (r:=.bo true) ?h ?_);case h=>exact hf)|((with_reducible refine PCN trivial (r:=.ag (cel (Qb n))) ?h ?_);case h=>exact hs)|with_reducible refine GBN trivial (fun _=>?_) (fun _=>?_)|with_reducible refine GDN trivial (fun _=>?_) (fun _=>?_)));refine JM ?_;generalize Qb n=z;cases z;rfl
end Go.Proofs.YtklbhcjmaeedhaaGreatDoor
