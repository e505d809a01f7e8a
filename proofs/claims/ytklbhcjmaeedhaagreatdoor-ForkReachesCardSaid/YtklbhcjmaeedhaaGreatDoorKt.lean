import Derived.Test.YtklbhcjmaeedhaaGreatDoorDa
import Derived.Test.YtklbhcjmaeedhaaGreatDoorIr

namespace Go.Proofs.YtklbhcjmaeedhaaGreatDoor
set_option linter.all false
variable {α:Type}
def idxF {α:Type} (p:α→Bool) (xs:List α):Int:=if xs.any p then ((xs.findIdx p:Nat):Int) else -1
def ZA (p:α→Bool) (xs:List α):decide (idxF p xs≥0)=xs.any p:=by
 unfold idxF;split
 ·rename_i h;rw[h];simp
 ·rename_i h;rw[Bool.not_eq_true] at h;rw[h];simp
def Qkf (enc:α→List V) (henc:∀ x,(enc x).length=8) (xs:List α) (hlen:xs.length < 9223372036854775808) (g:Nat) (cs:List V) (p:α→Bool)
  (hcall:∀ x∈xs,∃ ws,(∀ o:O,fzs o ([.ag (enc x)]++cs)=some ws)∧Call F g ws emp (fun v o'=>fz o' v=some (.bo (p x)))) (o:O) (K:V→O→Prop)
  (hK:∀ o',K (.i .i64 (idxF p xs)) o'):Call F 117 [.sl (xs.map enc),.fn g cs] o K:=by
 refine Yb e117 rfl ?_;dsimp only[Qjj,c117];refine RXT trivial ?_;refine C_lp (fun r e o=>∃ i:Nat,i+r=xs.length∧e 8=.i .i64 i∧e 7=.i .i64 xs.length∧e 0=.sl (xs.map enc)∧e 1=.fn g cs∧∀ x∈xs.take i,p x=false) (k:=xs.length) ?_ (Qa F) ?_
 ·exact⟨0,OM,by (simp only[List.length_map,go_sem]<;>rfl),by simp only[List.length_map,go_sem],Z0,Z0,SM⟩
 rintro r e o ⟨i,hir,h8,h7,h0,h1,hp⟩;dsimp only[QfM];refine RXN (Ad2 h8 h7) ?_;refine C_cd (Zr0) (fun hc=>?_) (fun hc=>?_)
 ·have hi:i < xs.length:=by simpa using hc
  have hxi:xs[i]?=some xs[i]:=List.getElem?_eq_getElem hi;refine RXN (Ad4 h8 h7 h0 h1) ?_;refine R_q (v:=.ip (enc xs[i]) 0) (by simp only[h0,h8,go_sem];rw[if_pos OM];simp [hxi,henc]) ?_;refine R_ld (v:=.ag (enc xs[i])) (by simp only[go_sem];simp [henc];exact List.take_of_length_le (by rw[henc];omega)) ?_;obtain⟨ws,hw1,hw2⟩:=hcall xs[i] (List.getElem_mem _);refine R_pv (g:=g) (cs:=cs) (Z1 h1) rfl (by simp only[go_sem];exact hw1 _) (by simp [flat,FZ]) hw2 ?_;refine RXN trivial ?_;refine C_cd (Zr0) (fun hc=>?_) (fun hc=>?_)
  ·refine RXN h8 ?_;have h2:xs.any p=true:=List.any_eq_true.2 ⟨xs[i],List.getElem_mem _,hc⟩;have h3:xs.findIdx p=i:=(List.findIdx_eq hi).2 ⟨hc,fun j hj=>hp _ (by rw[List.mem_take_iff_getElem];exact⟨j,OM,rfl⟩)⟩;have h4:((i:Nat):Int)=idxF p xs:=by simp [idxF,h2,h3]
   rw[h4];exact hK _
  ·refine RXN h8 ?_
   refine⟨r - 1,OM,i+1,OM,?_,Z1 h7,Z1 h0,Z1 h1,?_⟩
   ·simp only[go_sem];rw[Qi OM OM];rfl
   ·intro x hx;rw[List.take_add_one,hxi] at hx;rcases List.mem_append.1 hx with hx|hx
    ·exact hp x hx
    ·simp at hx;rw[hx];exact hc
 ·refine RXN trivial ?_;have hi:i=xs.length:=by
   have:¬ i < xs.length:=by simpa using hc
   omega
  subst hi;rw[List.take_length] at hp
  have:xs.any p=false:=by
   rw[Bool.eq_false_iff];intro h;obtain⟨x,hx,hpx⟩:=List.any_eq_true.1 h;rw[hp x hx] at hpx;cases hpx
  have h4:(-1:Int)=idxF p xs:=by simp [idxF,this]
  rw[h4];exact hK _
def V9 (enc:α→List V) (henc:∀ x,(enc x).length=8) (xs:List α) (hlen:xs.length < 9223372036854775808) (g:Nat) (cs:List V) (hcs:cs.all (okd 23)=true) (p:α→Bool)
  (hcall:∀ x∈xs,∃ ws,(∀ o:O,fzs o ([.ag (enc x)]++cs)=some ws)∧Call F g ws emp (fun v o'=>fz o' v=some (.bo (p x)))) (o:O) (K:V→O→Prop)
  (hK:∀ o',K (.bo (xs.any p)) o'):Call F 97 [.sl (xs.map enc),.fn g cs] o K:=by
 refine Yb e97 rfl ?_;dsimp only[fn97,c97];refine RXN trivial ?_;refine QaV (r:=.i .i64 (idxF p xs)) rfl (ws:=[.sl (xs.map enc),.fn g cs]) ?_ rfl (Qkf enc henc xs hlen g cs p hcall emp _ (fun o'=>rfl)) ?_
 ·simp only[go_sem];exact Jk (by simp [okd,FZ,hcs])
 (repeat (with_reducible (first|refine QcR ?_|refine C_sq ?_|refine C_rg ?_|refine C_bk ?_|refine C_sk ?_|refine C_ex ?_|refine C_rt ?_|refine X_nx ?_|refine X_ex ?_|refine X_rt ?_|refine B_nx ?_|refine Jm ?_|(refine B_ne RM ?_)|refine B_rt ?_|((first|refine R_q (v:=?_) ?h1 ?_|refine R_ld (v:=?_) ?h1 ?_|refine QcM (v:=?_) ?h1 ?_|refine E_1 (v:=?_) ?h1 ?_|refine E_1n (v:=?_) ?h1 ?_);case h1=>(simp only[ZA,go_sem]<;>rfl))|((first|refine R_gt ?h1 ?_);case h1=>(simp only[ZA,go_sem]<;>rfl))|((first|refine QdH ?h1 ?_);case h1=>(simp only[ZA,go_sem]<;>rfl))|((first|refine Qdh ?h1 ?_);case h1=>(simp only[ZA,go_sem]<;>rfl))|((first|refine R_gj (vs:=?_) ?h1 ?_);case h1=>(simp only[ZA,go_sem]<;>rfl))|((first|refine Qde ?h1 ?_);case h1=>(simp only[ZA,go_sem]<;>rfl))|((first|refine QbC ?h1 ?_);case h1=>(simp only[ZA,go_sem]<;>rfl))|((first|refine E_2 (v:=?_) (u:=?_) ?h1 ?h2 ?_|refine E_2n (v:=?_) (u:=?_) ?h1 ?h2 ?_);(case h1=>(simp only[ZA,go_sem]<;>rfl));(case h2=>(simp only[ZA,go_sem]<;>rfl)))|refine E_0 ?_|refine E_0n ?_|rw[Q0])));exact hK _
def QgS {p q:Bool} {K:V→O→Prop} {o:O} (h:p=q) (hK:K (.bo q) o):K (.bo p) o:=by rw[h];exact hK
def Qah (s:Nat→Nat) (o:O) (K:V→O→Prop) (hK:∀ o',K (.bo (Qq s)) o'):Call F 43 [.ag (u4 s)] o K:=by
 refine Yb e43 rfl ?_;dsimp only[fn43,c43];refine RXN trivial ?_;refine Qa1 (Zr0) (Zr0) rfl fun id hid=>?_;(repeat (with_reducible (first|refine QcR ?_|refine C_sq ?_|refine C_rg ?_|refine C_bk ?_|refine C_sk ?_|refine C_ex ?_|refine C_rt ?_|refine X_nx ?_|refine X_ex ?_|refine X_rt ?_|refine B_nx ?_|refine Jm ?_|(refine B_ne RM ?_)|refine B_rt ?_|((first|refine R_q (v:=?_) ?h1 ?_|refine R_ld (v:=?_) ?h1 ?_|refine QcM (v:=?_) ?h1 ?_|refine E_1 (v:=?_) ?h1 ?_|refine E_1n (v:=?_) ?h1 ?_);case h1=>(simp only[u4,List.drop_zero,List.take_succ_cons,List.take_zero,go_sem]<;>rfl))|((first|refine R_gt ?h1 ?_);case h1=>(simp only[u4,List.drop_zero,List.take_succ_cons,List.take_zero,go_sem]<;>rfl))|((first|refine QdH ?h1 ?_);case h1=>(simp only[u4,List.drop_zero,List.take_succ_cons,List.take_zero,go_sem]<;>rfl))|((first|refine Qdh ?h1 ?_);case h1=>(simp only[u4,List.drop_zero,List.take_succ_cons,List.take_zero,go_sem]<;>rfl))|((first|refine R_gj (vs:=?_) ?h1 ?_);case h1=>(simp only[u4,List.drop_zero,List.take_succ_cons,List.take_zero,go_sem]<;>rfl))|((first|refine Qde ?h1 ?_);case h1=>(simp only[u4,List.drop_zero,List.take_succ_cons,List.take_zero,go_sem]<;>rfl))|((first|refine QbC ?h1 ?_);case h1=>(simp only[u4,List.drop_zero,List.take_succ_cons,List.take_zero,go_sem]<;>rfl))|((first|refine E_2 (v:=?_) (u:=?_) ?h1 ?h2 ?_|refine E_2n (v:=?_) (u:=?_) ?h1 ?h2 ?_);(case h1=>(simp only[u4,List.drop_zero,List.take_succ_cons,List.take_zero,go_sem]<;>rfl));(case h2=>(simp only[u4,List.drop_zero,List.take_succ_cons,List.take_zero,go_sem]<;>rfl)))|refine E_0 ?_|refine E_0n ?_|rw[Q0])));refine R_q (v:=.bo (Qq s)) (by
  have nat0:∀ n:Nat,((n:Int)==0)=(n==0):=fun n=>by cases n<;>rfl
  simp only[eqV,eqps,lfEq,Qq,u4,nat0,Bool.and_true,go_sem];simp) ?_
 refine RXN trivial ?_;exact hK _
set_option maxRecDepth 20000 in
set_option maxHeartbeats 8000000 in
def QbH (k:Int) (s:Nat→Nat) (ps:List (List V)) (lo hi:Int) (o:O) (K:V→O→Prop) (hK:∀ o',K (.bo (Qk k s ps.length lo hi)) o'):Call F 96 [.ag (nd8 k s (.sl ps) lo hi)] o K:=by
 have c0:((ps.length:Int)==0)=(ps.length==0):=by cases ps.length<;>rfl
 have c1:((ps.length:Int)==1)=(ps.length==1):=by
  rw[Bool.eq_iff_iff];simp;omega
 have c2:decide ((ps.length:Int)≥2)=decide (2≤ps.length):=by
  rw[Bool.eq_iff_iff];simp;omega
 refine Yb e96 rfl ?_;dsimp only[fn96,c96];refine RXN trivial ?_;refine Qa1 (Zr0) (Zr0) rfl fun id hid=>?_;(repeat' (first|(with_reducible (first|refine QcR ?_|refine C_sq ?_|refine C_rg ?_|refine C_bk ?_|refine C_sk ?_|refine C_ex ?_|refine C_rt ?_|refine X_nx ?_|refine X_ex ?_|refine X_rt ?_|refine B_nx ?_|refine Jm ?_|(refine B_ne RM ?_)|refine B_rt ?_|((first|refine R_q (v:=?_) ?h1 ?_|refine R_ld (v:=?_) ?h1 ?_|refine QcM (v:=?_) ?h1 ?_|refine E_1 (v:=?_) ?h1 ?_|refine E_1n (v:=?_) ?h1 ?_);case h1=>(simp only[nd8,c0,c1,c2,List.drop_succ_cons,List.drop_zero,List.take_succ_cons,List.take_zero,go_sem]<;>rfl))|((first|refine R_gt ?h1 ?_);case h1=>(simp only[nd8,c0,c1,c2,List.drop_succ_cons,List.drop_zero,List.take_succ_cons,List.take_zero,go_sem]<;>rfl))|((first|refine QdH ?h1 ?_);case h1=>(simp only[nd8,c0,c1,c2,List.drop_succ_cons,List.drop_zero,List.take_succ_cons,List.take_zero,go_sem]<;>rfl))|((first|refine Qdh ?h1 ?_);case h1=>(simp only[nd8,c0,c1,c2,List.drop_succ_cons,List.drop_zero,List.take_succ_cons,List.take_zero,go_sem]<;>rfl))|((first|refine R_gj (vs:=?_) ?h1 ?_);case h1=>(simp only[nd8,c0,c1,c2,List.drop_succ_cons,List.drop_zero,List.take_succ_cons,List.take_zero,go_sem]<;>rfl))|((first|refine Qde ?h1 ?_);case h1=>(simp only[nd8,c0,c1,c2,List.drop_succ_cons,List.drop_zero,List.take_succ_cons,List.take_zero,go_sem]<;>rfl))|((first|refine QbC ?h1 ?_);case h1=>(simp only[nd8,c0,c1,c2,List.drop_succ_cons,List.drop_zero,List.take_succ_cons,List.take_zero,go_sem]<;>rfl))|((first|refine E_2 (v:=?_) (u:=?_) ?h1 ?h2 ?_|refine E_2n (v:=?_) (u:=?_) ?h1 ?h2 ?_);(case h1=>(simp only[nd8,c0,c1,c2,List.drop_succ_cons,List.drop_zero,List.take_succ_cons,List.take_zero,go_sem]<;>rfl));(case h2=>(simp only[nd8,c0,c1,c2,List.drop_succ_cons,List.drop_zero,List.take_succ_cons,List.take_zero,go_sem]<;>rfl)))|refine E_0 ?_|refine E_0n ?_|rw[Q0]))|((with_reducible refine QaV (g:=43) (r:=.bo (Qq s)) (vs:=?_) (ws:=?_) ?h1 ?h2 ?h3 ?h4 ?_);(case h1=>(simp only[nd8,c0,c1,c2,List.drop_succ_cons,List.drop_zero,List.take_succ_cons,List.take_zero,go_sem]<;>rfl));(case h2=>first|rw[Jk RM]|rw[Jk (by simp [FZ,okd,Wa,wordV])]);(case h3=>rfl);(case h4=>exact Qah s emp _ (fun _=>by rfl)))|with_reducible (refine R_gb (q:=?_) ?h1 (fun _=>?_) (fun _=>?_);case h1=>(simp only[nd8,c0,c1,c2,List.drop_succ_cons,List.drop_zero,List.take_succ_cons,List.take_zero,go_sem]<;>rfl))|with_reducible (refine Qkr (q:=?_) ?h1 (fun _=>?_) (fun _=>?_);case h1=>(simp only[nd8,c0,c1,c2,List.drop_succ_cons,List.drop_zero,List.take_succ_cons,List.take_zero,go_sem]<;>rfl))));all_goals refine QgS ?_ (hK _)
 all_goals clear hK c0 c1 c2
 all_goals simp_all [Qk]
 all_goals omega
theorem JC:∀ (n:Nd),Zv n→∀ (o:O) (K:V→O→Prop),(∀ o',K (.bo (Qe n)) o')→Call F 58 [.ag (cel n)] o K
 | .mk k s ps lo hi,hs,o,K,hK=>by
  have ih:∀ p∈ps,Call F 98 [.ag (cel p)] emp (fun v o'=>fz o' v=some (.bo (!Qe p))):=by
   intro p hp;have hsp:Zv p:=(QX ps).1 hs.2.2 p hp;have h18:=fun o K hK=>JC p hsp o K hK;refine Yb e98 rfl ?_;dsimp only[fn98,c98];refine RXN trivial ?_;refine Qa1 (cs:=cel p) (Zr0) (Z0) (by cases p;rfl) fun id hid=>?_;refine RXN trivial ?_;refine R_ld (v:=.ag (cel p)) (by simp only[go_sem];simp [QI];exact List.take_of_length_le (by rw[QI];omega)) ?_;refine QaV (r:=.bo (Qe p)) rfl (ws:=[.ag (cel p)]) (Jk (by simp [FZ,okd,Od.ev,upd,Wa])) rfl (h18 emp _ (fun _=>rfl)) ?_;refine RXN trivial ?_;rfl
  refine Yb e58 rfl ?_;dsimp only[fn58,c58];rw[QZ];refine RXN trivial ?_;refine Qa1 (Zr0) (Zr0) rfl fun id hid=>?_;refine RXT nd8.eq_1 ?_;have hcall:∀ x∈ps,∃ ws,(∀ o:O,fzs o ([.ag (cel x)]++[])=some ws)∧Call F 98 ws emp (fun v o'=>fz o' v=some (.bo (!Qe x))):=fun x hx =>
   ⟨[.ag (cel x)],fun o=>Jk (by simp [FZ,okd,Wa]),ih x hx⟩
  refine QaV (r:=.bo (Qk k s (ps.map cel).length lo hi)) rfl (ws:=[.ag (nd8 k s (.sl (ps.map cel)) lo hi)]) (Jk RM) rfl (QbH k s (ps.map cel) lo hi emp _ (fun _=>by rfl)) ?_;refine RXN trivial ?_;refine R_gb (q:=Qk k s (ps.map cel).length lo hi) (Z0) (fun h1=>?_) (fun h1=>?_)
  ·refine RXN nd8.eq_1 ?_;refine QaV (r:=.bo (ps.any fun p=>!Qe p)) rfl (ws:=[.sl (ps.map cel),.fn 98 []]) (Jk RM) rfl (V9 cel QI ps hs.2.1 98 [] rfl (fun p=>!Qe p) hcall emp _ (fun _=>by rfl)) ?_;refine RXN trivial ?_;refine QgS ?_ (hK _);rw[List.length_map] at h1;simp only[Qe,h1,Zw,Bool.true_and];rw[Bool.eq_iff_iff];simp
  ·refine RXN trivial ?_;refine QgS ?_ (hK _);rw[List.length_map] at h1;simp [Qe,h1]
termination_by n=>SizeOf.sizeOf n
decreasing_by
 have:=List.sizeOf_lt_of_mem hp
 simp;omega
mutual
def Q6:Nd→Int→Int
 | .mk _ _ ps _ _,m=>YZ ps 1 m
def YZ:List Nd→Int→Int→Int
 | [],k,_=>k
 | p::ps,k,m=>if k≤m then YZ ps (k+Q6 p (m - k)) m else k
end
mutual
theorem WP:∀ (n:Nd) (m:Int),0≤m→1≤Q6 n m∧Q6 n m≤m+1
 | .mk _ _ ps _ _,m,hm=>by
  have:=Qaa ps 1 m hm OM OM
  simpa [Q6] using this
theorem Qaa:∀ (ps:List Nd) (k m:Int),0≤m→1≤k→k≤m+1→1≤YZ ps k m∧YZ ps k m≤m+1
 | [],k,m,_,h1,h2=>by simp [YZ];omega
 | p::ps,k,m,hm,h1,h2=>by
  simp only[YZ];split
  ·rename_i hk
   have:=WP p (m - k) OM
   exact Qaa ps _ m hm OM OM
  ·exact⟨h1,h2⟩
end
theorem KF:∀ (n:Nd),Zv n→∀ (m:Int),0≤m→m≤1000→∀ (o:O) (K:V→O→Prop),(∀ o',K (.i .i64 (Q6 n m)) o')→Call F 5 [.ag (cel n),.i .i64 m] o K
 | .mk k s ps lo hi,hs,m,hm0,hm1,o,K,hK=>by
  have ih:∀ p∈ps,∀ m,0≤m→m≤1000→Call F 5 [.ag (cel p),.i .i64 m] emp (fun v o'=>fz o' v=some (.i .i64 (Q6 p m))):=by
   intro p hp m h1 h2;exact KF p ((QX ps).1 hs.2.2 p hp) m h1 h2 emp _ (fun _=>rfl)
  have hlen:=hs.2.1;refine Yb e5 rfl ?_;dsimp only[fn5,c5];rw[QZ];refine RXN trivial ?_;refine Qa1 (Zr0) (Zr0) rfl fun id hid=>?_;refine RXN nd8.eq_1 ?_;refine C_lp (fun r e o=>∃ (i:Nat) (q:Int),i+r=ps.length∧e 1=.i .i64 m∧e 2=.pt id 0 0∧e 5=.i .i64 q∧e 6=.i .i64 i∧o id=some (.row 8 [nd8 k s (.sl (ps.map cel)) lo hi])∧1≤q∧q≤m+1∧YZ (ps.drop i) q m=Q6 (.mk k s ps lo hi) m) (k:=ps.length) ?_ (Qa F) ?_
  ·exact⟨0,1,OM,Z0,Z0,Z0,Zr0,Zr0,OM,OM,by simp [Q6]⟩
  clear hid;rintro r e o ⟨i,q,hir,h1,h2,h5,h6,ho,hq1,hq2,hsz⟩;dsimp only[b5_0];refine RXT (Ad2 h1 (Ad5 h2 h5 h6 ho nd8.eq_1)) ?_;refine R_gb (q:=decide ((i:Int) < (ps.length:Int))) (Z0) (fun hc=>?_) (fun hc=>?_)
  ·have hil:i < ps.length:=by simpa using hc
   have hxi:ps[i]?=some ps[i]:=List.getElem?_eq_getElem hil;have hdrop:ps.drop i=ps[i]::ps.drop (i+1):=List.drop_eq_getElem_cons hil;refine RXT (Ad2 h1 (Ad5 h2 h5 h6 ho nd8.eq_1)) ?_;refine Qkr (q:=decide (q≤m)) (Z2 h1 h5) (fun hc2=>?_) (fun hc2=>?_)
   ·have hqm:q≤m:=by simpa using hc2
    have hb:=WP ps[i] (m - q) OM;refine RXN (Ad2 h1 (Ad5 h2 h5 h6 ho nd8.eq_1)) ?_;refine R_q (v:=.ip (cel ps[i]) 0) (by simp only[h6,go_sem];rw[if_pos OM];simp [hxi,QI]) ?_;refine R_ld (v:=.ag (cel ps[i])) (by simp only[go_sem];simp [QI];exact List.take_of_length_le (by rw[QI];omega)) ?_;have hw:IntKind.i64.wrap (m - q)=m - q:=Qi OM OM;refine RXN (Ad3 h1 h5 hw) ?_;refine QaV (g:=5) (r:=.i .i64 (Q6 ps[i] (m - q))) (vs:=[.ag (cel ps[i]),.i .i64 (m - q)]) (ws:=[.ag (cel ps[i]),.i .i64 (m - q)]) (Z0) (Jk (by simp [FZ,okd,Wa])) rfl (ih _ (List.getElem_mem _) _ OM OM) ?_;have hw2:IntKind.i64.wrap (q+Q6 ps[i] (m - q))=q+Q6 ps[i] (m - q):=Qi OM OM;refine RXN (Ad3 h5 h6 hw2) ?_
    refine⟨r - 1,OM,i+1,q+Q6 ps[i] (m - q),OM,Z1 h1,Z1 h2,Z0,?_,ho,OM,OM,?_⟩
    ·simp only[go_sem];rw[Qi OM OM];rfl
    ·rw[← hsz,hdrop];simp [YZ,hqm]
   ·have hqm:¬ q≤m:=by simpa using hc2
    refine RXN h5 ?_
    have:Q6 (.mk k s ps lo hi) m=q:=by rw[← hsz,hdrop];simp [YZ,hqm]
    rw[← this];exact hK _
  ·refine RXT (Ad5 h1 h5 h6 ho nd8.eq_1) ?_;have hil:i=ps.length:=by
    have:¬ i < ps.length:=by simpa using hc
    omega
   subst hil
   have:Q6 (.mk k s ps lo hi) m=q:=by rw[← hsz];simp [YZ]
   rw[← this];exact hK _
termination_by n=>SizeOf.sizeOf n
decreasing_by
 have:=List.sizeOf_lt_of_mem hp
 simp;omega
end Go.Proofs.YtklbhcjmaeedhaaGreatDoor
