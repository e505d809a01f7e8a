import Derived.Test.YtgiedknghbpdfaaR2

namespace Go.Proofs.Ytgiedknghbpdfaa
set_option linter.all false
attribute [-go_sem] swpOb renOb rfOb V.cells
mutual
def flatN:Nd→Bool
 | .mk k _ ps _ _=>(!(k==2||k==3)||ps.all fun p=>p.kind != k)&&flatL ps
def flatL:List Nd→Bool
 | []=>true
 | p::ps=>flatN p&&flatL ps
end
theorem flatL_all (ps:List Nd):flatL ps=ps.all flatN:=by induction ps with
 | nil=>rfl
 | cons p ps ih=>simp [flatL,ih]
mutual
theorem sameN_comm:∀ (a b:Nd),sameN a b=sameN b a
 | .mk k s ps lo hi,.mk k' s' ps' lo' hi'=>by
  have e:∀ {α:Type} [BEq α] [LawfulBEq α] (x y:α),(x==y)=(y==x):=fun x y=>by
   rw[Bool.eq_iff_iff,beq_iff_eq,beq_iff_eq];exact⟨Eq.symm,Eq.symm⟩
  rw[sameN,sameN,sameL_comm ps ps',e k,e (s 0),e (s 1),e (s 2),e (s 3),e lo,e hi]
theorem sameL_comm:∀ (a b:List Nd),sameL a b=sameL b a
 | [],[]=>rfl
 | [],_::_=>rfl
 | _::_,[]=>rfl
 | p::ps,q::qs=>by rw[sameL,sameL,sameN_comm p q,sameL_comm ps qs]
end
def stepK (k:Int) (l:List Nd) (q:Nd):List Nd:=if k=2∧q.kind=0 then l else if k=3∧(voidB q||l.any (fun x=>sameN x q))=true then l else l++[q]
theorem put1_ne {k:Int} {l:List Nd} {q:Nd} (h:q.kind≠k):put1 k l q=stepK k l q:=by
 cases q with
 | mk k2 s ps lo hi =>
  simp only[Nd.kind] at h;rw[put1,if_neg h,stepK];have e:(l.any (sameN (.mk k2 s ps lo hi)))=l.any fun x=>sameN x (.mk k2 s ps lo hi):=by
   congr 1;funext x;exact sameN_comm _ _
  rw[e];rfl
theorem putL_ne (k:Int):∀ (qs l:List Nd),(∀ q∈qs,q.kind≠k)→putL k l qs=qs.foldl (stepK k) l
 | [],l,_=>by rw[putL];rfl
 | q::qs,l,h=>by
  rw[putL,put1_ne (h q (by simp)),putL_ne k qs _ fun x hx=>h x (by simp [hx])];rfl
theorem flat_parts {p:Nd} (h:flatN p=true) (hk:p.kind=2∨p.kind=3):∀ q∈p.parts,q.kind≠p.kind:=by
 cases p with
 | mk k s ps lo hi =>
  rw[flatN,Bool.and_eq_true] at h;simp only[Nd.kind] at hk;intro q hq;have h1:=h.1;have e:(k==2||k==3)=true:=by rcases hk with rfl|rfl<;>rfl
  rw[e,Bool.not_true,Bool.false_or] at h1
  have:=List.all_eq_true.1 h1 q hq
  simpa [Nd.kind] using this
theorem putL_spr {k:Int} (hk:k=2∨k=3):∀ (ps l:List Nd),(∀ p∈ps,flatN p=true)→putL k l ps=(sprN k ps).foldl (stepK k) l
 | [],l,_=>by rw[putL];rfl
 | p::ps,l,h=>by
  have hp:=h p (by simp);rw[putL,putL_spr hk ps _ fun x hx=>h x (by simp [hx])];have e:sprN k (p::ps)=(if p.kind=k then p.parts else [p])++sprN k ps:=by simp [sprN]
  rw[e,List.foldl_append];congr 1;by_cases hpk:p.kind=k
  ·rw[if_pos hpk];have hf:=flat_parts hp (by rw[hpk];exact hk);rw[hpk] at hf;rw[← putL_ne k _ _ hf];cases p with
   | mk k2 s qs lo hi =>
    simp only[Nd.kind] at hpk;rw[put1,if_pos hpk];rfl
  ·rw[if_neg hpk,put1_ne hpk];rfl
mutual
theorem put1_fl {k:Int}:∀ (p:Nd) (l:List Nd),flatN p=true→(∀ q∈l,flatN q=true∧q.kind≠k)→∀ q∈put1 k l p,flatN q=true∧q.kind≠k
 | .mk k2 s ps lo hi,l,hp,hl=>by
  rw[put1];split
  ·rw[flatN,Bool.and_eq_true,flatL_all] at hp;exact putL_fl ps l (List.all_eq_true.1 hp.2) hl
  ·rename_i hne;split
   ·exact hl
   ·split
    ·exact hl
    ·intro q hq;rcases List.mem_append.1 hq with h|h
     ·exact hl q h
     ·rw[List.mem_singleton.1 h];exact⟨hp,hne⟩
theorem putL_fl {k:Int}:∀ (ps l:List Nd),(∀ p∈ps,flatN p=true)→(∀ q∈l,flatN q=true∧q.kind≠k)→∀ q∈putL k l ps,flatN q=true∧q.kind≠k
 | [],l,_,hl=>by rw[putL];exact hl
 | p::ps,l,h,hl=>by
  rw[putL];exact putL_fl ps _ (fun x hx=>h x (by simp [hx])) (put1_fl p l (h p (by simp)) hl)
end
theorem oneN_fl {k:Int} {l:List Nd} (h:∀ q∈l,flatN q=true∧q.kind≠k):flatN (oneN k l)=true:=by
 match l,h with
 | [],_=>rfl
 | [p],h=>exact (h p (by simp)).1
 | p::q::l,h =>
  rw[oneN,flatN,Bool.and_eq_true,flatL_all]
  refine⟨?_,List.all_eq_true.2 fun x hx=>(h x hx).1⟩
  rw[Bool.or_eq_true];exact .inr (List.all_eq_true.2 fun x hx=>by simpa using (h x hx).2);all_goals simp
theorem timesN_fl {p:Nd} {lo hi:Int} (h:flatN p=true):flatN (timesN p lo hi)=true:=by
 have h4:∀ lo',flatN (.mk 4 zSet [p] lo' hi)=true:=fun lo'=>by
  rw[flatN,flatL,flatL,h];rfl
 unfold timesN;cases (hi==0)<;>cases (p.kind==0)<;>cases (voidB p)<;>cases (lo==1)<;>cases (hi==1)<;>first|rfl|exact h4 _|exact h
theorem simpleN_fl:∀ (n:Nd),formed n=true→flatN (simpleN n)=true
 | .mk k s ps lo hi,hf=>by
  rw[formed,Bool.and_eq_true,formedL_all] at hf;have ih:∀ p∈ps,flatN (simpleN p)=true:=fun p hp=>simpleN_fl p (List.all_eq_true.1 hf.2 p hp);rw[simpleN_eq];split
  ·rfl
  ·split
   ·rw[simpleL_map];refine oneN_fl (putL_fl _ _ (fun x hx=>?_) (by simp));obtain⟨p,hp,rfl⟩:=List.mem_map.1 hx;exact ih p hp
   ·split
    ·refine timesN_fl ?_;cases ps with
     | nil=>rfl
     | cons p ps=>exact ih p (by simp)
    ·rename_i h2 h3 h4;have hps:ps=[]:=by
      have h1:=hf.1;unfold shapedB at h1;by_cases e0:k=0
      ·rw[if_pos e0] at h1;simp at h1;exact h1.2
      ·rw[if_neg e0] at h1;by_cases e1:k=1
       ·rw[if_pos e1] at h1;simp at h1;exact h1.2
       ·rw[if_neg e1,if_neg h3,if_neg h4] at h1;cases h1
     subst hps;rw[flatN];simp [flatL]
end Go.Proofs.Ytgiedknghbpdfaa
