import Derived.Test.YtocmjakchgcioaaGreatKg
import Derived.Test.YtocmjakchgcioaaGreatKr

namespace Go.Proofs.YtocmjakchgcioaaGreat
set_option linter.all false
def QeU {t:Nd} (hf:Qg t=true) (hn:ZE t) (hW:WF (Qr t)) (w:List Nat) (hw:∀ b∈w,b < 256):mtF (Qr t) w=true↔Mb t w:=by
 obtain⟨E,R,hR⟩:=JJ (Qr t) t 0 [] [] ⟨[zSet],[],[[]]⟩ hf hn rfl rfl ⟨List.prefix_rfl,List.prefix_rfl,List.prefix_rfl⟩;rw[List.length_nil] at hR;have hok:=wk0 t hf;have hnx:(wk t 0 0 []).next+1=(plT t).sets.length:=hok.ls.symm;have hsl:(Qr t).sets.length=(plT t).sets.length:=rfl;have hpos:∀ x,QA (Qr t) x=true→0 < x.p.toNat∧x.p.toNat≤(wk t 0 0 []).next∧x.p.toNat < (plT t).sets.length:=fun x h=>by
  have h1:=We h
  have:=hW.la;omega
 have hE0:∀ p m,isE (p,m) (wk t 0 0 []).L↔E (p,m):=fun p m=>by
  rw[hR.ed];simp [isE]
 have hst:∀ x,QA (Qr t) x=true→∀ b u,b < 256→(R x.p.toNat (cts (Qr t) x) (b::u)↔∃ y∈JD (Qr t) x b,R y.p.toNat (cts (Qr t) y) u):=fun x hx b u hb=>by
  obtain⟨p1,p2,p3⟩:=hpos x hx;rw[hR.st _ _ b u p1 p2 (WY hW hx) hb];constructor
  ·rintro⟨m,hm,h1,cs,h2,h3⟩
   have hmv:m∈mvAt (Qr t) x.p.toNat:=(Qge p3).2 ((hE0 _ _).2 hm);have hmo:=QaN hW (J1 hW hx) hmv;have hpt:∀ K,(QP (Qr t) m.to K).p.toNat=m.to:=fun K=>by show ((m.to:Int)).toNat=m.to;omega
   cases hy:mayF (Qr t) x m with
   | none =>
    exfalso
    have:=(Qc7 hW hx hmo (QP (Qr t) m.to (cs.take (lft m)))).2 ⟨cs,h2,hpt _,?_,rfl⟩
    ·rw[hy] at this;cases this
    ·exact Qix hW hx hmo h2
   | some y =>
    obtain⟨cs',g1,g2,g3,_⟩:=(Qc7 hW hx hmo y).1 hy;rw[h2] at g1;injection g1 with g1;subst g1
    exact⟨y,W7.2 ⟨m,hmv,h1,hy⟩,by rw[g2,g3];exact h3⟩
  ·rintro⟨y,hy,h3⟩
   obtain⟨m,hmv,h1,h2⟩:=W7.1 hy;have hmo:=QaN hW (J1 hW hx) hmv;obtain⟨cs,g1,g2,g3,_⟩:=(Qc7 hW hx hmo y).1 h2;rw[g2,g3] at h3
   exact⟨m,(hE0 _ _).1 ((Qge p3).1 hmv),h1,cs,g1,h3⟩
 have hall:∀ k,k < w.length→(Mb t w↔∃ x∈bhF (Qr t) w (k+1),R x.p.toNat (cts (Qr t) x) (w.drop (k+1))):=fun k=>by
  induction k with
  | zero =>
   intro hk;cases w with
   | nil=>cases hk
   | cons b u =>
    rw[hR.en b u (hw b SM)];show _↔∃ x∈begF (Qr t) b,R x.p.toNat (cts (Qr t) x) u;have hfi:∀ p,p∈(Qr t).first↔p∈(wk t 0 0 []).first:=fun p=>(List.mergeSort_perm _ _).mem_iff;have hct:∀ p∈(Qr t).first,cts (Qr t) (QP (Qr t) p [])=ones (scAt (Qr t) p).length:=fun p hp=>by
     have:=(hW.f p hp).2
     rw[Y5 SM (sc_4 hW (by rw[hW.la];exact this))];simp
    have hpt:∀ p,(QP (Qr t) p []).p.toNat=p:=fun p=>by show ((p:Int)).toNat=p;omega
    constructor
    ·rintro⟨p,hp,h1,h2⟩
     have hp':=(hfi p).2 hp
     refine⟨QP (Qr t) p [],?_,by rw[hpt,hct p hp'];exact h2⟩
     rw[begF,J4];exact List.mem_map.2 ⟨p,List.mem_filter.2 ⟨hp',h1⟩,rfl⟩
    ·rintro⟨x,hx,h2⟩
     rw[begF,J4] at hx;obtain⟨p,hp,rfl⟩:=List.mem_map.1 hx;obtain⟨hp,h1⟩:=List.mem_filter.1 hp;rw[hpt,hct p hp] at h2
     exact⟨p,(hfi p).1 hp,h1,h2⟩
  | succ k ih =>
   intro hk;rw[ih OM];have hd:w.drop (k+1)=w[k+1]::w.drop (k+2):=List.drop_eq_getElem_cons hk;have hb:bhF (Qr t) w (k+2)=(bhF (Qr t) w (k+1)).flatMap fun x=>JD (Qr t) x w[k+1]:=by
    rw[bhF,List.getElem?_eq_getElem hk];simp
   rw[hd,hb];constructor
   ·rintro⟨x,hx,h⟩
    obtain⟨y,hy,h2⟩:=(hst x (Yc hW w _ x hx) _ _ (hw _ (List.getElem_mem hk))).1 h
    exact⟨y,List.mem_flatMap.2 ⟨x,hx,hy⟩,h2⟩
   ·rintro⟨y,hy,h2⟩
    obtain⟨x,hx,hy⟩:=List.mem_flatMap.1 hy
    exact⟨x,hx,(hst x (Yc hW w _ x hx) _ _ (hw _ (List.getElem_mem hk))).2 ⟨y,hy,h2⟩⟩
 unfold mtF;by_cases h0:w=[]
 ·subst h0;rw[if_pos rfl];exact hR.nl
 ·rw[if_neg h0];have hl:0 < w.length:=List.length_pos_iff.2 h0
  have:=hall (w.length - 1) OM
  rw[show w.length - 1+1=w.length by omega,List.drop_length] at this;rw[this,List.any_eq_true];constructor
  ·rintro⟨x,hx,ha⟩
   rw[bhS,J4] at hx;have hr:=Yc hW w _ x hx;obtain⟨p1,p2,p3⟩:=hpos x hr
   refine⟨x,hx,(hR.ex _ _ p1 p2 (WY hW hr)).2 ?_⟩
   rw[accB,Bool.and_eq_true,Bool.and_eq_true] at ha
   exact⟨(Qab p3).1 ha.1.2,by rw[in0,cts,YF (Nat.le_refl _)];exact ha.2⟩
  ·rintro⟨x,hx,h⟩
   have hr:=Yc hW w _ x hx;obtain⟨p1,p2,p3⟩:=hpos x hr;obtain⟨h1,h2⟩:=(hR.ex _ _ p1 p2 (WY hW hr)).1 h
   refine⟨x,by rw[bhS,J4];exact hx,?_⟩
   rw[in0,cts,YF (Nat.le_refl _)] at h2;rw[accB,hr,h2,(Qab p3).2 h1];rfl
end Go.Proofs.YtocmjakchgcioaaGreat
