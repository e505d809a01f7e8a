import Derived.Test.YtgiedknghbpdfaaR7

namespace Go.Proofs.Ytgiedknghbpdfaa
set_option linter.all false
structure Es where
 f:Nat→Bool
 l:Nat→Bool
 c:Nat
 a:Bool
def es0:Es:=⟨fun _=>false,fun _=>false,0,true⟩
def esStep (k:Int) (nu:Bool) (x q:Es):Es:=⟨fun j=>q.f j||((k != 2||q.a)&&x.f j),fun j=>(!(k==2&&!nu)&&q.l j)||x.l j,q.c+x.c,q.a&&nu⟩
mutual
def enN:Nd→Nat→Es
 | .mk k s ps _ _,b=>if k=1 then (if emptyS s then es0 else ⟨fun j=>j==b+1,fun j=>j==b+1,1,true⟩) else enL k ps b es0
def enL (k:Int):List Nd→Nat→Es→Es
 | [],_,q=>q
 | p::ps,b,q=>enL k ps b (esStep k (nullB p) (enN p (b+q.c)) q)
end
mutual
def lcN:Nd→Nat
 | .mk k s ps _ _=>if k=1 then (if emptyS s then 0 else 1) else lcL ps
def lcL:List Nd→Nat
 | []=>0
 | p::ps=>lcN p+lcL ps
end
mutual
theorem enN_c:∀ (n:Nd) (b:Nat),(enN n b).c=lcN n
 | .mk k s ps lo hi,b=>by
  rw[enN,lcN];split
  ·split<;>rfl
  ·rw[enL_c];show 0+_=_;omega
theorem enL_c (k:Int):∀ (ps:List Nd) (b:Nat) (q:Es),(enL k ps b q).c=q.c+lcL ps
 | [],b,q=>by rw[enL,lcL];rfl
 | p::ps,b,q=>by rw[enL,enL_c,lcL];show q.c+(enN p (b+q.c)).c+_=_;rw[enN_c];omega
end
theorem enL_app (k:Int):∀ (l m:List Nd) (b:Nat) (q:Es),enL k (l++m) b q=enL k m b (enL k l b q)
 | [],m,b,q=>by rw[List.nil_append,enL]
 | p::l,m,b,q=>by rw[List.cons_append,enL,enL,enL_app]
theorem lcL_app:∀ (l m:List Nd),lcL (l++m)=lcL l+lcL m
 | [],m=>by rw[List.nil_append,lcL];omega
 | p::l,m=>by rw[List.cons_append,lcL,lcL,lcL_app];omega
structure EsOf (q:Nds) (Q:Es) (b:Nat):Prop where
 f:∀ j,q.first.contains j=Q.f j
 l:∀ j,q.last.contains j=Q.l j
 c:q.next=b+Q.c
theorem con_app (a b:List Nat) (j:Nat):(a++b).contains j=(a.contains j||b.contains j):=by
 rw[Bool.eq_iff_iff];simp
mutual
theorem wk_en:∀ (n:Nd) (sc b:Nat) (L:List (Eg × Int)),formed n=true→EsOf (wk n sc b L) (enN n b) b∧(wk n sc b L).empty=nullB n
 | .mk k s ps lo hi,sc,b,L,h=>by
  have hL:∀ p∈ps,formed p=true:=by
   rw[formed,Bool.and_eq_true,formedL_all] at h;exact List.all_eq_true.1 h.2
  have hsh:shapedB k s ps.length lo hi=true:=by
   rw[formed,Bool.and_eq_true] at h;exact h.1
  rw[wk,enN];by_cases h1:k=1
  ·rw[if_pos h1,if_pos h1];subst h1;by_cases he:emptyS s=true
   ·rw[if_pos he,if_pos he]
    exact⟨⟨fun _=>rfl,fun _=>rfl,rfl⟩,by rw[nullB];rfl⟩
   ·rw[if_neg he,if_neg he]
    exact⟨⟨fun j=>by rw[Bool.eq_iff_iff];simp,fun j=>by rw[Bool.eq_iff_iff];simp,rfl⟩,by rw[nullB];rfl⟩
  rw[if_neg h1,if_neg h1];by_cases h2:k=2
  ·rw[if_pos h2];subst h2
   have:=wkC_en ps sc b ⟨[],[],true,b,L⟩ es0 hL ⟨fun _=>rfl,fun _=>rfl,rfl⟩ rfl
   refine⟨this.1,?_⟩
   rw[this.2.1,nullB];simpa [es0] using this.2.2
  rw[if_neg h2];by_cases h3:k=3
  ·rw[if_pos h3];subst h3
   have:=wkA_en ps sc b ⟨[],[],false,b,L⟩ es0 hL ⟨fun _=>rfl,fun _=>rfl,rfl⟩
   refine⟨this.1,?_⟩
   rw[this.2,nullB];simp
  rw[if_neg h3];by_cases h4:k=4
  ·rw[if_pos h4];subst h4;obtain⟨p,rfl⟩:=List.length_eq_one_iff.1 (shape4 hsh).1
   have:=wk_en p (if cnts 4 lo hi then sc+1 else sc) b L (hL p (by simp))
   have e:enL 4 [p] b es0=⟨(enN p b).f,(enN p b).l,(enN p b).c,nullB p⟩:=by
    rw[enL,enL];simp [esStep,es0]
   rw[e,wkH]
   refine⟨⟨?_,?_,?_⟩,rfl⟩
   ·exact this.1.f
   ·exact this.1.l
   ·exact this.1.c
  rw[if_neg h4];have h0:k=0:=by
   unfold shapedB at hsh;by_cases h0:k=0
   ·exact h0
   ·rw[if_neg h0,if_neg h1,if_neg (by omega),if_neg h4] at hsh;cases hsh
  subst h0;have hp:ps=[]:=by
   simp [shapedB] at hsh;simp_all
  subst hp;rw[enL]
  exact⟨⟨fun _=>rfl,fun _=>rfl,rfl⟩,by rw[nullB];rfl⟩
theorem wkC_en:∀ (ps:List Nd) (sc b:Nat) (q:Nds) (Q:Es),(∀ p∈ps,formed p=true)→EsOf q Q b→q.empty=Q.a→EsOf (wkC ps sc q) (enL 2 ps b Q) b∧(wkC ps sc q).empty=(enL 2 ps b Q).a∧(enL 2 ps b Q).a=(Q.a&&nullAll ps)
 | [],sc,b,q,Q,_,hE,ha=>by
  rw[wkC,enL]
  exact⟨hE,ha,by rw[nullAll];simp⟩
 | p::ps,sc,b,q,Q,hf,hE,ha=>by
  rw[wkC,enL];have hp:=wk_en p sc q.next q.L (hf p (by simp));rw[hE.c] at hp
  have:=wkC_en ps sc b ⟨if q.empty then q.first++(wk p sc q.next q.L).first else q.first,if (wk p sc q.next q.L).empty then q.last++(wk p sc q.next q.L).last else (wk p sc q.next q.L).last,q.empty&&(wk p sc q.next q.L).empty,(wk p sc q.next q.L).next,lnk q.last (wk p sc q.next q.L).first sc false (wk p sc q.next q.L).L⟩ (esStep 2 (nullB p) (enN p (b+Q.c)) Q) (fun x hx=>hf x (by simp [hx])) ?_ ?_
  ·refine⟨this.1,this.2.1,?_⟩
   rw[this.2.2,nullAll];show (Q.a&&nullB p&&_)=_;rw[Bool.and_assoc]
  ·rw[hE.c]
   refine⟨fun j=>?_,fun j=>?_,?_⟩
   ·simp only[esStep];rw[ha];cases hqa:Q.a
    ·simp only[Bool.false_eq_true,if_false];rw[hE.f];simp
    ·rw[if_pos rfl,con_app,hE.f,hp.1.f];simp
   ·simp only[esStep];rw[hp.2];cases hn:nullB p
    ·simp only[Bool.false_eq_true,if_false];rw[hp.1.l];simp
    ·rw[if_pos rfl,con_app,hE.l,hp.1.l];simp
   ·show (wk p sc (b+Q.c) q.L).next=_;rw[hp.1.c];simp only[esStep];omega
  ·rw[hE.c];simp only[esStep];rw[ha,hp.2]
theorem wkA_en:∀ (ps:List Nd) (sc b:Nat) (q:Nds) (Q:Es),(∀ p∈ps,formed p=true)→EsOf q Q b→EsOf (wkA ps sc q) (enL 3 ps b Q) b∧(wkA ps sc q).empty=(q.empty||nullAny ps)
 | [],sc,b,q,Q,_,hE=>by
  rw[wkA,enL]
  exact⟨hE,by rw[nullAny];simp⟩
 | p::ps,sc,b,q,Q,hf,hE=>by
  rw[wkA,enL];have hp:=wk_en p sc q.next q.L (hf p (by simp));rw[hE.c] at hp
  have:=wkA_en ps sc b ⟨q.first++(wk p sc q.next q.L).first,q.last++(wk p sc q.next q.L).last,q.empty||(wk p sc q.next q.L).empty,(wk p sc q.next q.L).next,(wk p sc q.next q.L).L⟩ (esStep 3 (nullB p) (enN p (b+Q.c)) Q) (fun x hx=>hf x (by simp [hx])) ?_
  ·refine⟨this.1,?_⟩
   rw[this.2,nullAny];show (q.empty||(wk p sc q.next q.L).empty||_)=_;rw[hE.c,hp.2,Bool.or_assoc]
  ·rw[hE.c]
   refine⟨fun j=>?_,fun j=>?_,?_⟩
   ·simp only[esStep];rw[con_app,hE.f,hp.1.f];simp
   ·simp only[esStep];rw[con_app,hE.l,hp.1.l];simp
   ·show (wk p sc (b+Q.c) q.L).next=_;rw[hp.1.c];simp only[esStep];omega
end
end Go.Proofs.Ytgiedknghbpdfaa
