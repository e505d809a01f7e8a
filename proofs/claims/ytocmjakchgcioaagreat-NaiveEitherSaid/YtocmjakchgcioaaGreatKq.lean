import Derived.Test.YtocmjakchgcioaaGreatC12
import Derived.Test.YtocmjakchgcioaaGreatC14

namespace Go.Proofs.YtocmjakchgcioaaGreat
set_option linter.all false
variable {A:Au} {m:Mv} {b k s d:Nat} {y x:Cf} {K:E→O→Prop} {w:List Nat} {L:List (Cf × Int)} {e:E} {o:O} {ods:List Od}
def QaN (hW:WF A) {at_:Nat} (h1:at_ < A.moves.length) (h:m∈mvAt A at_):MvOk A at_ m:=mvOk hW (QaA h1) h
def bhF (A:Au) (w:List Nat):Nat→List Cf
 | 0=>[]
 | k+1=>match w[k]? with
  | none=>[]
  | some b=>if k=0 then begF A b else (bhF A w k).flatMap fun x=>JD A x b
def Qb8 (hW:WF A) (h:y∈begF A b):QA A y=true:=by
 rw[begF,J4] at h;obtain⟨p,hp,rfl⟩:=List.mem_map.1 h;obtain⟨h1,h2⟩:=hW.f p (List.mem_filter.1 hp).1;exact QdR hW h1 (by rw[hW.la];exact h2)
def W7:y∈JD A x b↔∃ m∈mvAt A x.p.toNat,Q2 (stAt A m.to) b=true∧mayF A x m=some y:=by
 rw[JD,J4,Yj,List.mem_filterMap];constructor
 ·rintro⟨m,hm,h⟩
  split at h
  ·exact⟨m,hm,‹_›,h⟩
  ·cases h
 ·rintro⟨m,hm,h1,h2⟩
  exact⟨m,hm,by rw[if_pos h1];exact h2⟩
def J1 (hW:WF A) (h:QA A x=true):x.p.toNat < A.moves.length:=by
 obtain⟨h1,h2,_⟩:=QM.1 h;rw[hW.lm,← hW.la];omega
def Qbt (hW:WF A) (hr:QA A x=true) (h:y∈JD A x b):QA A y=true:=by
 obtain⟨m,hm,_,h2⟩:=W7.1 h;exact (QdM hW hr (QaN hW (J1 hW hr) hm) h2).1
theorem Yc {A:Au} (hW:WF A) (w:List Nat):∀ (k:Nat),∀ y∈bhF A w k,QA A y=true
 | 0,y,h=>by cases h
 | k+1,y,h=>by
  rw[bhF] at h;split at h
  ·cases h
  ·split at h
   ·exact Qb8 hW h
   ·obtain⟨x,hx,hy⟩:=List.mem_flatMap.1 h;exact Qbt hW (Yc hW w k x hx) hy
def upC (k:Nat) (y:Cf):Prop:=∀ i,i < 4→y.c i≤k
def Qcz {p:Nat} {K:List Int} (h1:1≤k) (hK:∀ n∈K,n≤(k:Int)):upC k (QP A p K):=fun i hi=>by
 rw[show (QP A p K).c i=entN (arAt A p).length K i from KB _ _ hi,entN];split
 ·rename_i n hn;exact hK n (List.mem_of_getElem? hn)
 ·split<;>omega
def QjI (h:y∈begF A b):upC 1 y:=by
 rw[begF,J4] at h;obtain⟨p,_,rfl⟩:=List.mem_map.1 h;exact Qcz (Nat.le_refl _) SM
def QgN {s:Int × Int} {c n:Int} (h:Z8 s c=some n):n≤c+1:=by
 unfold Z8 at h;split at h
 ·cases h;split<;>omega
 ·split at h
  ·cases h
  ·cases h;omega
def QjD (h:upC k x):∀ n∈cl4 x,n≤(k:Int):=fun n hn=>by
 simp only[cl4,List.mem_cons,List.not_mem_nil,or_false] at hn;rcases hn with rfl|rfl|rfl|rfl
 ·exact h 0 OM
 ·exact h 1 OM
 ·exact h 2 OM
 ·exact h 3 OM
def QkO (hk:m.keep≤4) (hx:upC k x) (h0:∀ i,x.c i≤(k:Int)) (h:mayF A x m=some y):upC (k+1) y:=by
 have hc:=QjD hx;simp only[mayF] at h;split at h
 ·split at h
  ·cases h
  ·rename_i n hn;split at h
   ·cases h;refine Qcz OM fun v hv=>?_;rcases List.mem_append.1 hv with hv|hv
    ·have:=hc v (List.mem_of_mem_take hv);omega
    ·rw[List.mem_singleton.1 hv]
     have:=QgN hn
     have:=h0 m.keep
     omega
   ·cases h
 ·split at h
  ·cases h;refine Qcz OM fun v hv=>?_
   have:=hc v (List.mem_of_mem_take hv);omega
  ·cases h
def Qno (h:upC k x):∀ i,x.c i≤(k:Int):=fun i=>by
 match i with
 | 0=>exact h 0 OM
 | 1=>exact h 1 OM
 | 2=>exact h 2 OM
 | 3=>exact h 3 OM
 | i+4=>show (0:Int)≤_;omega
theorem QkY {A:Au} (hW:WF A) (w:List Nat):∀ (k:Nat),∀ y∈bhF A w k,upC k y
 | 0,y,h=>by cases h
 | k+1,y,h=>by
  rw[bhF] at h;split at h
  ·cases h
  ·split at h
   ·rename_i hk;subst hk;exact QjI h
   ·obtain⟨x,hx,hy⟩:=List.mem_flatMap.1 h;obtain⟨m,hm,_,h2⟩:=W7.1 hy;have hr:=Yc hW w k x hx;have hok:=QaN hW (J1 hW hr) hm;have hkeep:m.keep≤4:=by
     obtain⟨r1,r2,_⟩:=QM.1 hr;have h4:=ar_4 hW (p:=x.p.toNat) OM
     have:=hok.keep;unfold lft at this;split at this<;>omega
    have hu:=QkY hW w k x hx;exact QkO hkeep hu (Qno hu) h2
def boxL (k:Nat):List Cf:=(List.range 42).flatMap fun p:Nat=>(List.range (k+1)).flatMap fun a:Nat=>(List.range (k+1)).flatMap fun b:Nat=>(List.range (k+1)).flatMap fun c:Nat=>(List.range (k+1)).map fun d:Nat=>(⟨(p:Int),(a:Int),(b:Int),(c:Int),(d:Int)⟩:Cf)
theorem Wc {α β:Type} {f:α→List β} {n:Nat}:∀ {l:List α},(∀ a∈l,(f a).length=n)→(l.flatMap f).length=l.length*n
 | [],_=>by simp
 | a::l,h=>by
  rw[List.flatMap_cons,List.length_append,h a (List.mem_cons_self ..),Wc fun b hb=>h b (List.mem_cons_of_mem _ hb),List.length_cons,Nat.succ_mul,Nat.add_comm]
def Qg5 (k:Nat):(boxL k).length=42*((k+1)*((k+1)*((k+1)*(k+1)))):=by
 unfold boxL;rw[Wc (n:=(k+1)*((k+1)*((k+1)*(k+1)))),List.length_range];intro p _;rw[Wc (n:=(k+1)*((k+1)*(k+1))),List.length_range];intro a _;rw[Wc (n:=(k+1)*(k+1)),List.length_range];intro b _;rw[Wc (n:=k+1),List.length_range];intro c _;simp
def QgM (hW:WF A) (hr:QA A y=true) (hu:upC k y):y∈boxL k:=by
 obtain⟨h1,h2,h3⟩:=QM.1 hr;have hn:=hW.n;have hl:=hW.la;have hlo:∀ i,i < 4→0≤y.c i:=fun i hi=>by
  have:=h3 i hi
  unfold okAt at this;split at this
  ·rw[Bool.and_eq_true,decide_eq_true_eq] at this;omega
  ·have:=eq_of_beq this;omega
 obtain⟨p,a,b,c,d⟩:=y;have a0:=hlo 0 OM;have b0:=hlo 1 OM;have c0:=hlo 2 OM;have d0:=hlo 3 OM;have a1:=hu 0 OM;have b1:=hu 1 OM;have c1:=hu 2 OM;have d1:=hu 3 OM;simp only[Cf.c] at a0 b0 c0 d0 a1 b1 c1 d1;dsimp only at h1 h2;refine List.mem_flatMap.2 ⟨p.toNat,List.mem_range.2 OM,List.mem_flatMap.2 ⟨a.toNat,List.mem_range.2 OM,List.mem_flatMap.2 ⟨b.toNat,List.mem_range.2 OM,List.mem_flatMap.2 ⟨c.toNat,List.mem_range.2 OM,List.mem_map.2 ⟨d.toNat,List.mem_range.2 OM,?_⟩⟩⟩⟩⟩;rw[Int.toNat_of_nonneg OM,Int.toNat_of_nonneg a0,Int.toNat_of_nonneg b0,Int.toNat_of_nonneg c0,Int.toNat_of_nonneg d0]
structure Beh (A:Au) (w:List Nat) (k:Nat) (L:List Cf):Prop where
 nd:L.Nodup
 mem:∀ y,y∈L↔y∈bhF A w k
def Qcx (hW:WF A) (hk:k≤41) {L:List Cf} (h:L.Nodup) (hm:∀ y∈L,y∈bhF A w k):L.length≤130691232:=by
 have h1:=XV L (boxL k) h fun y hy=>QgM hW (Yc hW w k y (hm y hy)) (QkY hW w k y (hm y hy));rw[Qg5] at h1;have h2:(k+1)*(k+1)≤42*42:=Nat.mul_le_mul OM OM;have h3:(k+1)*((k+1)*(k+1))≤42*(42*42):=Nat.mul_le_mul OM h2;have h4:(k+1)*((k+1)*((k+1)*(k+1)))≤42*(42*(42*42)):=Nat.mul_le_mul OM h3;omega
attribute [-go_sem] Qw Qe rfOb V.cells
def cfV (x:Cf):V:=.ag (cfC x)
def cfP (x:Cf × Int):Cf × V:=(x.1,.i .i64 x.2)
def cfM (L:List (Cf × Int)):Ob:=ZJ (encL cfV (L.map cfP))
def incF (k:Cf):List (Cf × Int)→List (Cf × Int)
 | []=>[(k,1)]
 | (k',n)::l=>if k=k' then (k',IntKind.i64.wrap (n+1))::l else (k',n)::incF k l
def putF (l:List Cf) (L:List (Cf × Int)):List (Cf × Int):=l.foldl (fun L k=>incF k L) L
def keyF (L:List (Cf × Int)):List Cf:=L.map (·.1)
theorem Hy (k:Cf):∀ (L:List (Cf × Int)),keyF (incF k L)=if k∈keyF L then keyF L else keyF L++[k]
 | []=>rfl
 | (k',n)::L=>by
  have e1:∀ (a:Cf) (m:Int) (M:List (Cf × Int)),keyF ((a,m)::M)=a::keyF M:=fun _ _ _=>rfl;rw[incF,e1];by_cases h:k=k'
  ·subst h;rw[if_pos rfl,e1,if_pos (List.mem_cons_self ..)]
  ·rw[if_neg h,e1,Hy k L];by_cases h2:k∈keyF L
   ·rw[if_pos h2,if_pos (List.mem_cons_of_mem _ h2)]
   ·rw[if_neg h2,if_neg (fun hh=>by rcases List.mem_cons.1 hh with hh|hh;exact h hh;exact h2 hh)];rfl
def QfD {k:Cf}:x∈keyF (incF k L)↔x=k∨x∈keyF L:=by
 rw[Hy];split
 ·constructor
  ·exact .inr
  ·rintro (rfl|h)
   ·assumption
   ·exact h
 ·simp [or_comm]
def Qhf {k:Cf} (h:(keyF L).Nodup):(keyF (incF k L)).Nodup:=by
 rw[Hy];split
 ·exact h
 ·rename_i hk;exact List.nodup_append.2 ⟨h,SM,fun a ha c hc=>by simp at hc;subst hc;intro hh;subst hh;exact hk ha⟩
theorem JI {x:Cf}:∀ {l:List Cf} {L:List (Cf × Int)},x∈keyF (putF l L)↔x∈l∨x∈keyF L
 | [],L=>by simp [putF]
 | k::l,L=>by
  rw[putF,List.foldl_cons,← putF,JI,QfD,List.mem_cons];constructor
  ·rintro (h|h|h)<;>simp [h]
  ·rintro ((h|h)|h)<;>simp [h]
theorem XX:∀ {l:List Cf} {L:List (Cf × Int)},(keyF L).Nodup→(keyF (putF l L)).Nodup
 | [],L,h=>h
 | k::l,L,h=>by rw[putF,List.foldl_cons,← putF];exact XX (Qhf h)
def Qce (a b:Cf):eqV true [.i .i64,.i .i64,.i .i64,.i .i64,.i .i64] (cfV a) (cfV b)=some (decide (a=b)):=by
 rcases a with⟨a1,a2,a3,a4,a5⟩;rcases b with⟨b1,b2,b3,b4,b5⟩;simp only[cfV,cfC,eqV,V.isAg,V.cells,eqps,lfEq,and_self,if_true];congr 1;rw[Bool.eq_iff_iff];simp only[Bool.and_true,Bool.and_eq_true,beq_iff_eq,decide_eq_true_eq,Cf.mk.injEq]
def QgS (a:Cf):(cfV a).isAg=true∧(cfV a).cells.length=5:=⟨rfl,rfl⟩
theorem H1 (k:Cf):∀ (L:List (Cf × Int)),
  (kidx k (L.map cfP)=none∧incF k L=L++[(k,1)])∨∃ j n,kidx k (L.map cfP)=some j∧L[j]?=some (k,n)∧incF k L=L.set j (k,IntKind.i64.wrap (n+1))
 | []=>.inl ⟨rfl,rfl⟩
 | (k',n)::L=>by
  simp only[List.map_cons,cfP,kidx,incF];by_cases hk:k=k'
  ·subst hk;right;exact⟨0,n,SM,SM,SM⟩
  ·rw[if_neg hk,if_neg hk];rcases H1 k L with⟨h1,h2⟩|⟨j,m,h1,h2,h3⟩
   ·left;exact⟨by simpa [cfP] using h1,by rw[h2];rfl⟩
   ·right;refine⟨j+1,m,?_,by simpa using h2,by rw[h3];rfl⟩
    have:kidx k (L.map fun p=>(p.1,V.i .i64 p.2))=some j:=h1
    rw[show (fun p:Cf × Int=>(p.1,V.i .i64 p.2))=cfP from rfl] at this;simp [this]
theorem W6 {P:Nat × V × V→Prop} (h:∀ n (k:Cf) (i:Int),P (n,cfV k,.i .i64 i)):∀ (L:List (Cf × Int)) (n:Nat),∀ x∈Qj n (encL cfV (L.map cfP)),P x
 | [],_,x,hx=>by simp [Qj,encL] at hx
 | (k,i)::L,n,x,hx=>by
  simp only[List.map_cons,cfP,encL,Qj,List.mem_cons] at hx;rcases hx with rfl|hx
  ·exact h _ _ _
  ·exact W6 h L (n+1) x hx
def Q9 (f:Nat→Nat) (L:List (Cf × Int)):Qe f (cfM L)=cfM L:=by
 simp only[cfM,ZJ,Qe];congr 1;conv=>rhs;rw[← List.map_id (Qj 0 _)]
 refine List.map_congr_left fun x hx=>W6 (P:=fun x=>(x.1,ren f x.2.1,ren f x.2.2)=id x) (fun n k i=>by simp [cfV,cfC,ren,renL]) L 0 x hx
def ZM (D:List Nat) (L:List (Cf × Int)):rfOb D (cfM L)=true:=by
 simp only[cfM,ZJ,rfOb,List.all_eq_true];exact fun x hx=>W6 (P:=fun x=>(rfI D x.2.1&&rfI D x.2.2)=true) (fun n k i=>by simp [cfV,cfC,rfI,rfL]) L 0 x hx
def QhT (d:Nat) (L:List (Cf × Int)):Qw d (cfM L)=some (cfM L):=by
 refine VC d _ fun p hp=>?_;obtain⟨x,hx,rfl⟩:=List.mem_map.1 hp;obtain⟨y,hy,rfl⟩:=List.mem_map.1 hx
 exact⟨rfl,rfl⟩
def HX (d:Nat) (L:List (Cf × Int)):Qw d (cfM L)=some (cfM L):=QhT d L
attribute [go_sem] HX Q9 ZM
def Qha {cl:Qf} {a c mm kk:Nat} {k0:Cf} {l:List Stp} (hm:e mm=.mp s) (hk:e kk=cfV k0) (ho:o s=some (cfM L)) (hd:(mm==a)=false∧(mm==b)=false∧(mm==c)=false∧(mm==d)=false∧(kk==a)=false∧(kk==b)=false∧(kk==c)=false∧(b==c)=false∧(b==d)=false∧(a==b)=false)
  (h:∀ va vb vc vd o1,o1 s=some (cfM (incF k0 L))→(∀ t,t≠s→o1 t=o t)→wpRU cl l K (upd (upd (upd (upd e a va) b vb) c vc) d vd) o1) :
  wpRU cl (⟨some a,none,.lkp true [.i .i64,.i .i64,.i .i64,.i .i64,.i .i64] (.i .i64 0) false (.t mm) (.t kk),[]⟩::⟨some b,none,.q (.bin .add (.t a) (.k (.i .i64 1))),[]⟩::⟨some c,none,.men true [.i .i64,.i .i64,.i .i64,.i .i64,.i .i64] (.i .i64 0) (.t mm) (.t kk),[.lkp true [.i .i64,.i .i64,.i .i64,.i .i64,.i .i64] (.i .i64 0) false (.t mm) (.t kk)]⟩ ::
   ⟨some d,none,.q (.ext (.t c) 1),[]⟩::⟨none,none,.est (.t mm) (.t d) (.t b),[]⟩::l) K e o:=by
 obtain⟨d1,d2,d3,d4,d5,d6,d7,d8,d9,d10⟩:=hd;simp only[beq_eq_false_iff_ne,ne_eq] at d1 d2 d3 d4 d5 d6 d7 d8 d9 d10;have hl:=Hi (z:=.i .i64 0) Qce (QgS k0) ho;refine QkT (v:=menV k0 (.i .i64 0) (L.map cfP)) (by rw[Od.ev,Od.ev,hm,hk];exact hl) ?_;have key:∀ (L2:List (Cf × V)) (n:Int) (j:Nat),menV k0 (.i .i64 0) (L.map cfP)=.i .i64 n→menL k0 (.i .i64 0) (L.map cfP)=L2→menI k0 (L.map cfP)=j→L2[j]?=some (k0,.i .i64 n)→L2.set j (k0,.i .i64 (IntKind.i64.wrap (n+1)))=(incF k0 L).map cfP→menV k0 (.i .i64 0) L2=.i .i64 n→wpRU cl (⟨some b,none,.q (.bin .add (.t a) (.k (.i .i64 1))),[]⟩::⟨some c,none,.men true [.i .i64,.i .i64,.i .i64,.i .i64,.i .i64] (.i .i64 0) (.t mm) (.t kk),[.lkp true [.i .i64,.i .i64,.i .i64,.i .i64,.i .i64] (.i .i64 0) false (.t mm) (.t kk)]⟩ ::
   ⟨some d,none,.q (.ext (.t c) 1),[]⟩::⟨none,none,.est (.t mm) (.t d) (.t b),[]⟩::l) K (upd e a (menV k0 (.i .i64 0) (L.map cfP))) o:=fun L2 n j g1 g2 g3 g4 g5 g6=>by
  rw[g1];refine U_q (v:=.i .i64 (IntKind.i64.wrap (n+1))) (by simp only[qv,Od.ev,upd,if_true];rfl) ?_;have hm2:upd (upd e a (.i .i64 n)) b (.i .i64 (IntKind.i64.wrap (n+1))) mm=.mp s:=by simp [upd,d1,d2,hm]
  have hk2:upd (upd e a (.i .i64 n)) b (.i .i64 (IntKind.i64.wrap (n+1))) kk=cfV k0:=by simp [upd,d5,d6,hk]
  refine U_st (QfX (enc:=cfV) (k0:=k0) (L:=L.map cfP) Qce (QgS k0) hm2 ho hk2 ?_);rw[g1,g2,g3];have hm3:upd (upd (upd e a (.i .i64 n)) b (.i .i64 (IntKind.i64.wrap (n+1)))) c (.tp [.i .i64 n,.i .i64 j]) mm=.mp s:=by simp [upd,d1,d2,d3,hm]
  have hk3:upd (upd (upd e a (.i .i64 n)) b (.i .i64 (IntKind.i64.wrap (n+1)))) c (.tp [.i .i64 n,.i .i64 j]) kk=cfV k0:=by simp [upd,d5,d6,d7,hk]
  refine⟨Ju (v:=.i .i64 n) ?_ ?_ rfl J2,?_⟩
  ·simp only[rv,Od.ev,hm2,hk2];rw[hl,g1]
  ·simp only[rv,Od.ev,QO,hm3,hk3];rw[Hi (L:=L2) Qce (QgS k0) (by simp [upd]),g6]
  ·rw[QO];refine U_q (v:=.i .i64 j) (by simp only[qv,Od.ev,upd,if_true];rfl) ?_;refine Qkq (enc:=cfV) (L:=L2) (k0:=k0) (s:=s) (j:=j) (v0:=.i .i64 n) (v:=.i .i64 (IntKind.i64.wrap (n+1))) (by simp [Od.ev,upd,d1,d2,d3,d4,hm]) (by simp [Od.ev,upd,natV]) (by simp [upd]) g4 (by simp [Od.ev,upd,d8,d9]) ?_;rw[g5];exact h _ _ _ _ _ (by simp [upd,cfM]) fun t ht=>by simp [upd,ht]
 rcases H1 k0 L with⟨i1,i2⟩|⟨j,n,i1,i2,i3⟩
 ·have e4:kidx k0 (L.map cfP++[(k0,V.i .i64 0)])=some L.length:=by
   clear key hl h ho i2;induction L with
   | nil=>simp [kidx]
   | cons p L ih =>
    obtain⟨k',n⟩:=p;simp only[List.map_cons,cfP,kidx] at i1;split at i1
    ·cases i1
    ·rename_i hne;simp only[List.map_cons,List.cons_append,cfP,kidx,if_neg hne]
     have:=ih (by simpa [cfP] using i1)
     rw[show (L.map cfP++[(k0,V.i .i64 0)])=(L.map cfP++[(k0,V.i .i64 0)]) from rfl] at this;rw[this];rfl
  refine key (L.map cfP++[(k0,.i .i64 0)]) 0 L.length (by simp [menV,i1]) (by simp [menL,i1]) (by simp [menI,i1]) SM ?_ (by simp [menV,e4]);rw[i2]
  have:IntKind.i64.wrap (0+1)=1:=by decide
  rw[this];simp [cfP]
 ·have hj:(L.map cfP)[j]?=some (k0,.i .i64 n):=by simp [i2,cfP]
  refine key (L.map cfP) n j (by simp [menV,i1,hj]) (by simp [menL,i1]) (by simp [menI,i1]) hj (by rw[i3,List.map_set];rfl) (by simp [menV,i1,hj])
def QhA (l:List Cf) (L:List (Cf × Int)) (hl:l.length < 4294967296) :
  GenO (Call F) 39 [.mp 1000000,.sl (l.map cfC)] [(1000000,cfM L)] [] (.tp []) [(1000000,cfM (putF l L))] [] [1000000] []:=by
 refine Yl e39 rfl rfl (by simp [domA]) SM SM (by simp [domA]) fun o hb _=>?_;dsimp only[fn39,c39];have hb0:=hb _ (List.mem_cons_self ..);dsimp only at hb0;clear hb;refine RT trivial ?_;refine U_lp (fun r e o=>∃ i:Nat,i+r=l.length∧e 0=.mp 1000000∧e 6=.sl (l.map cfC)∧e 7=.i .i64 l.length∧e 8=.i .i64 i∧∃ L',o 1000000=some (cfM L')∧putF (l.drop i) L'=putF l L) (k:=l.length) ?_ (Qa F) ?_
 ·exact⟨0,OM,Z0,Z0,Z0,Zr0,L,hb0,rfl⟩
 clear hb0;rintro r e o ⟨i,hir,r0,r6,r7,r8,L1,m0,hL⟩;dsimp only[Qjg];refine RN (Ad2 r7 r8) ?_;refine Qx (q:=decide ((i:Int) < (l.length:Int))) (Z0) (fun hc=>?_) (fun hc=>?_)
 ·have hi:i < l.length:=by simpa using hc
  have hip:(0:Int)≤(i:Int):=by omega
  have hx:=Vy hi;have hw:=Wb (i:=i) OM;have hil:((i:Int) < (l.length:Int))=True:=by simp;omega
  rw[List.drop_eq_getElem_cons hi,putF,List.foldl_cons] at hL;refine RT (Ad3 r0 r6 (Ad5 r8 hip hil hx m0)) ?_;refine Qha (s:=1000000) (k0:=l[i]) (L:=L1) (Z0) (by simp only[cfV,cfC,go_sem]) (Z1 m0) LM fun va vb vc vd o1 p1 p2=>?_;refine RN (Ad2 r8 hw) ?_
  exact⟨r - 1,OM,i+1,OM,Z1 r0,Z1 r6,Z1 r7,Z0,_,p1,hL⟩
 ·have hi:i=l.length:=by
   have:¬ i < l.length:=by simpa using hc
   omega
  subst hi;rw[List.drop_length] at hL;have hL:L1=putF l L:=hL;subst hL;refine RN trivial ?_;refine QE [(1000000,cfM (putF l L))] [] (fun s=>s) (by rw[ren];rfl) ?_ rfl SM ?_ SM (by rw[rfI];rfl) ?_ ?_ SM
  ·simp only[List.map_cons,List.map_nil,Ye]
  ·simp [m0]
  ·simp only[List.all_cons,List.all_nil,ZM];rfl
  ·simp [domA]
def Qgk {l:List Cf} {k:List Stp} (hl:l.length < 4294967296) (hargs:ods.map (Od.ev e)=[.mp s,.sl (l.map cfC)]) (m:o s=some (cfM L))
  (h:∀ o1,o1 s=some (cfM (putF l L))→(∀ t,t≠s→o1 t=o t)→wpRU (Call F) k K (upd e d (.tp [])) o1):wpRU (Call F) (⟨some d,none,.nc 39 ods,[]⟩::k) K e o:=by
 refine ZL (fun _=>s) (fun _=>s) [] (QhA l L hl) ?_ ?_ SM ?_ SM SM fun o1 g1 _ g3=>?_
 ·rw[hargs];rfl
 ·intro p hp;rw[List.mem_singleton.1 hp];simpa [Q9] using m
 ·refine QB (by simp [domA]) (by simp [domA]) (by simp [domA]) ?_ ?_ ?_ ?_ SM SM ?_ SM ?_ SM ?_ SM
  ·simp only[rfL,rfI,Bool.and_true];exact Zc (base:=[(1000000,cfM L)]) (s:=1000000) (by simp [domA])
  ·simp only[List.all_cons,List.all_nil,ZM];rfl
  ·rw[rfI];rfl
  ·simp only[List.all_cons,List.all_nil,ZM];rfl
  ·simp [domA]
  ·simp [domA]
  ·simp [domA]
 ·refine h o1 ?_ fun t ht=>g3 t ?_
  ·have:=g1 _ (List.mem_cons_self ..)
   simpa [Q9] using this
  ·intro s' hs';exact Ne.symm ht
structure StepsOf (A:Au) (b:Nat) (X:List Cf) (L':List (Cf × Int)):Prop where
 nd:(keyF L').Nodup
 mem:∀ y,y∈keyF L'↔∃ x∈X,y∈JD A x b
def Qf4 (l:List Cf):(sdC l).length≤l.length:=Nat.le_trans (WW _) (by rw[YI];exact Nat.le_refl _)
def Qcm (hL:∀ l∈A.moves,l.length < 2147483648) (x:Cf) (b:Nat):(JD A x b).length < 4294967296:=by
 have h1:=Qf4 (Yj A x b (mvAt A x.p.toNat));have h2:=Vt A x b (mvAt A x.p.toNat);have h3:(mvAt A x.p.toNat).length < 2147483648:=by
  unfold mvAt;cases h:A.moves[x.p.toNat]? with
  | none=>simp
  | some l=>exact hL l (List.mem_of_getElem? h)
 have h4:(JD A x b).length=(sdC (Yj A x b (mvAt A x.p.toNat))).length:=rfl;omega
def Qel (A:Au) (b:Nat) (X:List Cf):∃ L',StepsOf A b X L':=by
 refine⟨putF (X.flatMap fun x=>JD A x b) [],XX List.nodup_nil,fun y=>?_⟩
 rw[JI];simp [keyF]
set_option maxHeartbeats 2000000 in
def Qfn (hW:WF A) (hL:∀ l∈A.moves,l.length < 2147483648) (hr:∀ x∈keyF L,QA A x=true) (hb:b < 256) :
  KV (Call F) 41 [.mp 1000000,.ag (auC A),.i .u8 b] [(1000000,cfM L)] [] (fun L'=>StepsOf A b (keyF L) L') (fun _=>.mp 20) (fun L'=>[(1000000,cfM L),(20,cfM L')]) (fun _=>[]) [1000000] []:=by
 refine D0 e41 rfl rfl (fun i hi=>by simp [domA]) SM SM (by simp [domA]) fun o hb0 _=>?_;dsimp only[fn41,c41];have m0:=hb0 _ (List.mem_cons_self ..);dsimp only at m0;clear hb0;have hel:(encL cfV (L.map cfP)).length=L.length:=by simp [encL]
 refine RT m0 ?_;refine Qms (s:=1000000) (L:=encL cfV (L.map cfP)) (Z0) (Zr1 m0) RM ?_;refine RN trivial ?_;refine U_lp (fun r e o=>∃ seen:List Nat,r+seen.length=L.length∧seen.Nodup∧(∀ j∈seen,j < L.length)∧e 2=.i .u8 b∧e 4=.pt 4 0 0∧e 7=.mp 9∧e 11=.it 11∧o 4=some (.row 15 [auC A])∧o 11=some (.iter (some 1000000) (encL cfV (L.map cfP)).length seen (encL cfV (L.map cfP)).length)∧o 1000000=some (cfM L)∧∃ L',o 9=some (cfM L')∧(keyF L').Nodup∧∀ y,y∈keyF L'↔∃ j∈seen,∃ x,(keyF L)[j]?=some x∧y∈JD A x b) (k:=L.length) ?_ (Qa F) ?_
 ·exact⟨[],SM,List.nodup_nil,SM,Z0,Z0,Z0,Z0,Z0,Z0,Z1 m0,[],Zr0,List.nodup_nil,by simp [keyF]⟩
 clear m0;rintro r e o ⟨seen,hrs,hnd,hsl,r2,r4,r7,r11,m4,m11,m0,L1,m9,hn1,hm1⟩;dsimp only[QlC];refine RN trivial ?_;refine QlX (s:=11) (mid:=1000000) (L:=encL cfV (L.map cfP)) (seen:=seen) (Z1 r11) m11 m0 (fun hall=>?_) (fun j kv vv hj hns=>?_)
 ·rw[hel] at hall;refine RN r7 ?_
  refine⟨L1,⟨hn1,fun y=>?_⟩,?_⟩
  ·rw[hm1];constructor
   ·rintro⟨j,_,x,h1,h2⟩;exact⟨x,List.mem_of_getElem? h1,h2⟩
   ·rintro⟨x,h1,h2⟩
    obtain⟨j,hj⟩:=List.mem_iff_getElem?.1 h1;have hjl:j < L.length:=by have:=(List.getElem?_eq_some_iff.1 hj).1;simpa [keyF] using this
    exact⟨j,hall j hjl,x,hj,h2⟩
  ·refine QE [(1000000,cfM L),(9,cfM L1)] [] (fun s=>if s=9 then 20 else s) RM ?_ rfl SM ?_ SM ?_ ?_ ?_ SM
   ·simp [Q9]
   ·simp [m0,m9]
   ·rfl
   ·simp only[List.all_cons,List.all_nil,ZM];rfl
   ·simp [domA]
 ·obtain⟨⟨k0,c0⟩,hjq,hkv⟩:∃ x,L[j]?=some x∧(cfV x.1,V.i .i64 x.2)=(kv,vv):=by
   simp only[encL,List.getElem?_map,Option.map_map] at hj;obtain⟨x,h1,h2⟩:=Option.map_eq_some_iff.1 hj
   exact⟨x,h1,h2⟩
  cases hkv;have hjl:j < L.length:=(List.getElem?_eq_some_iff.1 hjq).1;have hkj:(keyF L)[j]?=some k0:=by rw[keyF,List.getElem?_map,hjq];rfl
  have hk0:=hr k0 (List.mem_of_getElem? hkj);have hst:=Qhz hW hL hk0 hb;have hent:=QfU (o:=upd o 11 (some (.iter (some 1000000) (encL cfV (L.map cfP)).length (seen++[j]) (encL cfV (L.map cfP)).length))) (s:=11) (m:=1000000) (L:=encL cfV (L.map cfP)) (seen:=seen) (j:=j) (Z0) (Zr1 m0) hj;have hslt:seen.length < L.length:=by
   have:=Ht L.length (j::seen) (List.nodup_cons.2 ⟨hns,hnd⟩) (fun x hx=>by
    rcases List.mem_cons.1 hx with rfl|hx
    ·exact hjl
    ·exact hsl x hx)
   simp only[List.length_cons] at this;omega
  refine RN trivial ?_;refine Qkb (by simp only[r11,go_sem];exact hent) ?_;simp only[cfV];refine RT (Ad5 r2 r4 r7 m4 m9) ?_;refine PCT (Ad3 r2 r4 m4) (r:=.sl ((JD A k0 b).map cfC)) hst ?_;refine Qgk (s:=9) (l:=JD A k0 b) (L:=L1) (Qcm hL k0 b) (Z1 r7) (Z1 m9) fun o1 p1 p2=>?_;refine RN trivial ?_
  refine⟨r - 1,OM,seen++[j],by simp;omega,?_,?_,Z1 r2,Z1 r4,Z1 r7,Z1 r11,by rw[p2 _ LM];simp only[m4,go_sem],by rw[p2 _ LM];simp only[go_sem],by rw[p2 _ LM];simp only[m0,go_sem],_,p1,XX hn1,fun y=>?_⟩
  ·exact List.nodup_append.2 ⟨hnd,SM,fun a ha c hc=>by simp at hc;subst hc;intro h;subst h;exact hns ha⟩
  ·intro a ha;rcases List.mem_append.1 ha with ha|ha
   ·exact hsl a ha
   ·simp at ha;rw[ha];exact hjl
  ·rw[JI,hm1];constructor
   ·rintro (h|⟨i,hi,x,h1,h2⟩)
    ·exact⟨j,SM,k0,hkj,h⟩
    ·exact⟨i,List.mem_append_left _ hi,x,h1,h2⟩
   ·rintro⟨i,hi,x,h1,h2⟩
    rcases List.mem_append.1 hi with hi|hi
    ·exact .inr ⟨i,hi,x,h1,h2⟩
    ·simp at hi;subst hi;rw[hkj] at h1;cases h1;exact .inl h2
def wdV (w:List Nat):V:=.sl (w.map fun b:Nat=>[.i .u8 (b:Int)])
def QmH {i:Nat} (h:i < w.length):(w.map fun b:Nat=>[V.i .u8 (b:Int)])[i]?=some [.i .u8 (w[i]:Int)]:=by rw[List.getElem?_map,List.getElem?_eq_getElem h];rfl
def Qm3 (w:List Nat):QL (w.map fun b:Nat=>[V.i .u8 (b:Int)])=true:=QJ (fun _=>rfl) w
attribute [go_sem] Qm3
structure WkOf (A:Au) (w:List Nat) (k:Nat) (L:List (Cf × Int)):Prop where
 nd:(keyF L).Nodup
 mem:∀ y,y∈keyF L↔y∈bhF A w k
def WkOf.beg (h:WkOf A w 0 L) (h0:0 < w.length):WkOf A w 1 (putF (begF A w[0]) L):=by
 refine⟨XX h.nd,fun y=>?_⟩
 rw[JI,h.mem,bhF,bhF,List.getElem?_eq_getElem h0];simp
def WkOf.step {L':List (Cf × Int)} (h:WkOf A w k L) (hk:k < w.length) (h0:k≠0) (hs:StepsOf A w[k] (keyF L) L'):WkOf A w (k+1) L':=by
 refine⟨hs.nd,fun y=>?_⟩
 rw[hs.mem,bhF,List.getElem?_eq_getElem hk];simp only[if_neg h0,List.mem_flatMap,h.mem]
def QnB (A:Au) (w:List Nat) (k:Nat):∃ L,WkOf A w k L:=by
 refine⟨putF (bhF A w k) [],XX List.nodup_nil,fun y=>?_⟩
 rw[JI];simp [keyF]
def Qif (hW:WF A) (hL:∀ l∈A.moves,l.length < 2147483648) (t:Nat) (hst:s≠t) (ht:t < 1000000) {k:List Stp} (hr:∀ x∈keyF L,QA A x=true) (hb:b < 256) (hargs:ods.map (Od.ev e)=[.mp s,.ag (auC A),.i .u8 b]) (m:o s=some (cfM L))
  (h:∀ L',StepsOf A b (keyF L) L'→∀ o1,o1 t=some (cfM L')→(∀ u,u≠s→u≠t→o1 u=swpO t o u)→wpRU (Call F) k K (upd (swpE t e) d (.mp t)) o1):wpRU (Call F) (⟨some d,none,.nc 41 ods,[]⟩::k) K e o:=by
 have hre:∀ f,ren f (.ag (auC A))=.ag (auC A):=fun f=>Wk f _ (by rw[cld];exact Kk A);have hra:∀ D,rfI D (.ag (auC A))=true:=fun D=>Jy D _ (by rw[cld];exact Kk A);refine Df (fun u=>if u=1000000 then s else u) (fun u=>if u=1000000 then s else if u=20 then t else u) [t] (Qfn hW hL hr hb) ?_ ?_ SM (Qel A b (keyF L)) (fun L' hL'=>?_) SM SM fun L' hL' o1 g1 _ g3=>?_
 ·rw[hargs,renL,renL,renL,renL,hre];rfl
 ·intro p hp;rw[List.mem_singleton.1 hp];simpa [Q9] using m
 ·refine QB (by simp [domA]) (by simp [domA,hst]) (by simp [domA]) ?_ ?_ ?_ ?_ SM SM ?_ SM ?_ SM ?_ SM
  ·have h1:rfI (domA (obs [(1000000,cfM L)] [])) (.mp 1000000)=true:=by rw[rfI];exact Zc (base:=[(1000000,cfM L)]) (s:=1000000) (by simp [domA])
   rw[rfL,rfL,rfL,rfL,hra,h1,rfI];rfl
  ·simp only[List.all_cons,List.all_nil,ZM];rfl
  ·rw[rfI];exact Zc (base:=[(1000000,cfM L),(20,cfM L')]) (s:=20) (by simp [domA])
  ·simp only[List.all_cons,List.all_nil,ZM];rfl
  ·simp [domA,hst]
  ·simp [domA]
  ·simp [domA,ht]
 ·refine h L' hL' o1 ?_ fun u h1 h2=>g3 u ?_
  ·have:=g1 (20,cfM L') SM
   simpa [Q9] using this
  ·intro s' hs';simp [domA] at hs';rcases hs' with rfl|rfl
   ·simpa using Ne.symm h1
   ·simpa using Ne.symm h2
def QdU (L:List (Cf × Int)):KV (Call F) 21 [.mp 1000000] [(1000000,cfM L)] [] (fun _:Unit=>True) (fun _=>.tp []) (fun _=>[(1000000,cfM L)]) (fun _=>[]) [1000000] []:=by
 refine D0 e21 rfl rfl (fun i hi=>by simp [domA]) SM SM (by simp [domA]) fun o hb0 _=>?_;dsimp only[fn21,c21];have m0:=hb0 _ (List.mem_cons_self ..);dsimp only at m0;refine RN trivial ?_
 refine⟨(),trivial,QE [(1000000,cfM L)] [] (fun s=>s) RM ?_ rfl SM ?_ SM RM ?_ ?_ SM⟩
 ·simp [Ye]
 ·simp [m0]
 ·simp only[List.all_cons,List.all_nil,ZM];rfl
 ·simp [domA]
def Qb7 {y x:Od} {k:List Stp} (hy:y.ev e=.fn 21 []) (hx:x.ev e=.mp s) (m:o s=some (cfM L))
  (h:∀ o1,o1 s=some (cfM L)→(∀ t,t≠s→o1 t=o t)→wpRU (Call F) k K (upd e d (.tp [])) o1):wpRU (Call F) (⟨some d,none,.nv y [x],[]⟩::k) K e o:=by
 refine Qg3 hy (fun _=>s) (fun _=>s) [] (QdU L) ?_ ?_ SM ⟨(),trivial⟩ (fun _ _=>?_) SM SM fun _ _ o1 g1 _ g3=>?_
 ·simp only[List.map_cons,List.map_nil,hx,List.append_nil];rfl
 ·intro p hp;rw[List.mem_singleton.1 hp];simpa [Q9] using m
 ·refine QB (by simp [domA]) (by simp [domA]) (by simp [domA]) ?_ ?_ ?_ ?_ SM SM ?_ SM ?_ SM ?_ SM
  ·simp only[rfL,rfI,Bool.and_true];exact Zc (base:=[(1000000,cfM L)]) (s:=1000000) (by simp [domA])
  ·simp only[List.all_cons,List.all_nil,ZM];rfl
  ·rw[rfI];rfl
  ·simp only[List.all_cons,List.all_nil,ZM];rfl
  ·simp [domA]
  ·simp [domA]
  ·simp [domA]
 ·refine h o1 ?_ fun t ht=>g3 t ?_
  ·have:=g1 _ (List.mem_cons_self ..)
   simpa [Q9] using this
  ·intro s' hs';exact Ne.symm ht
def QfB (hf:A.first.length≤1000) (b:Nat):(begF A b).length < 4294967296:=by
 have h1:=Qf4 (begL A b A.first);have h2:=List.length_filter_le (fun p=>Q2 (stAt A p) b) A.first;have h3:(begL A b A.first).length=(A.first.filter fun p=>Q2 (stAt A p) b).length:=by simp only[begL,List.length_map]
 have h4:(begF A b).length=(sdC (begL A b A.first)).length:=rfl;omega
def NmW (s:Nat):Prop:=s=10∨s=2000∨s=2001
set_option maxHeartbeats 2000000 in
def QbS (hW:WF A) (hf:A.first.length≤1000) (hL:∀ l∈A.moves,l.length < 2147483648) (w:List Nat) (hw:∀ b∈w,b < 256) (hl:w.length < 4294967296) :
  KV (Call F) 20 [.ag (auC A),wdV w,.fn 21 []] [] [] (fun L=>WkOf A w w.length L) (fun _=>.mp 20) (fun L=>[(20,cfM L)]) (fun _=>[]) [] []:=by
 refine D0 e20 rfl rfl (fun i hi=>by simp [domA]) SM SM (by simp [domA]) fun o _ _=>?_;dsimp only[fn20,c20];refine RT wdV.eq_1 ?_;refine U_lp (fun r e o=>∃ i s:Nat,i+r=w.length∧NmW s∧(i=0→s=10)∧e 2=.fn 21 []∧e 3=.pt 3 0 0∧e 7=.mp s∧e 11=wdV w∧e 12=.i .i64 w.length∧e 13=.i .i64 i∧o 3=some (.row 15 [auC A])∧∃ L,o s=some (cfM L)∧WkOf A w i L) (k:=w.length) ?_ (Qa F) ?_
 ·exact⟨0,10,OM,.inl rfl,fun _=>rfl,Z0,Z0,Z0,by simp only[wdV,go_sem],Z0,Zr0,Z0,[],Zr0,⟨List.nodup_nil,fun y=>by simp [keyF,bhF]⟩⟩
 rintro r e o ⟨i,s,hir,hs,hs0,r2,r3,r7,r11,r12,r13,m3,L,ms,hwk⟩;dsimp only[Qjx];refine RN (Ad2 r12 r13) ?_;refine Qx (q:=decide ((i:Int) < (w.length:Int))) (Z0) (fun hc=>?_) (fun hc=>?_)
 ·have hi:i < w.length:=by simpa using hc
  have hip:(0:Int)≤(i:Int):=by omega
  have hx:=QmH hi;have hb:=hw w[i] (List.getElem_mem hi);have hw1:=Wb (i:=i) OM;have hil:((i:Int) < (w.length:Int))=True:=by simp;omega
  have hr:∀ x∈keyF L,QA A x=true:=fun x hx=>Yc hW w i x ((hwk.mem x).1 hx);by_cases h0:i=0
  ·subst h0;obtain rfl:=hs0 rfl;have h2:=hwk.beg hi;have hbg:=QeX hW hf hb;refine RT (Ad2 r2 (Ad5 r3 r7 r11 r13 (Ad5 wdV.eq_1 hip hil hx m3))) ?_;refine PCT (Ad2 r3 m3) (r:=.sl ((begF A w[0]).map cfC)) hbg ?_;refine Qgk (s:=10) (l:=begF A w[0]) (L:=L) (QfB hf _) (Z1 r7) (Z1 ms) fun o1 p1 p2=>?_;refine RN (Ad2 r2 r7) ?_;refine Qb7 (s:=10) (L:=putF (begF A w[0]) L) (Z1 r2) (Z1 r7) p1 fun o2 p3 p4=>?_;refine RN (Ad2 r13 hw1) ?_
   exact⟨r - 1,OM,1,10,OM,.inl rfl,fun _=>rfl,Z1 r2,Z1 r3,Z1 r7,Z1 r11,Z1 r12,Zr0,by rw[p4 _ LM,p2 _ LM];simp only[m3,go_sem],_,p3,h2⟩
  ·have c0:((i:Int)==0)=false:=by simp [h0]
   obtain⟨t,ht,hst,htm⟩:∃ t,NmW t∧s≠t∧(t=2000∨t=2001):=by
    by_cases h:s=2000
    ·exact⟨2001,.inr (.inr rfl),OM,.inr rfl⟩
    ·exact⟨2000,.inr (.inl rfl),h,.inl rfl⟩
   have t2:((2:Nat)==t)=false:=by simp;omega
   have t3:((3:Nat)==t)=false:=by simp;omega
   have s3:(3:Nat)≠s:=by rcases hs with rfl|rfl|rfl<;>decide
   refine RT (Ad3 r2 r3 (Ad5 r7 r11 r13 c0 (Ad5 wdV.eq_1 hip hil hx m3))) ?_;refine Qif hW hL (s:=s) t hst OM (L:=L) (b:=w[i]) hr hb (by simp only[r7,r3,m3,List.take_succ_cons,List.take_zero,List.drop_succ_cons,List.drop_zero,go_sem]) (Z1 ms) fun L' hL' o1 p1 p2=>?_;have h2:=hwk.step hi h0 hL';refine RN (Ad2 r2 t2) ?_;refine Qb7 (s:=t) (L:=L') (Z2 r2 t2) (Z0) p1 fun o2 p3 p4=>?_;refine RN (Ad2 r13 hw1) ?_
   exact⟨r - 1,OM,i+1,t,OM,ht,fun h=>by omega,Z1 r2,Z2 r3 t3,Z0,by simp only[r11,wdV,go_sem],Z1 r12,Z0,by rw[p4 _ OM,p2 _ s3 OM];simp only[m3,t3,go_sem],_,p3,h2⟩
 ·have hi:i=w.length:=by
   have:¬ i < w.length:=by simpa using hc
   omega
  subst hi;refine RN r7 ?_
  refine⟨L,hwk,QE [(s,cfM L)] [] (fun u=>if u=s then 20 else u) (by simp [ren]) ?_ rfl SM ?_ SM ?_ ?_ SM SM⟩
  ·simp [Q9]
  ·simp [ms]
  ·rw[rfI];exact Zc (base:=[(s,cfM L)]) (s:=s) (by simp [domA])
  ·simp only[List.all_cons,List.all_nil,ZM];rfl
end Go.Proofs.YtocmjakchgcioaaGreat
