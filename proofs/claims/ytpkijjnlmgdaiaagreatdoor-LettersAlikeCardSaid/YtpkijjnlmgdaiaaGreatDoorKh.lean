import Derived.Test.YtpkijjnlmgdaiaaGreatDoorDa
import Derived.Test.YtpkijjnlmgdaiaaGreatDoorF1

namespace Go.Proofs.YtpkijjnlmgdaiaaGreatDoor
set_option linter.all false
variable {s t:Nat→Nat} {a b n r j i:Nat} {l:List (Nat→Nat)} {T:Nat→Nat→Bool}
def wrd (f:Nat→Bool):Nat→Nat
 | 0=>0
 | n+1=>(if f n then 2 ^ n else 0)+wrd f n
theorem QdO (f:Nat→Bool):∀ n,wrd f n < 2 ^ n
 | 0=>by simp [wrd]
 | n+1=>by
  have:=QdO f n
  rw[wrd,Nat.pow_succ];split<;>omega
theorem Qbw (f:Nat→Bool) (k:Nat):∀ n,(wrd f n).testBit k=(decide (k < n)&&f k)
 | 0=>by simp [wrd]
 | n+1=>by
  have ih:=Qbw f k n;have hl:=QdO f n;rw[wrd];by_cases hf:f n=true
  ·rw[if_pos hf]
   have:=Nat.testBit_two_pow_mul_add 1 hl k
   rw[Nat.mul_one] at this;rw[this,ih];by_cases hk:k < n
   ·rw[if_pos hk];simp [hk,show k < n+1 by omega]
   ·rw[if_neg hk];by_cases e:k=n
    ·subst e;simp [hf]
    ·have h1:¬ k < n+1:=by omega
     have h2:k - n≠0:=by omega
     obtain⟨d,hd⟩:∃ d,k - n=d+1:=⟨k - n - 1,OM⟩;rw[hd,Nat.testBit_succ];simp [h1]
  ·rw[if_neg hf,Nat.zero_add,ih];by_cases hk:k < n
   ·simp [hk,show k < n+1 by omega]
   ·by_cases e:k=n
    ·subst e;simp [Bool.not_eq_true _ ▸ hf]
    ·simp [hk,show ¬ k < n+1 by omega]
def clsS (f:Nat→Bool) (i:Nat):Nat:=wrd (fun k=>f (i*64+k)) 64
def V3 (f:Nat→Bool) (i:Nat):clsS f i < 18446744073709551616:=by
 have:=QdO (fun k=>f (i*64+k)) 64
 rw[clsS];omega
def YX (f:Nat→Bool):W64 (clsS f):=fun i _=>V3 f i
def QW (f:Nat→Bool) (b:Nat):Qj (clsS f) b=f b:=by
 rw[Qj,clsS,Qbw];have h1:b % 64 < 64:=Nat.mod_lt _ OM;have h2:b / 64*64+b % 64=b:=by omega
 simp [h1,h2]
def QeN {x y:Nat} (hx:x < 18446744073709551616) (hy:y < 18446744073709551616) (h:∀ k,k < 64→x.testBit k=y.testBit k):x=y:=by
 have hx:x < 2 ^ 64:=by omega
 have hy:y < 2 ^ 64:=by omega
 apply Nat.eq_of_testBit_eq;intro k;by_cases hk:k < 64
 ·exact h k hk
 ·rw[Nat.testBit_lt_two_pow (Nat.lt_of_lt_of_le hx (Nat.pow_le_pow_right OM OM)),Nat.testBit_lt_two_pow (Nat.lt_of_lt_of_le hy (Nat.pow_le_pow_right OM OM))]
def Qoe (hs:W64 s) (ht:W64 t) (h:∀ b,b < 256→Qj s b=Qj t b) (i:Nat) (hi:i < 4):s i=t i:=by
 refine QeN (hs i hi) (ht i hi) fun k hk=>?_
 have:=h (i*64+k) OM
 rw[Qj,Qj,show (i*64+k) / 64=i by omega,show (i*64+k) % 64=k by omega] at this;exact this
def YS (hs:W64 s) (ht:W64 t) (h:∀ b,b < 256→Qj s b=Qj t b):u4 s=u4 t:=by
 have e:=Qoe hs ht h;rw[u4,u4,e 0 OM,e 1 OM,e 2 OM,e 3 OM]
def orS (a b:Nat→Nat) (i:Nat):Nat:=a i ||| b i
def Qct (a b:Nat→Nat) (k:Nat):Qj (orS a b) k=(Qj a k||Qj b k):=by simp [Qj,orS,Nat.testBit_or]
def QkY {a b:Nat→Nat} (ha:W64 a) (hb:W64 b):W64 (orS a b):=fun i hi=>Nat.or_lt_two_pow (n:=64) (ha i hi) (hb i hi)
def byS (b:Nat):Nat→Nat:=clsS fun k=>decide (k=b)
structure Eqv (T:Nat→Nat→Bool):Prop where
 rf:∀ a,T a a=true
 sy:∀ {a b},T a b=true→T b a=true
 tr:∀ {a b c},T a b=true→T b c=true→T a c=true
def togF (l:List (Nat→Nat)) (a b:Nat):Bool:=l.all fun s=>Qj s a==Qj s b
def YI:togF l a b=true↔∀ s∈l,Qj s a=Qj s b:=by simp [togF]
def Yb (l:List (Nat→Nat)):Eqv (togF l) where
 rf a:=YI.2 fun s _=>rfl
 sy h:=YI.2 fun s hs=>(YI.1 h s hs).symm
 tr h1 h2:=YI.2 fun s hs=>(YI.1 h1 s hs).trans (YI.1 h2 s hs)
def newB (T:Nat→Nat→Bool) (a:Nat):Bool:=(List.range a).all fun c=>!T c a
def QZ (T:Nat→Nat→Bool) (n:Nat):List Nat:=(List.range n).filter (newB T)
def Ys:newB T a=true↔∀ c,c < a→T c a=false:=by simp [newB]
def WY (T:Nat→Nat→Bool) (n:Nat):QZ T (n+1)=QZ T n++if newB T n then [n] else []:=by
 rw[QZ,List.range_succ,List.filter_append];congr 1;by_cases h:newB T n=true<;>simp [h]
def Y8:r∈QZ T n↔r < n∧newB T r=true:=by simp [QZ]
def QaK (T:Nat→Nat→Bool) (n:Nat):(QZ T n).Nodup:=List.Pairwise.filter _ List.nodup_range
def QfL (hT:Eqv T):∀ c,∃ r,r≤c∧newB T r=true∧T r c=true:=by
 intro c;induction c using Nat.strongRecOn with
 | _ c ih =>
  by_cases h:newB T c=true
  ·exact⟨c,Nat.le_refl _,h,hT.rf c⟩
  ·have:∃ d,d < c∧T d c=true:=by
    rw[Ys] at h;simpa using h
   obtain⟨d,hd,hdc⟩:=this;obtain⟨r,h1,h2,h3⟩:=ih d hd
   exact⟨r,OM,h2,hT.tr h3 hdc⟩
def Qgk (hT:Eqv T) {s:Nat} (hr:newB T r=true) (hs:newB T s=true) (h:T r s=true):r=s:=by
 rcases Nat.lt_trichotomy r s with h1|h1|h1
 ·rw[Ys] at hs;rw[hs r h1] at h;cases h
 ·exact h1
 ·rw[Ys] at hr;have:=hr s h1;rw[hT.sy h] at this;cases this
def QaA (hT:Eqv T):newB T n=true↔∀ r∈QZ T n,T r n=false:=by
 rw[Ys]
 refine⟨fun h r hr=>h r (Y8.1 hr).1,fun h c hc=>?_⟩
 cases hcn:T c n with
 | false=>rfl
 | true =>
  obtain⟨r,h1,h2,h3⟩:=QfL hT c
  have:=h r (Y8.2 ⟨OM,h2⟩)
  rw[hT.tr h3 hcn] at this;cases this
def pcl (T:Nat→Nat→Bool) (n r:Nat):Nat→Nat:=clsS fun x=>decide (x < n)&&T r x
def outL (T:Nat→Nat→Bool) (n:Nat):List (Nat→Nat):=(QZ T n).map (pcl T n)
def Kv (T:Nat→Nat→Bool) (n r:Nat):W64 (pcl T n r):=YX _
def ZS (T:Nat→Nat→Bool) (n r x:Nat):Qj (pcl T n r) x=(decide (x < n)&&T r x):=QW _ _
def idxR (T:Nat→Nat→Bool) (n:Nat):Option Nat:=(QZ T n).findIdx? fun r=>T r n
def DR (hT:Eqv T):idxR T n=none↔newB T n=true:=by
 rw[idxR,List.findIdx?_eq_none_iff,QaA hT]
def QaB (h:idxR T n=some j):∃ r,(QZ T n)[j]?=some r∧T r n=true:=by
 rw[idxR,List.findIdx?_eq_some_iff_getElem] at h;obtain⟨hj,h1,_⟩:=h
 exact⟨_,List.getElem?_eq_getElem hj,h1⟩
def QiH (hT:Eqv T) (h:idxR T n=some j):QZ T (n+1)=QZ T n∧∃ s,(outL T n)[j]?=some s∧W64 s∧((outL T n).map u4).set j (u4 (orS s (byS n)))=(outL T (n+1)).map u4:=by
 have hnn:newB T n=false:=by
  cases hb:newB T n with
  | false=>rfl
  | true=>rw[(DR hT).2 hb] at h;cases h
 have e1:QZ T (n+1)=QZ T n:=by rw[WY,hnn];simp
 obtain⟨r,hr,hrn⟩:=QaB h
 refine⟨e1,pcl T n r,by rw[outL,List.getElem?_map,hr];rfl,Kv _ _ _,?_⟩
 apply List.ext_getElem?;intro i;rw[List.getElem?_set,outL,outL,e1,List.map_map,List.map_map,List.getElem?_map,List.getElem?_map,List.length_map];have hjl:=(List.getElem?_eq_some_iff.1 hr).1;by_cases hij:j=i
 ·subst hij;rw[if_pos rfl,if_pos hjl,hr];simp only[Option.map_some,Function.comp];refine congrArg some (YS (QkY (Kv _ _ _) (YX _)) (Kv _ _ _) fun b _=>?_);rw[Qct,ZS,byS,QW,ZS];by_cases hb:b=n
  ·subst hb;simp [hrn]
  ·have:(b < n+1)↔b < n:=by omega
   simp [hb,this]
 ·rw[if_neg hij];cases hi:(QZ T n)[i]? with
  | none=>simp only[Option.map_none]
  | some q =>
   simp only[Option.map_some,Function.comp];refine congrArg some (YS (Kv _ _ _) (Kv _ _ _) fun b _=>?_);rw[ZS,ZS];by_cases hb:b=n
   ·subst hb;cases hq:T q b with
    | false=>simp
    | true =>
     exfalso;have h1:=(Y8.1 (List.mem_of_getElem? hr)).2;have h2:=(Y8.1 (List.mem_of_getElem? hi)).2;have e:=Qgk hT h1 h2 (hT.tr hrn (hT.sy hq));subst e;obtain⟨a1,a2⟩:=List.getElem?_eq_some_iff.1 hr;obtain⟨b1,b2⟩:=List.getElem?_eq_some_iff.1 hi;exact hij ((List.getElem_inj (QaK T b)).1 (a2.trans b2.symm))
   ·have:(b < n+1)↔b < n:=by omega
    simp [this]
def zrS:Nat→Nat:=fun _=>0
def Qim (hT:Eqv T) (h:newB T n=true):QZ T (n+1)=QZ T n++[n]∧(outL T n).map u4++[u4 (orS zrS (byS n))]=(outL T (n+1)).map u4:=by
 have e1:QZ T (n+1)=QZ T n++[n]:=by rw[WY,h];simp
 refine⟨e1,?_⟩
 rw[outL,outL,e1,List.map_append,List.map_append,List.map_map,List.map_map];have cg:∀ {a b c d:List (List V)},a=b→c=d→a++c=b++d:=fun h1 h2=>by rw[h1,h2]
 refine cg ?_ ?_
 ·refine List.map_congr_left fun r hr=>?_;have hrn:=(QaA hT).1 h r hr;refine YS (Kv _ _ _) (Kv _ _ _) fun b _=>?_;rw[ZS,ZS];by_cases hb:b=n
  ·subst hb;simp [hrn]
  ·have:(b < n+1)↔b < n:=by omega
   simp [this]
 ·simp only[List.map_cons,List.map_nil,List.cons.injEq,and_true];refine YS (QkY (fun _ _=>by simp [zrS]) (YX _)) (Kv _ _ _) fun b _=>?_;rw[Qct,byS,QW,ZS];have hz:Qj zrS b=false:=by simp [Qj,zrS]
  rw[hz];by_cases hb:b=n
  ·subst hb;simp [hT.rf b]
  ·by_cases hb2:b < n
   ·have:T n b=false:=by
     cases hc:T n b with
     | false=>rfl
     | true=>have:=Ys.1 h b hb2;rw[hT.sy hc] at this;cases this
    simp [hb,this]
   ·simp [hb,show ¬ b < n+1 by omega]
def Jb (l:List (Nat→Nat)) (b:Nat):Nat→Nat:=clsS fun i=>match l[i]? with|some s=>Qj s b|none=>false
def D4 (l:List (Nat→Nat)) (b i:Nat):Qj (Jb l b) i=(match l[i]? with|some s=>Qj s b|none=>false):=QW _ _
abbrev Ky:=Nat × Nat × Nat × Nat
def keyB (l:List (Nat→Nat)) (b:Nat):Ky:=(Jb l b 0,Jb l b 1,Jb l b 2,Jb l b 3)
def Qic (hl:l.length≤256):keyB l a=keyB l b↔togF l a b=true:=by
 rw[YI]
 refine⟨fun h s hs=>?_,fun h=>?_⟩
 ·obtain⟨i,hi,rfl⟩:=List.mem_iff_getElem.1 hs;simp only[keyB,Prod.mk.injEq] at h;have hw:∀ j,j < 4→Jb l a j=Jb l b j:=fun j hj=>by
   match j,hj with
   | 0,_=>exact h.1
   | 1,_=>exact h.2.1
   | 2,_=>exact h.2.2.1
   | 3,_=>exact h.2.2.2
  have h1:=D4 l a i;have h2:=D4 l b i;rw[Qj,hw (i / 64) OM] at h1;rw[Qj,h1] at h2;simpa [List.getElem?_eq_getElem hi] using h2
 ·have:Jb l a=Jb l b:=by
   have e:(fun i:Nat=>match l[i]? with|some s=>Qj s a|none=>false)=fun i:Nat=>match l[i]? with|some s=>Qj s b|none=>false:=by
    funext i
    cases hi:l[i]? with
    | none=>rfl
    | some s=>exact h s (List.mem_of_getElem? hi)
   rw[Jb,Jb,e]
  rw[keyB,keyB,this]
def ofN (cl:Nat→Nat→Bool):Nat→Nat→Nat
 | 0,_=>0
 | i+1,b=>if cl i b then i else ofN cl i b
theorem Qgo {cl:Nat→Nat→Bool} {b:Nat}:∀ {n:Nat},(∃ i,i < n∧cl i b=true)→ofN cl n b < n∧cl (ofN cl n b) b=true
 | 0,⟨_,h,_⟩=>by omega
 | n+1,⟨i,hi,hc⟩=>by
  rw[ofN];by_cases h:cl n b=true
  ·rw[if_pos h];exact⟨OM,h⟩
  ·rw[if_neg h]
   have:ofN cl n b < n∧cl (ofN cl n b) b=true:=Qgo ⟨i,by
    rcases Nat.lt_or_ge i n with h1|h1
    ·exact h1
    ·have:i=n:=by omega
     subst this;exact absurd hc h,hc⟩
   exact⟨OM,this.2⟩
def plF (T:Nat→Nat→Bool) (b:Nat):Nat:=((List.range b).find? fun a=>T a b).getD b
def Qhj (hT:Eqv T) (b:Nat):plF T b≤b∧newB T (plF T b)=true∧T (plF T b) b=true:=by
 rw[plF];cases h:(List.range b).find? (fun a=>T a b) with
 | none =>
  rw[List.find?_range_eq_none] at h
  exact⟨Nat.le_refl _,Ys.2 fun c hc=>by simpa using h c hc,hT.rf b⟩
 | some r =>
  rw[List.find?_range_eq_some] at h;obtain⟨h1,h2,h3⟩:=h;have h2:=List.mem_range.1 h2;show r≤b∧newB T r=true∧T r b=true
  refine⟨Nat.le_of_lt h2,Ys.2 fun c hc=>?_,h1⟩
  have h4:=h3 c hc;cases hcr:T c r with
  | false=>rfl
  | true=>rw[hT.tr hcr h1] at h4;cases h4
def ptL (l:List (Nat→Nat)):List (Nat→Nat):=outL (togF l) 256
def Qmb (hi:i < (ptL l).length):∃ r,r < 256∧newB (togF l) r=true∧(ptL l)[i]=pcl (togF l) 256 r:=by
 have hi':i < (QZ (togF l) 256).length:=by simpa [ptL,outL] using hi
 have h:=Y8.1 (List.getElem_mem hi')
 exact⟨_,h.1,h.2,by simp [ptL,outL]⟩
def pt_w (hi:i < (ptL l).length):W64 (ptL l)[i]:=by
 obtain⟨r,_,_,e⟩:=Qmb hi;rw[e];exact Kv _ _ _
def QfV (l:List (Nat→Nat)):(ptL l).length≤256:=by
 have:=List.length_filter_le (newB (togF l)) (List.range 256)
 rw[List.length_range] at this;simpa [ptL,outL,QZ] using this
def QdV (h:r < 256) (hn:newB (togF l) r=true):YQ (Qj (pcl (togF l) 256 r))=some r:=by
 refine WR h (by rw[ZS,(Yb l).rf];simp [h]) fun j hj=>?_;rw[ZS];cases hc:togF l r j with
 | false=>simp
 | true=>have:=Ys.1 hn j hj;rw[(Yb l).sy hc] at this;cases this
def inP (l:List (Nat→Nat)) (i b:Nat):Bool:=match (ptL l)[i]? with|some s=>Qj s b|none=>false
def QbZ (hi:i < (ptL l).length) (b:Nat):inP l i b=Qj (ptL l)[i] b:=by
 rw[inP,List.getElem?_eq_getElem hi]
def letF (l:List (Nat→Nat)) (b:Nat):Nat:=ofN (inP l) (ptL l).length b
def QmR (l:List (Nat→Nat)) (hb:b < 256):∃ h:letF l b < (ptL l).length,Qj (ptL l)[letF l b] b=true:=by
 obtain⟨r,h1,h2,h3⟩:=QfL (Yb l) b;have hm:r∈QZ (togF l) 256:=Y8.2 ⟨OM,h2⟩;obtain⟨i,hi,e⟩:=List.mem_iff_getElem.1 hm;have hi':i < (ptL l).length:=by simpa [ptL,outL] using hi
 have:=Qgo (cl:=inP l) (b:=b) (n:=(ptL l).length) ⟨i,hi',by
  rw[QbZ hi']
  have:(ptL l)[i]=pcl (togF l) 256 r:=by simp [ptL,outL,e]
  rw[this,ZS,h3];simp [hb]⟩
 refine⟨this.1,?_⟩
 have h:=this.2;rw[QbZ this.1] at h;exact h
def QmN (l:List (Nat→Nat)) (hb:b < 256):∃ h:letF l b < (ptL l).length,YQ (Qj (ptL l)[letF l b])=some (plF (togF l) b):=by
 obtain⟨h,hbit⟩:=QmR l hb;obtain⟨r,h1,h2,e⟩:=Qmb h
 refine⟨h,?_⟩
 rw[e,ZS,Bool.and_eq_true] at hbit;rw[e,QdV h1 h2];obtain⟨p1,p2,p3⟩:=Qhj (Yb l) b;exact congrArg some (Qgk (Yb l) h2 p2 ((Yb l).tr hbit.2 ((Yb l).sy p3)))
def Qjy:(ptL []).length=1:=by
 have h:∀ n,0 < n→QZ (togF []) n=[0]:=by
  intro n hn;induction n with
  | zero=>omega
  | succ n ih =>
   rw[WY];rcases Nat.eq_zero_or_pos n with h|h
   ·subst h;rfl
   ·rw[ih h]
    have:newB (togF []) n=false:=by
     cases hb:newB (togF []) n with
     | false=>rfl
     | true=>have:=Ys.1 hb 0 h;simp [togF] at this
    rw[this];rfl
 rw[ptL,outL,h 256 OM];rfl
attribute [-go_sem] Qp Qb rfOb V.cells
def QjN (h:∀ i,i < 4→s i=t i):u4 s=u4 t:=by
 rw[u4,u4,h 0 OM,h 1 OM,h 2 OM,h 3 OM]
def QfB (s:Nat→Nat) (h:j < 4) (x:Nat):splice j [.i .u64 x] (u4 s)=u4 (fun i=>if i=j then x else s i):=by
 match j,h with
 | 0,_=>rfl
 | 1,_=>rfl
 | 2,_=>rfl
 | 3,_=>rfl
def QjR (s t:Nat→Nat):splice 0 (u4 s) (u4 t)=u4 s:=rfl
def Qhu (s:Nat→Nat) (a b c d:V):splice 0 (u4 s) [a,b,c,d]=u4 s:=rfl
def lcd (cs:List V):Option (List V):=if cs.all K7=true then some (cs.map nlD) else none
def Qmt (s:Nat→Nat):lcd (u4 s)=some (u4 s):=rfl
def QnU (k:IntKind) (n:Int):lcd [.i k n]=some [.i k n]:=rfl
def QlO (k:IntKind) (a b c d:Int):lcd [.i k a,.i k b,.i k c,.i k d]=some [.i k a,.i k b,.i k c,.i k d]:=rfl
def QlZ (A:Au):lcd (auC A)=some (auC A):=by obtain⟨⟨ak,as_,ap,al,ah⟩,S,Cs,R,Fi,Mo,La,Em⟩:=A;rfl
def Qni (e:E) (sz:Nat) (z:List V) (x:Od):litV e sz 1 z [(0,x)]=if (x.ev e).cells.length=sz then (lcd (x.ev e).cells).map fun c=>.sl [c] else none:=by
 simp only[litV,Z4,List.replicate,List.length_cons,List.length_nil,Nat.zero_add,Nat.lt_add_one,and_true,List.set_cons_zero,lcd];by_cases h:(x.ev e).cells.length=sz
 ·simp only[h,if_true];by_cases h2:(x.ev e).cells.all K7=true<;>simp [h2]
 ·simp [h]
def QnD (e:E) (sz:Nat) (z:List V) (x y:Od):litV e sz 2 z [(0,x),(1,y)]=if (x.ev e).cells.length=sz∧(y.ev e).cells.length=sz then (lcd (x.ev e).cells).bind fun c=>(lcd (y.ev e).cells).map fun d=>.sl [c,d] else none:=by
 simp only[litV,Z4,List.replicate,List.length_cons,List.length_nil,lcd];by_cases h:(x.ev e).cells.length=sz
 ·by_cases h3:(y.ev e).cells.length=sz
  ·by_cases h2:(x.ev e).cells.all K7=true<;>by_cases h4:(y.ev e).cells.all K7=true<;>simp [h,h3,h2,h4]
  ·simp [h,h3]
 ·simp [h]
def Qbt (h:i < l.length):(l.map u4)[i]?=some (u4 l[i]):=by rw[List.getElem?_map,List.getElem?_eq_getElem h];rfl
def Vf (L:List (Nat→Nat)):(L.map u4).all Za=true:=List.all_eq_true.2 fun c hc=>by obtain⟨x,_,rfl⟩:=List.mem_map.1 hc;rfl
def QbP (l:List (Nat→Nat)):QA (l.map u4)=true:=Qx (fun _=>rfl) l
def QnC (s:Nat→Nat):cldL (u4 s)=true:=rfl
attribute [go_sem] Qni QnD Qmt QnU QlO QlZ Option.bind_some QjR Qhu QbP QnC
def mixO (n:Nat) (a b:Nat→Nat) (i:Nat):Nat:=if i < n then a i ||| b i else a i
def Qn5 (a b:Nat→Nat) (ha:W64 a) (hb:W64 b):Pu F 77 [.ag (u4 a),.ag (u4 b)] (.ag (u4 (orS a b))):=by
 refine Qe e77 rfl rfl (by simp only[go_sem,Bool.and_true]) ?_;dsimp only[fn77,c77];refine RT trivial ?_;refine U_lp (fun r e o=>∃ i:Nat,i+r=4∧e 2=.pt 2 0 0∧e 3=.pt 3 0 0∧e 4=.pt 4 0 0∧e 6=.i .i64 i∧o 2=some (.row 4 [u4 (mixO i a b)])∧o 3=some (.row 4 [u4 b])∧o 4=some (.row 4 [u4 zrS])) (k:=4) ?_ (Qa F) ?_
 ·exact⟨0,OM,Z0,Z0,Z0,Zr0,Zr0,Z0,Zr0⟩
 rintro r e o ⟨i,hir,r2,r3,r4,r6,o2,o3,o4⟩;dsimp only[Qmw];by_cases hi:i < 4
 ·have hd:decide ((i:Int) < 4)=true:=decide_eq_true OM;have hw:=ZI (i:=i) OM;have hip:(0:Int)≤(i:Int):=by omega
  have hi4:((i:Int) < 4)=True:=by simp only[eq_iff_iff,iff_true];omega
  have hle:i+1≤4:=by omega
  have g1:=HK (mixO i a b) hi;have g1':mixO i a b i=a i:=by simp [mixO]
  rw[g1'] at g1;have g2:=HK b hi;have key:=QfH (ha i hi) (hb i hi);have hspl:splice i [.i .u64 ((a i ||| b i:Nat):Int)] (u4 (mixO i a b))=u4 (mixO (i+1) a b):=by
   rw[QfB _ hi];refine QjN fun j _=>?_;simp only[mixO];by_cases h:j=i
   ·subst h;simp
   ·have:(j < i+1)↔j < i:=by omega
    simp [h,this]
  generalize mixO i a b=s at o2 g1 hspl;generalize ht:mixO (i+1) a b=t at hspl;refine RT (Ad2 r2 (Ad5 r3 r6 o2 o3 (Ad5 hd hw hip hi4 (Ad5 hle g1 g2 key hspl)))) ?_
  exact⟨r - 1,OM,i+1,OM,Z1 r2,Z1 r3,Z1 r4,Z0,by rw[ht];simp only[go_sem],Z1 o3,Z1 o4⟩
 ·have hi:i=4:=by omega
  subst hi;have hd:decide (((4:Nat):Int) < 4)=false:=by simp
  have he:u4 (mixO 4 a b)=u4 (orS a b):=QjN fun j hj=>by simp [mixO,orS,hj]
  rw[he] at o2;refine RT (Ad2 r2 (Ad5 r4 r6 o2 o4 hd)) ?_;exact Qu rfl rfl
def QkP (f:Nat→Bool) (h:n < 256):u4 (fun i=>if i=n / 64 then clsS f (n / 64) ||| 2 ^ (n % 64) else clsS f i)=u4 (clsS fun x=>f x||decide (x=n)):=by
 have hp:2 ^ (n % 64) < 2 ^ 64:=Nat.pow_lt_pow_right OM (Nat.mod_lt _ OM);refine YS (fun j hj=>?_) (YX _) fun b hb=>?_
 ·split
  ·exact Nat.or_lt_two_pow (n:=64) (V3 f _) hp
  ·exact V3 f j
 ·rw[QW,← QW f b,Qj,Qj];by_cases hq:b / 64=n / 64
  ·rw[if_pos hq,hq,Nat.testBit_or,Nat.testBit_two_pow]
   have:(n % 64=b % 64)↔b=n:=by omega
   simp [this]
  ·rw[if_neg hq]
   have:b≠n:=fun h=>hq (by rw[h])
   simp [this]
structure Bt (f:Nat→Bool) (n:Nat):Prop where
 ip:(0:Int)≤((n / 64:Nat):Int)
 lt:(((n / 64:Nat):Int) < 4)=True
 le:n / 64+1≤4
 g:(u4 (clsS f))[n / 64]?=some (.i .u64 (clsS f (n / 64)))
 f0:(n:Int).fdiv 64=((n / 64:Nat):Int)
 nn:(((n % 64:Nat):Int) < 0)=False
 mn:min (n % 64) 64=n % 64
 pw:IntKind.u64.wrap (1*2 ^ (n % 64))=((2 ^ (n % 64):Nat):Int)
 og:orI .u64 (clsS f (n / 64):Int) ((2 ^ (n % 64):Nat):Int)=((clsS f (n / 64) ||| 2 ^ (n % 64):Nat):Int)
 spl:splice (n / 64) [.i .u64 ((clsS f (n / 64) ||| 2 ^ (n % 64):Nat):Int)] (u4 (clsS f))=u4 (clsS fun x=>f x||decide (x=n))
 m8:andI .u8 (n:Int) 63=((n % 64:Nat):Int)
 m6:andI .i64 (n:Int) 63=((n % 64:Nat):Int)
def bt (f:Nat→Bool) (h:n < 256):Bt f n:=by
 have hm:n % 64 < 64:=Nat.mod_lt _ OM;have hq:n / 64 < 4:=by omega
 have hp:2 ^ (n % 64) < 18446744073709551616:=by
  have:2 ^ (n % 64) < 2 ^ 64:=Nat.pow_lt_pow_right OM hm
  exact this
 refine⟨OM,by simp only[eq_iff_iff,iff_true];omega,OM,HK _ hq,Qf3 n,by simp only[eq_iff_iff,iff_false];omega,OM,?_,QfH (V3 f _) hp,?_,Qgl h,Qk6 OM⟩
 ·rw[Int.one_mul,show ((2:Int) ^ (n % 64))=((2 ^ (n % 64):Nat):Int) by simp];generalize 2 ^ (n % 64)=y at hp;exact WC OM OM
 ·rw[QfB _ hq];exact QkP f h
def Ks:u4 (clsS fun _=>false)=u4 zrS:=YS (YX _) (fun _ _=>by simp [zrS]) fun b _=>by rw[QW];simp [Qj,zrS]
def Qnd (b:Nat) (hb:b < 256):Pu F 78 [.sl [[.i .u8 b]]] (.ag (u4 (byS b))):=by
 obtain⟨b1,b2,b3,b4,b5,b6,b7,b8,b9,b10,b11,_⟩:=bt (fun _=>false) hb;have e1:u4 (clsS fun x=>false||decide (x=b))=u4 (byS b):=by simp only[Bool.false_or,byS]
 rw[e1,Ks] at b10;rw[Ks] at b4;generalize clsS (fun _=>false)=z at b4 b9 b10;refine Qe e78 rfl rfl rfl ?_;dsimp only[fn78,c78];refine RT trivial ?_;refine U_lp (fun r e o=>∃ i:Nat,i+r=1∧e 2=.pt 2 0 0∧e 3=.pt 3 0 0∧e 6=.sl [[.i .u8 b]]∧e 7=.i .i64 1∧e 8=.i .i64 i∧o 2=some (.row 4 [u4 zrS])∧o 3=some (.row 4 [if i=0 then u4 zrS else u4 (byS b)])) (k:=1) ?_ (Qa F) ?_
 ·exact⟨0,OM,Z0,Z0,Z0,Zr0,Zr0,Zr0,Zr0⟩
 rintro r e o ⟨i,hir,r2,r3,r6,r7,r8,o2,o3⟩;dsimp only[Ql8]
 match i,hir,r8,o3 with
 | 0,hir,r8,o3 =>
  have r8:e 8=.i .i64 0:=r8;have o3:o 3=some (.row 4 [u4 zrS]):=o3;refine RT (Ad4 r3 r6 r7 (Ad5 r8 o3 b1 b2 (Ad5 b3 b4 b5 b6 (Ad5 b7 b8 b9 b10 b11)))) ?_
  exact⟨r - 1,OM,1,OM,Z1 r2,Z1 r3,Z1 r6,Z1 r7,Zr0,Z1 o2,Zr0⟩
 | 1,hir,r8,o3 =>
  have r8:e 8=.i .i64 1:=r8;have o3:o 3=some (.row 4 [u4 (byS b)]):=o3;refine RT (Ad2 r2 (Ad5 r3 r7 r8 o2 o3)) ?_;exact Qu rfl rfl
 | n+2,hir,_,_=>omega
def fulS:Nat→Nat:=clsS fun _=>true
def Qei:Pu F 46 [.i .u8 0,.i .u8 255] (.ag (u4 fulS)):=by
 refine Qe e46 rfl rfl rfl ?_;dsimp only[fn46,c46];refine RT trivial ?_;refine U_lp (fun r e o=>∃ i:Nat,i+r=256∧e 1=.i .u8 255∧e 4=.pt 4 0 0∧e 5=.pt 5 0 0∧e 6=.i .i64 i∧o 4=some (.row 4 [u4 zrS])∧o 5=some (.row 4 [u4 (clsS fun x=>decide (x < i))])) (k:=256) ?_ (Qa F) ?_
 ·refine⟨0,OM,Z0,Z0,Z0,Zr0,Zr0,?_⟩
  have:u4 (clsS fun x=>decide (x < 0))=u4 zrS:=by simp only[Nat.not_lt_zero,decide_false];exact Ks
  rw[this];(simp only[go_sem]<;>rfl)
 rintro r e o ⟨i,hir,r1,r4,r5,r6,o4,o5⟩;dsimp only[QlY];have hc:IntKind.i64.wrap 255=255:=by decide
 by_cases hi:i < 256
 ·obtain⟨b1,b2,b3,b4,b5,b6,b7,b8,b9,b10,_,b11⟩:=bt (fun x=>decide (x < i)) hi;have hd:decide ((i:Int)≤255)=true:=decide_eq_true OM;have hw:=ZI (i:=i) OM;have he:u4 (clsS fun x=>decide (x < i)||decide (x=i))=u4 (clsS fun x=>decide (x < i+1)):=YS (YX _) (YX _) fun x _=>by
   rw[QW,QW,← Bool.decide_or,decide_eq_decide];omega
  rw[he] at b10;generalize clsS (fun x=>decide (x < i))=z at b4 b9 b10 o5;generalize hz2:clsS (fun x=>decide (x < i+1))=z2 at b10;refine RT (Ad2 r1 (Ad5 r5 r6 o5 hc (Ad5 hd hw b1 b2 (Ad5 b3 b4 b5 b6 (Ad5 b7 b8 b9 b10 b11))))) ?_
  exact⟨r - 1,OM,i+1,OM,Z1 r1,Z1 r4,Z1 r5,Z0,Z1 o4,by rw[hz2];simp only[go_sem]⟩
 ·have hi:i=256:=by omega
  subst hi;have hd:decide (((256:Nat):Int)≤255)=false:=by simp
  have he:u4 (clsS fun x=>decide (x < 256))=u4 fulS:=YS (YX _) (YX _) fun x hx=>by
   rw[QW,fulS,QW];simp [hx]
  rw[he] at o5;generalize fulS=z at o5;refine RT (Ad4 r1 r4 r5 (Ad5 r6 o4 o5 hc hd)) ?_;exact Qu rfl rfl
def mkF (l:List (Nat→Nat)) (b i:Nat):Bool:=match l[i]? with|some s=>Qj s b|none=>false
def Qi5 (l:List (Nat→Nat)) (b:Nat):Jb l b=clsS (mkF l b):=rfl
def QeL (hi:i < l.length) (b x:Nat):mkF (l.take (i+1)) b x=(mkF (l.take i) b x||(decide (x=i)&&Qj l[i] b)):=by
 simp only[mkF,List.getElem?_take];by_cases h:x=i
 ·subst h;rw[if_pos OM,if_neg OM,List.getElem?_eq_getElem hi];simp
 ·by_cases h2:x < i
  ·rw[if_pos OM,if_pos h2];simp [h]
  ·rw[if_neg OM,if_neg h2];simp [h]
set_option maxHeartbeats 1000000 in
def Qex (l:List (Nat→Nat)) (hl:l.length≤256) (hw:∀ s∈l,W64 s) (b:Nat) (hb:b < 256):Pu F 76 [.sl (l.map u4),.i .u8 b] (.ag (u4 (Jb l b))):=by
 refine Qe e76 rfl rfl (by simp only[go_sem,Bool.and_true]) ?_;dsimp only[fn76,c76];refine RT trivial ?_;refine U_lp (fun r e o=>∃ i:Nat,i+r=l.length∧e 1=.i .u8 b∧e 4=.pt 4 0 0∧e 5=.pt 5 0 0∧e 8=.sl (l.map u4)∧e 9=.i .i64 l.length∧e 10=.i .i64 i∧o 4=some (.row 4 [u4 zrS])∧o 5=some (.row 4 [u4 (clsS (mkF (l.take i) b))])) (k:=l.length) ?_ (Qa F) ?_
 ·refine⟨0,OM,Z0,Z0,Z0,Z0,by simp only[List.length_map,go_sem],Zr0,Zr0,?_⟩
  have:u4 (clsS (mkF (l.take 0) b))=u4 zrS:=by
   rw[← Ks];exact YS (YX _) (YX _) fun x _=>by rw[QW,QW];simp [mkF]
  rw[this];(simp only[go_sem]<;>rfl)
 rintro r e o ⟨i,hir,r1,r4,r5,r8,r9,r10,o4,o5⟩;dsimp only[Qjt];by_cases hi:i < l.length
 ·have hd:decide ((i:Int) < (l.length:Int))=true:=decide_eq_true OM;have hip:(0:Int)≤(i:Int):=by omega
  have hw1:=ZI (i:=i) OM;have gI:=Qbt hi;have hH:=HU l[i] (hw _ (List.getElem_mem hi)) b hb;have hS:=fun x=>QeL hi b x;generalize l[i]=q at gI hH hS;refine RT (Ad3 r1 r8 (Ad5 r9 r10 hd hip gI)) ?_;cases hbt:Qj q b with
  | true =>
   rw[hbt] at hH hS;obtain⟨b1,b2,b3,b4,b5,b6,b7,b8,b9,b10,_,b11⟩:=bt (mkF (l.take i) b) (show i < 256 by omega);have he:u4 (clsS fun x=>mkF (l.take i) b x||decide (x=i))=u4 (clsS (mkF (l.take (i+1)) b)):=YS (YX _) (YX _) fun x _=>by
    rw[QW,QW,hS];simp
   rw[he] at b10;generalize clsS (mkF (l.take i) b)=z at b4 b9 b10 o5;generalize hz2:clsS (mkF (l.take (i+1)) b)=z2 at b10;refine PRT r1 (r:=.bo true) hH ?_;refine RT (Ad4 r1 r5 r10 (Ad5 o5 hw1 b1 b2 (Ad5 b3 b4 b5 b6 (Ad5 b7 b8 b9 b10 b11)))) ?_
   exact⟨r - 1,OM,i+1,OM,Z1 r1,Z1 r4,Z1 r5,Z1 r8,Z1 r9,Z0,Z1 o4,by rw[hz2];simp only[go_sem]⟩
  | false =>
   rw[hbt] at hH hS;have he:u4 (clsS (mkF (l.take i) b))=u4 (clsS (mkF (l.take (i+1)) b)):=YS (YX _) (YX _) fun x _=>by
    rw[QW,QW,hS];simp
   rw[he] at o5;generalize hz2:clsS (mkF (l.take (i+1)) b)=z2 at o5;refine PRT r1 (r:=.bo false) hH ?_;refine RT (Ad2 r10 hw1) ?_
   exact⟨r - 1,OM,i+1,OM,Z1 r1,Z1 r4,Z1 r5,Z1 r8,Z1 r9,Z0,Z1 o4,by rw[hz2];simp only[o5,go_sem]⟩
 ·have hi:i=l.length:=by omega
  subst hi;have hd:decide ((l.length:Int) < (l.length:Int))=false:=by simp
  have he:u4 (clsS (mkF (l.take l.length) b))=u4 (Jb l b):=by rw[List.take_length,Qi5]
  rw[he] at o5;generalize Jb l b=z at o5;refine RT (Ad3 r4 r5 (Ad5 r9 r10 o4 o5 hd)) ?_;exact Qu rfl rfl
def kyV (k:Ky):V:=.ag [.i .i64 0,.i .u64 (k.1:Nat),.i .u64 (k.2.1:Nat),.i .u64 (k.2.2.1:Nat),.i .u64 (k.2.2.2:Nat)]
def Ql9 (a b:Ky):eqV true [.i .i64,.i .u64,.i .u64,.i .u64,.i .u64] (kyV a) (kyV b)=some (decide (a=b)):=by
 obtain⟨a1,a2,a3,a4⟩:=a;obtain⟨b1,b2,b3,b4⟩:=b;simp only[kyV,eqV,V.isAg,V.cells,eqps,lfEq,and_self,if_true];congr 1;rw[Bool.eq_iff_iff];simp only[beq_self_eq_true,Bool.true_and,Bool.and_true,Bool.and_eq_true,beq_iff_eq,decide_eq_true_eq,Prod.mk.injEq,Int.ofNat_inj]
def ky_0 (a:Ky):(kyV a).isAg=true∧(kyV a).cells.length=5:=⟨rfl,rfl⟩
def mpK (f:Nat→Ky):List Nat→Nat→List (Ky × V)
 | [],_=>[]
 | r::rs,i=>(f r,.i .i64 i)::mpK f rs (i+1)
theorem Qcm (f:Nat→Ky) (n:Nat):∀ (rs:List Nat) (i:Nat),mpK f (rs++[n]) i=mpK f rs i++[(f n,.i .i64 ((i+rs.length:Nat):Int))]
 | [],i=>by simp [mpK]
 | r::rs,i=>by simp only[List.cons_append,mpK,Qcm f n rs (i+1),List.length_cons];rw[show i+1+rs.length=i+(rs.length+1) by omega]
theorem Ds (f:Nat→Ky) (k:Ky):∀ (rs:List Nat) (i:Nat),kidx k (mpK f rs i)=rs.findIdx? fun r=>decide (k=f r)
 | [],_=>rfl
 | r::rs,i=>by
  simp only[mpK,kidx,Ds f k rs (i+1),List.findIdx?_cons];by_cases h:k=f r
  ·simp [h]
  ·simp [h]
theorem Qdl (f:Nat→Ky):∀ (rs:List Nat) (i j:Nat),j < rs.length→(((mpK f rs i)[j]?).map (·.2)).getD .jk=.i .i64 ((i+j:Nat):Int)
 | [],_,_,h=>by simp at h
 | r::rs,i,0,_=>by simp [mpK]
 | r::rs,i,j+1,h=>by
  simp only[mpK,List.getElem?_cons_succ];rw[Qdl f rs (i+1) j (by simpa using h),show i+1+j=i+(j+1) by omega]
def mpL (l:List (Nat→Nat)) (n:Nat):List (Ky × V):=mpK (keyB l) (QZ (togF l) n) 0
def DE (hl:l.length≤256) (n:Nat):kidx (keyB l n) (mpL l n)=idxR (togF l) n:=by
 rw[mpL,Ds,idxR]
 have:(fun r=>decide (keyB l n=keyB l r))=fun r=>togF l r n:=by
  funext r
  rw[Bool.eq_iff_iff,decide_eq_true_eq,← Qic hl]
  exact⟨fun h=>h.symm,fun h=>h.symm⟩
 rw[this]
def skO (l:List (Nat→Nat)) (n:Nat):Ob:=Q4 (encL kyV (mpL l n))
def Qc6 (d:Nat) (l:List (Nat→Nat)) (n:Nat):Qp d (skO l n)=some (skO l n):=by
 have h:∀ (rs:List Nat) (i:Nat),∀ p∈mpK (keyB l) rs i,swp d (kyV p.1)=kyV p.1∧swp d p.2=p.2:=by
  intro rs;induction rs with
  | nil=>intro i p hp;cases hp
  | cons r rs ih =>
   intro i p hp;rcases List.mem_cons.1 hp with rfl|hp
   ·exact⟨rfl,rfl⟩
   ·exact ih _ p hp
 refine Xg d _ fun p hp=>?_;obtain⟨x,hx,rfl⟩:=List.mem_map.1 hp;exact h _ _ x hx
attribute [go_sem] Qc6
def QlH {κ:Type} [DecidableEq κ] {enc:κ→V} {k0:κ} {L:List (κ × V)} {kg:Bool} {ks:List Lf} {z:V} {o:O} {s:Nat} (heq:∀ a b,eqV kg ks (enc a) (enc b)=some (decide (a=b))) (h0:(enc k0).isAg=kg∧(enc k0).cells.length=ks.length) (ho:o s=some (Q4 (encL enc L))) :
  lkpV o kg ks z true (.mp s) (enc k0)=some (match kidx k0 L with|some j=>.tp [((L[j]?).map (·.2)).getD .jk,.bo true]|none=>.tp [z,.bo false]):=by
 have hf':QH kg ks (enc k0) (Qg 0 (encL enc L))=some (kidx k0 L):=YY heq h0 L 0;simp only[lkpV,ho,Q4,hf'];cases hi:kidx k0 L with
 | none=>simp
 | some j =>
  obtain⟨v,hv⟩:=YN hi;have hj:(Qg 0 (encL enc L))[j]?=some (j,enc k0,v):=by
   rw[Zh];simp [encL,hv]
  simp [hj,hv]
def QhQ (s:Nat→Nat) (a b c d e:V):splice 1 (u4 s) [a,b,c,d,e]=a::u4 s:=rfl
def QgV (s:Nat→Nat) (v a b c d e:V):splice 0 (v::u4 s) [a,b,c,d,e]=v::u4 s:=rfl
def Qj3 (k:IntKind) (n:Int) (s:Nat→Nat):okf FZ (.ag (.i k n::u4 s))=true:=rfl
attribute [go_sem] QhQ QgV Qj3
structure Sp (l:List (Nat→Nat)) (n:Nat) (e:E) (o:O):Prop where
 e0:e 0=.sl [u4 fulS]
 e1:e 1=.sl (l.map u4)
 e5:e 5=.mp 13
 e6:e 6=ownV 52 4 ((outL (togF l) n).map u4)
 e14:e 14=.i .i64 256
 o13:o 13=some (skO l n)
 ow:Own o 52 4 ((outL (togF l) n).map u4)
structure Sq (l:List (Nat→Nat)) (n:Nat) (e:E) (o:O):Prop where
 e0:e 0=.sl [u4 fulS]
 e1:e 1=.sl (l.map u4)
 e5:e 5=.mp 13
 e7:e 7=.i .i64 n
 e14:e 14=.i .i64 256
 e15:e 15=.i .i64 n
 e18:e 18=.sl [u4 fulS]
 e19:e 19=.i .i64 1
 e20:e 20=.i .i64 0
 o13:o 13=some (skO l (n+1))
 at_:∃ (es:List (List V)) (at_:Nat) (s:Nat→Nat),e 6=.rw 52 4 0 es.length∧e 11=.i .i64 at_∧at_ < es.length∧o 52=some (.row 4 es)∧es.all Za=true∧es[at_]?=some (u4 s)∧W64 s∧es.set at_ (u4 (orS s (byS n)))=(outL (togF l) (n+1)).map u4
def YE:glV 0=.ip [.i .i64 256] 0:=rfl
def sk_0 (l:List (Nat→Nat)):V.mp 13=.mp 13∧some (Ob.map [] 0)=some (skO l 0):=⟨rfl,rfl⟩
def Qks (h:QZ (togF l) (n+1)=QZ (togF l) n++[n]):mpL l n++[(keyB l n,.i .i64 ((QZ (togF l) n).length:Nat))]=mpL l (n+1):=by
 rw[mpL,mpL,h,Qcm,Nat.zero_add]
def QkH (h:QZ (togF l) (n+1)=QZ (togF l) n):skO l (n+1)=skO l n:=by rw[skO,skO,mpL,mpL,h]
set_option maxHeartbeats 4000000 in
def QdY (l:List (Nat→Nat)) (hl:l.length≤256) (hw:∀ s∈l,W64 s) (hn:n < 256) (e:E) (o:O) (h:Sp l n e o) (r7:e 7=.i .i64 n) (r15:e 15=.i .i64 n) (r18:e 18=.sl [u4 fulS]) (r19:e 19=.i .i64 1) (r20:e 20=.i .i64 0) :
  wpU true (Call F) (.lp Qer) (fun x e o=>x=.ex 2∧Sp l (n+1) e o∧e 15=.i .i64 n) e o:=by
 refine U_lp (fun r e o=>(r=1∧Sp l n e o∧e 7=.i .i64 n∧e 15=.i .i64 n∧e 18=.sl [u4 fulS]∧e 19=.i .i64 1∧e 20=.i .i64 0)∨(r=0∧Sp l (n+1) e o∧e 15=.i .i64 n∧e 19=.i .i64 1∧e 20=.i .i64 1)) (k:=1) (.inl ⟨rfl,h,r7,r15,r18,r19,r20⟩) (Qa F) ?_;clear h r7 r15 r18 r19 r20;rintro r e o (⟨hr,⟨r0,r1,r5,r6,r14,o13,ow⟩,r7,r15,r18,r19,r20⟩|⟨hr,⟨r0,r1,r5,r6,r14,o13,ow⟩,r15,r19,r20⟩)
 ·have hH:=HU fulS (YX _) n hn;have hbt:Qj fulS n=true:=by rw[fulS,QW]
  rw[hbt] at hH;have hM:=Qex l hl hw n hn;have hc8:IntKind.u8.wrap (n:Int)=(n:Int):=VV OM OM;have hT:=Yb l;have hll:((outL (togF l) n).map u4).length=(QZ (togF l) n).length:=by simp [outL]
  have hlr:(QZ (togF l) n).length≤n:=by
   have:=List.length_filter_le (newB (togF l)) (List.range n)
   rw[List.length_range] at this;exact this
  dsimp only[Qer];refine RT (Ad5 r7 r18 r19 r20 hc8) ?_;refine PRT (Ad2 r7 hc8) (r:=.bo true) hH ?_;refine RT (Ad3 r1 r7 hc8) ?_;refine PRT (Ad3 r1 r7 hc8) (r:=.ag (u4 (Jb l n))) hM ?_;refine RT r5 ?_;obtain⟨a,fnd,hlk,hsp⟩:∃ (a:Nat) (fnd:Bool),(∀ o':O,o' 13=some (skO l n)→lkpV o' true [.i .i64,.i .u64,.i .u64,.i .u64,.i .u64] (.i .i64 0) true (.mp 13) (kyV (keyB l n))=some (.tp [.i .i64 a,.bo fnd]))∧((fnd=true∧idxR (togF l) n=some a)∨(fnd=false∧idxR (togF l) n=none)):=by
   have hlk:=fun (o':O) (h13:o' 13=some (skO l n))=>QlH (z:=.i .i64 0) (L:=mpL l n) Ql9 (ky_0 (keyB l n)) h13;rw[DE hl] at hlk;cases hi:idxR (togF l) n with
   | none=>rw[hi] at hlk;exact⟨0,false,hlk,.inr ⟨rfl,rfl⟩⟩
   | some j =>
    rw[hi] at hlk;dsimp only at hlk;obtain⟨r,hr,_⟩:=QaB hi;rw[mpL,Qdl _ _ _ _ (List.getElem?_eq_some_iff.1 hr).1,Nat.zero_add] at hlk
    exact⟨j,true,hlk,.inl ⟨rfl,rfl⟩⟩
  refine QhJ (v:=.tp [.i .i64 a,.bo fnd]) (by simp only[r5,List.take_succ_cons,List.take_zero,List.drop_succ_cons,List.drop_zero,go_sem];exact hlk _ (by (simp only[o13,go_sem]))) ?_;refine RT trivial ?_;refine Xl (Sq l n) ?_ ?_
  ·rcases hsp with⟨rfl,hi⟩|⟨rfl,hi⟩
   ·obtain⟨h1,s,h2,h3,h4⟩:=QiH hT hi;have hne:(outL (togF l) n).map u4≠[]:=fun h=>by
     rw[List.map_eq_nil_iff] at h;rw[h] at h2;cases h2
    have h13:=QkH h1;have hlt:a < ((outL (togF l) n).map u4).length:=by rw[List.length_map];exact (List.getElem?_eq_some_iff.1 h2).1
    have ho:=ow.h hne;rw[J2 hne] at r6;refine RT trivial ?_
    exact⟨rfl,⟨Z1 r0,Z1 r1,Z1 r5,Z1 r7,Z1 r14,Z1 r15,Z1 r18,Z1 r19,Z1 r20,by rw[h13];simp only[o13,go_sem],_,a,s,by (simp only[r6,go_sem]),by (simp only[go_sem]),hlt,by refine Own.h (L:=(outL (togF l) n).map u4) ?_ hne;(repeat first|with_reducible assumption|refine .up rfl ?_|refine .sw rfl ?_|refine .swN rfl ?_),ow.c,by rw[List.getElem?_map,h2];rfl,h3,h4⟩⟩
   ·have hnn:=(DR hT).1 hi;obtain⟨h1,h2⟩:=Qim hT hnn;have h13:=Qks h1;have s1:=Zo 52 4 ((outL (togF l) n).map u4);rw[hll] at s1;simp only[Jo] at s1;refine RT (Ad3 r6 s1 r5) ?_;refine QnZ (enc:=kyV) (k0:=keyB l n) (L:=mpL l n) (s:=13) (v:=.i .i64 ((QZ (togF l) n).length:Nat)) Ql9 (ky_0 _) (Z1 r5) (by ((simp only[o13,go_sem]<;>rfl))) (by (simp only[List.take_succ_cons,List.take_zero,List.drop_succ_cons,List.drop_zero,go_sem]<;>rfl)) (by (simp only[go_sem])) ?_;rw[DE hl,hi];dsimp only;rw[h13,show Q4 (encL kyV (mpL l (n+1)))=skO l (n+1) from rfl];refine RT trivial ?_;refine Z6 52 (L:=(outL (togF l) n).map u4) (ys:=[u4 zrS]) (Z1 r6) ?_ (by (simp only[src,List.take_succ_cons,List.take_zero,List.drop_succ_cons,List.drop_zero,go_sem]<;>rfl)) (by simp [QcA]) SM OM ⟨by rw[hll];simp;omega,OM⟩ (QJ _ ow.c) rfl ?_
    ·exact (by (repeat first|with_reducible assumption|refine .up rfl ?_|refine .sw rfl ?_|refine .swN rfl ?_):Own _ 52 4 _).h
    refine RT trivial ?_;have hlen:((outL (togF l) n).map u4++[u4 zrS]).length=(QZ (togF l) n).length+1:=by rw[List.length_append,hll];rfl
    have hcl:((outL (togF l) n).map u4++[u4 zrS]).all Za=true:=by rw[List.all_append,ow.c];rfl
    refine⟨rfl,⟨Z1 r0,Z1 r1,Z1 r5,Z1 r7,Z1 r14,Z1 r15,Z1 r18,Z1 r19,Z1 r20,by (simp only[go_sem]),(outL (togF l) n).map u4++[u4 zrS],(QZ (togF l) n).length,zrS,by simp only[go_sem];rw[J2 SM],by (simp only[go_sem]),OM,by (simp only[go_sem]),hcl,?_,fun _ _=>by simp [zrS],?_⟩⟩
    ·rw[← hll,List.getElem?_append_right (Nat.le_refl _),Nat.sub_self];rfl
    ·rw[← h2,← hll,List.set_append_right _ _ (Nat.le_refl _),Nat.sub_self];rfl
  rintro e o ⟨q0,q1,q5,q7,q14,q15,q18,q19,q20,q13,es,at_,s,q6,q11,hat,q52,hcl,hes,hsw,hset⟩;have hOf:=Qnd n hn;have hOr:=Qn5 s (byS n) hsw (YX _);have hap:(0:Int)≤(at_:Int):=by omega
  have hal:((at_:Int) < (es.length:Int))=True:=by simp only[eq_iff_iff,iff_true];omega
  have hw1:IntKind.i64.wrap 1=1:=by decide
  refine RT (Ad4 q6 q7 q11 (Ad5 q52 hap hal hes hc8)) ?_;refine PRT trivial (r:=.ag (u4 (byS n))) hOf ?_;refine PRT trivial (r:=.ag (u4 (orS s (byS n)))) hOr ?_;refine RT (Ad3 q6 q7 (Ad5 q11 q20 q52 hap (Ad5 hal hes hc8 hset hw1))) ?_;have hle:es.length=((outL (togF l) (n+1)).map u4).length:=by rw[← hset,List.length_set]
  have hne:(outL (togF l) (n+1)).map u4≠[]:=fun h=>by rw[h,List.length_nil] at hle;omega
  refine⟨0,OM,.inr ⟨rfl,⟨Z1 q0,Z1 q1,Z1 q5,by simp only[q6,go_sem];rw[J2 hne,hle],Z1 q14,Z1 q13,Own.to (Vf _)⟩,Z1 q15,Z1 q19,Z1 hw1⟩⟩
 ·have hd:decide ((1:Int) < 1)=false:=by decide
  dsimp only[Qer];refine RT (Ad3 r19 r20 hd) ?_
  exact⟨rfl,⟨Z1 r0,Z1 r1,Z1 r5,Z1 r6,Z1 r14,o13,ow⟩,Z1 r15⟩
set_option maxHeartbeats 1000000 in
def QdZ (l:List (Nat→Nat)) (hl:l.length≤256) (hw:∀ s∈l,W64 s):Pu F 47 [.sl [u4 fulS],.sl (l.map u4)] (.sl ((ptL l).map u4)):=by
 refine Qe e47 rfl rfl (by simp only[go_sem,Bool.and_true];rfl) ?_;dsimp only[fn47,c47];(repeat (with_reducible (first|refine Yw ?_|refine ZU ?_|refine Y3 ?_|refine WU ?_|refine X_nx ?_|((first|refine U_q (v:=?_) ?h1 ?_|refine U_ld (v:=?_) ?h1 ?_);case h1=>((try simp only[YE,List.take_succ_cons,List.take_zero,List.drop_succ_cons,List.drop_zero,go_sem])<;>rfl))|refine QaF ?_)));refine U_lp (fun r e o=>∃ n:Nat,n+r=256∧e 15=.i .i64 n∧Sp l n e o) (k:=256) ?_ (Qa F) ?_
 ·exact⟨0,OM,Zr0,Z0,Z0,Z0,Zr0,Z0,by simp only[go_sem];exact (sk_0 l).2,⟨rfl,fun h=>absurd rfl h⟩⟩
 rintro r e o ⟨n,hnr,r15,⟨r0,r1,r5,r6,r14,o13,ow⟩⟩;dsimp only[Qkn];by_cases hn:n < 256
 ·have hd:decide ((n:Int) < 256)=true:=decide_eq_true OM;have hw1:=ZI (i:=n) OM;refine RT (Ad4 r0 r14 r15 hd) ?_;refine YA (fun e o=>Sp l (n+1) e o∧e 15=.i .i64 n) (QdY l hl hw hn _ _ ⟨Z1 r0,Z1 r1,Z1 r5,Z1 r6,Z1 r14,o13,ow⟩ (Z0) (Z1 r15) (Z0) (Zr0) (Z0)) ?_;clear r0 r1 r5 r6 r14 r15 o13 ow;rintro e o ⟨⟨r0,r1,r5,r6,r14,o13,ow⟩,r15⟩;refine RT (Ad2 r15 hw1) ?_
  exact⟨r - 1,OM,n+1,OM,Z0,Z1 r0,Z1 r1,Z1 r5,Z1 r6,Z1 r14,o13,ow⟩
 ·have hn:n=256:=by omega
  subst hn;have hd:decide (((256:Nat):Int) < 256)=false:=by decide
  refine RT (Ad4 r6 r14 r15 hd) ?_;exact Jv 23 ow.h fun c hc v hv=>by
   obtain⟨x,_,rfl⟩:=List.mem_map.1 hc;simp only[u4,List.mem_cons,List.not_mem_nil,or_false] at hv;rcases hv with rfl|rfl|rfl|rfl<;>rfl
def Qe9 (l:List (Nat→Nat)) (hl:l.length≤256) (hw:∀ s∈l,W64 s):Pu F 25 [.sl (l.map u4)] (.sl ((ptL l).map u4)):=by
 have hS:=QdZ l hl hw;refine Qe e25 rfl rfl (by simp only[go_sem,Bool.and_true]) ?_;dsimp only[fn25,c25];refine RT trivial ?_;refine PRT trivial (r:=.ag (u4 fulS)) Qei ?_;refine RT trivial ?_;refine U_lp (fun r e o=>r=0∧e 0=.sl (l.map u4)∧e 3=.sl [u4 fulS]) (k:=0) ?_ (Qa F) ?_
 ·exact⟨rfl,Z0,Z0⟩
 rintro r e o ⟨hr,r0,r3⟩;dsimp only[Qkg];have hd:decide ((l.length:Int) > 256)=false:=decide_eq_false OM;(repeat (with_reducible (first|refine Yw ?_|refine ZU ?_|refine Y3 ?_|refine WU ?_|refine VE ?_|refine Qa8 ?_|refine JW ?_|refine X_nx ?_|refine X_ex ?_|refine X_rt ?_|refine B_nx ?_|refine YL ?_|refine B_ne RM ?_|refine B_rt ?_|((first|refine U_q (v:=?_) ?h1 ?_|refine U_ld (v:=?_) ?h1 ?_|refine Qc0 (v:=?_) ?h1 ?_|refine Qdc ?h1 ?_|refine Hr (v:=?_) ?h1 ?_|refine E_1 (v:=?_) ?h1 ?_|refine E_1n (v:=?_) ?h1 ?_|refine QaI (n:=?_) ?h1 ?_|refine U_gt ?h1 ?_|refine JB ?h1 ?_);case h1=>((try simp only[r0,r3,YE,hd,List.length_map,List.take_succ_cons,List.take_zero,List.drop_succ_cons,List.drop_zero,go_sem])<;>rfl))|(refine KW (cs:=?_) (cs':=?_) (n:=?_) ?h1 ?h2 ?h3 ?h4 ?_;case h1|h2|h3|h4=>((try simp only[r0,r3,YE,hd,List.length_map,List.take_succ_cons,List.take_zero,List.drop_succ_cons,List.drop_zero,go_sem])<;>rfl))|(refine KK (id:=?_) (i:=?_) (j:=?_) (q:=?_) (es:=?_) (cs:=?_) (vs:=?_) (es':=?_) ?h1 ?h2 ?h3 ?h4 ?h5 ?h6 ?h7 ?_;case h1|h2|h3|h4|h5|h6|h7=>((try simp only[r0,r3,YE,hd,List.length_map,List.take_succ_cons,List.take_zero,List.drop_succ_cons,List.drop_zero,go_sem])<;>rfl))|(refine Qbe (es:=?_) (es':=?_) ?h1 ?h2 ?h3 ?_;case h1|h2|h3=>((try simp only[r0,r3,YE,hd,List.length_map,List.take_succ_cons,List.take_zero,List.drop_succ_cons,List.drop_zero,go_sem])<;>rfl))|refine HV ?_|refine QaF ?_|(refine Qc1 ?h1 ?_;case h1=>((try simp only[r0,r3,YE,hd,List.length_map,List.take_succ_cons,List.take_zero,List.drop_succ_cons,List.drop_zero,go_sem])<;>rfl))|((first|refine Qa1 ?h1 ?_|refine VP ?h1 ?_|refine XD ?h1 ?_);case h1=>((try simp only[r0,r3,YE,hd,List.length_map,List.take_succ_cons,List.take_zero,List.drop_succ_cons,List.drop_zero,go_sem])<;>rfl))|(refine U_gj (vs:=?_) ?h1 ?_;case h1=>((try simp only[r0,r3,YE,hd,List.length_map,List.take_succ_cons,List.take_zero,List.drop_succ_cons,List.drop_zero,go_sem])<;>rfl))|((first|refine E_2 (v:=?_) (u:=?_) ?h1 ?h2 ?_|refine E_2n (v:=?_) (u:=?_) ?h1 ?h2 ?_);case h1|h2=>((try simp only[r0,r3,YE,hd,List.length_map,List.take_succ_cons,List.take_zero,List.drop_succ_cons,List.drop_zero,go_sem])<;>rfl))|refine E_0 ?_|refine E_0n ?_|rw[QK]|(refine HL (id:=?_) (i:=?_) (j:=?_) (q:=?_) (es:=?_) (cs:=?_) (vs:=?_) (es':=?_) ?h1 ?h2 ?h3 ?h4 ?h5 ?h6 ?h7 ?h8 ?_;(case h1|h2|h3|h4|h5|h6|h7=>((try simp only[r0,r3,YE,hd,List.length_map,List.take_succ_cons,List.take_zero,List.drop_succ_cons,List.drop_zero,go_sem])<;>rfl));(case h8=>repeat (first|exact Wj|(refine JF (v:=?_) ?g1 ?g2 ?g3 ?_;(case g1|g2=>((try simp only[r0,r3,YE,hd,List.length_map,List.take_succ_cons,List.take_zero,List.drop_succ_cons,List.drop_zero,go_sem])<;>rfl));(case g3=>first|rfl|simp only[ok,okL,go_sem]))|(refine H6 ?g1 ?g2 ?_;(case g1|g2=>((try simp only[r0,r3,YE,hd,List.length_map,List.take_succ_cons,List.take_zero,List.drop_succ_cons,List.drop_zero,go_sem])<;>rfl)))))))));refine PCT (Ad2 r0 r3) (r:=.sl ((ptL l).map u4)) hS ?_;refine RT trivial ?_;exact Qu rfl rfl
def bls (f:Nat→Bool):List V:=(List.range 256).map fun i=>V.bo (f i)
def QgE (f:Nat→Bool):(bls f).length=256:=by simp [bls]
def QjH (d:Nat) (f:Nat→Bool):swpL d (bls f)=bls f:=by
 have:∀ l:List Nat,swpL d (l.map fun i=>V.bo (f i))=l.map fun i=>V.bo (f i):=fun l=>by
  induction l with
  | nil=>rfl
  | cons a l ih=>simp only[List.map_cons,swpL,swp,ih]
 exact this _
def Qkm (f:Nat→Bool):cldL (bls f)=true:=by
 have:∀ l:List Nat,cldL (l.map fun i=>V.bo (f i))=true:=fun l=>by
  induction l with
  | nil=>rfl
  | cons a l ih=>simp only[List.map_cons,cldL,cld,ih,Bool.and_true]
 exact this _
def Qih (f:Nat→Bool):okf FZ (.ag (bls f))=true:=by
 show (bls f).all (okf 23)=true;rw[List.all_eq_true];intro v hv;obtain⟨i,_,rfl⟩:=List.mem_map.1 hv;rfl
def QhU (f:Nat→Bool):clo FZ (.ag (bls f))=true:=by
 show (bls f).all (clo 23)=true;rw[List.all_eq_true];intro v hv;obtain⟨i,_,rfl⟩:=List.mem_map.1 hv;rfl
attribute [go_sem] QgE QjH Qkm Qih QhU
attribute [go_sem] Qf0
def dF (T:Nat→Nat→Bool) (a x:Nat):Bool:=(List.range a).any fun c=>newB T c&&(decide (c≤x)&&T c x)
def inF (T:Nat→Nat→Bool) (a x:Nat):Bool:=decide (a≤x)&&T a x
def rpL (T:Nat→Nat→Bool) (a:Nat):List (List V):=((QZ T a).map (pcl T 256)).map u4
structure Rp (l:List (Nat→Nat)) (a:Nat) (L:List (List V)) (f g:Nat→Bool) (e:E) (o:O):Prop where
 e0:e 0=.sl (l.map u4)
 e3:e 3=ownV 32 4 L
 e4:e 4=.pt 4 0 0
 e5:e 5=.i .i64 a
 e6:e 6=.pt 6 0 0
 o4:o 4=some (.row 256 [bls f])
 o6:o 6=some (.row 256 [bls g])
 ow:Own o 32 4 L
end Go.Proofs.YtpkijjnlmgdaiaaGreatDoor
