import Derived.Test.YtpkmfoinpdnifaaDoorDa
import Derived.Test.YtpkmfoinpdnifaaDoorF1

namespace Go.Proofs.YtpkmfoinpdnifaaDoor
set_option linter.all false
def wrd (f:Nat→Bool):Nat→Nat
 | 0=>0
 | n+1=>(if f n then 2 ^ n else 0)+wrd f n
theorem wrd_lt (f:Nat→Bool):∀ n,wrd f n < 2 ^ n
 | 0=>by simp [wrd]
 | n+1=>by
  have:=wrd_lt f n
  rw[wrd,Nat.pow_succ];split<;>omega
theorem wrd_bit (f:Nat→Bool) (k:Nat):∀ n,(wrd f n).testBit k=(decide (k < n)&&f k)
 | 0=>by simp [wrd]
 | n+1=>by
  have ih:=wrd_bit f k n;have hl:=wrd_lt f n;rw[wrd];by_cases hf:f n=true
  ·rw[if_pos hf]
   have:=Nat.testBit_two_pow_mul_add 1 hl k
   rw[Nat.mul_one] at this;rw[this,ih];by_cases hk:k < n
   ·rw[if_pos hk];simp [hk,show k < n+1 by omega]
   ·rw[if_neg hk];by_cases e:k=n
    ·subst e;simp [hf]
    ·have h1:¬ k < n+1:=by omega
     have h2:k - n≠0:=by omega
     obtain⟨d,hd⟩:∃ d,k - n=d+1:=⟨k - n - 1,by omega⟩;rw[hd,Nat.testBit_succ];simp [h1]
  ·rw[if_neg hf,Nat.zero_add,ih];by_cases hk:k < n
   ·simp [hk,show k < n+1 by omega]
   ·by_cases e:k=n
    ·subst e;simp [Bool.not_eq_true _ ▸ hf]
    ·simp [hk,show ¬ k < n+1 by omega]
def clsS (f:Nat→Bool) (i:Nat):Nat:=wrd (fun k=>f (i*64+k)) 64
theorem cls_lt (f:Nat→Bool) (i:Nat):clsS f i < 18446744073709551616:=by
 have:=wrd_lt (fun k=>f (i*64+k)) 64
 rw[clsS];omega
theorem cls_w (f:Nat→Bool):W64 (clsS f):=fun i _=>cls_lt f i
theorem cls_bit (f:Nat→Bool) (b:Nat):bitOf (clsS f) b=f b:=by
 rw[bitOf,clsS,wrd_bit];have h1:b % 64 < 64:=Nat.mod_lt _ (by omega);have h2:b / 64*64+b % 64=b:=by omega
 simp [h1,h2]
theorem word_ext {x y:Nat} (hx:x < 18446744073709551616) (hy:y < 18446744073709551616) (h:∀ k,k < 64→x.testBit k=y.testBit k):x=y:=by
 have hx:x < 2 ^ 64:=by omega
 have hy:y < 2 ^ 64:=by omega
 apply Nat.eq_of_testBit_eq;intro k;by_cases hk:k < 64
 ·exact h k hk
 ·rw[Nat.testBit_lt_two_pow (Nat.lt_of_lt_of_le hx (Nat.pow_le_pow_right (by omega) (by omega))),Nat.testBit_lt_two_pow (Nat.lt_of_lt_of_le hy (Nat.pow_le_pow_right (by omega) (by omega)))]
theorem s_ext {s t:Nat→Nat} (hs:W64 s) (ht:W64 t) (h:∀ b,b < 256→bitOf s b=bitOf t b) (i:Nat) (hi:i < 4):s i=t i:=by
 refine word_ext (hs i hi) (ht i hi) fun k hk=>?_
 have:=h (i*64+k) (by omega)
 rw[bitOf,bitOf,show (i*64+k) / 64=i by omega,show (i*64+k) % 64=k by omega] at this;exact this
theorem u4_ext {s t:Nat→Nat} (hs:W64 s) (ht:W64 t) (h:∀ b,b < 256→bitOf s b=bitOf t b):u4 s=u4 t:=by
 have e:=s_ext hs ht h;rw[u4,u4,e 0 (by omega),e 1 (by omega),e 2 (by omega),e 3 (by omega)]
def orS (a b:Nat→Nat) (i:Nat):Nat:=a i ||| b i
theorem orS_bit (a b:Nat→Nat) (k:Nat):bitOf (orS a b) k=(bitOf a k||bitOf b k):=by simp [bitOf,orS,Nat.testBit_or]
theorem orS_w {a b:Nat→Nat} (ha:W64 a) (hb:W64 b):W64 (orS a b):=fun i hi=>Nat.or_lt_two_pow (n:=64) (ha i hi) (hb i hi)
def byS (b:Nat):Nat→Nat:=clsS fun k=>decide (k=b)
structure Eqv (T:Nat→Nat→Bool):Prop where
 rf:∀ a,T a a=true
 sy:∀ {a b},T a b=true→T b a=true
 tr:∀ {a b c},T a b=true→T b c=true→T a c=true
def togF (l:List (Nat→Nat)) (a b:Nat):Bool:=l.all fun s=>bitOf s a==bitOf s b
theorem tog_iff {l:List (Nat→Nat)} {a b:Nat}:togF l a b=true↔∀ s∈l,bitOf s a=bitOf s b:=by simp [togF]
theorem tog_eqv (l:List (Nat→Nat)):Eqv (togF l) where
 rf a:=tog_iff.2 fun s _=>rfl
 sy h:=tog_iff.2 fun s hs=>(tog_iff.1 h s hs).symm
 tr h1 h2:=tog_iff.2 fun s hs=>(tog_iff.1 h1 s hs).trans (tog_iff.1 h2 s hs)
def newB (T:Nat→Nat→Bool) (a:Nat):Bool:=(List.range a).all fun c=>!T c a
def repsN (T:Nat→Nat→Bool) (n:Nat):List Nat:=(List.range n).filter (newB T)
theorem new_iff {T:Nat→Nat→Bool} {a:Nat}:newB T a=true↔∀ c,c < a→T c a=false:=by simp [newB]
theorem reps_succ (T:Nat→Nat→Bool) (n:Nat):repsN T (n+1)=repsN T n++if newB T n then [n] else []:=by
 rw[repsN,List.range_succ,List.filter_append];congr 1;by_cases h:newB T n=true<;>simp [h]
theorem reps_mem {T:Nat→Nat→Bool} {n r:Nat}:r∈repsN T n↔r < n∧newB T r=true:=by simp [repsN]
theorem reps_nodup (T:Nat→Nat→Bool) (n:Nat):(repsN T n).Nodup:=List.Pairwise.filter _ List.nodup_range
theorem rep_ex {T:Nat→Nat→Bool} (hT:Eqv T):∀ c,∃ r,r≤c∧newB T r=true∧T r c=true:=by
 intro c;induction c using Nat.strongRecOn with
 | _ c ih =>
  by_cases h:newB T c=true
  ·exact⟨c,Nat.le_refl _,h,hT.rf c⟩
  ·have:∃ d,d < c∧T d c=true:=by
    rw[new_iff] at h;simpa using h
   obtain⟨d,hd,hdc⟩:=this;obtain⟨r,h1,h2,h3⟩:=ih d hd
   exact⟨r,by omega,h2,hT.tr h3 hdc⟩
theorem rep_eq {T:Nat→Nat→Bool} (hT:Eqv T) {r s:Nat} (hr:newB T r=true) (hs:newB T s=true) (h:T r s=true):r=s:=by
 rcases Nat.lt_trichotomy r s with h1|h1|h1
 ·rw[new_iff] at hs;rw[hs r h1] at h;cases h
 ·exact h1
 ·rw[new_iff] at hr;have:=hr s h1;rw[hT.sy h] at this;cases this
theorem new_reps {T:Nat→Nat→Bool} (hT:Eqv T) {n:Nat}:newB T n=true↔∀ r∈repsN T n,T r n=false:=by
 rw[new_iff]
 refine⟨fun h r hr=>h r (reps_mem.1 hr).1,fun h c hc=>?_⟩
 cases hcn:T c n with
 | false=>rfl
 | true =>
  obtain⟨r,h1,h2,h3⟩:=rep_ex hT c
  have:=h r (reps_mem.2 ⟨by omega,h2⟩)
  rw[hT.tr h3 hcn] at this;cases this
def pcl (T:Nat→Nat→Bool) (n r:Nat):Nat→Nat:=clsS fun x=>decide (x < n)&&T r x
def outL (T:Nat→Nat→Bool) (n:Nat):List (Nat→Nat):=(repsN T n).map (pcl T n)
theorem pcl_w (T:Nat→Nat→Bool) (n r:Nat):W64 (pcl T n r):=cls_w _
theorem pcl_bit (T:Nat→Nat→Bool) (n r x:Nat):bitOf (pcl T n r) x=(decide (x < n)&&T r x):=cls_bit _ _
def idxR (T:Nat→Nat→Bool) (n:Nat):Option Nat:=(repsN T n).findIdx? fun r=>T r n
theorem idx_none {T:Nat→Nat→Bool} (hT:Eqv T) {n:Nat}:idxR T n=none↔newB T n=true:=by
 rw[idxR,List.findIdx?_eq_none_iff,new_reps hT]
theorem idx_some {T:Nat→Nat→Bool} {n j:Nat} (h:idxR T n=some j):∃ r,(repsN T n)[j]?=some r∧T r n=true:=by
 rw[idxR,List.findIdx?_eq_some_iff_getElem] at h;obtain⟨hj,h1,_⟩:=h
 exact⟨_,List.getElem?_eq_getElem hj,h1⟩
theorem out_old {T:Nat→Nat→Bool} (hT:Eqv T) {n j:Nat} (h:idxR T n=some j):repsN T (n+1)=repsN T n∧∃ s,(outL T n)[j]?=some s∧W64 s∧((outL T n).map u4).set j (u4 (orS s (byS n)))=(outL T (n+1)).map u4:=by
 have hnn:newB T n=false:=by
  cases hb:newB T n with
  | false=>rfl
  | true=>rw[(idx_none hT).2 hb] at h;cases h
 have e1:repsN T (n+1)=repsN T n:=by rw[reps_succ,hnn];simp
 obtain⟨r,hr,hrn⟩:=idx_some h
 refine⟨e1,pcl T n r,by rw[outL,List.getElem?_map,hr];rfl,pcl_w _ _ _,?_⟩
 apply List.ext_getElem?;intro i;rw[List.getElem?_set,outL,outL,e1,List.map_map,List.map_map,List.getElem?_map,List.getElem?_map,List.length_map];have hjl:=(List.getElem?_eq_some_iff.1 hr).1;by_cases hij:j=i
 ·subst hij;rw[if_pos rfl,if_pos hjl,hr];simp only[Option.map_some,Function.comp];refine congrArg some (u4_ext (orS_w (pcl_w _ _ _) (cls_w _)) (pcl_w _ _ _) fun b _=>?_);rw[orS_bit,pcl_bit,byS,cls_bit,pcl_bit];by_cases hb:b=n
  ·subst hb;simp [hrn]
  ·have:(b < n+1)↔b < n:=by omega
   simp [hb,this]
 ·rw[if_neg hij];cases hi:(repsN T n)[i]? with
  | none=>simp only[Option.map_none]
  | some q =>
   simp only[Option.map_some,Function.comp];refine congrArg some (u4_ext (pcl_w _ _ _) (pcl_w _ _ _) fun b _=>?_);rw[pcl_bit,pcl_bit];by_cases hb:b=n
   ·subst hb;cases hq:T q b with
    | false=>simp
    | true =>
     exfalso;have h1:=(reps_mem.1 (List.mem_of_getElem? hr)).2;have h2:=(reps_mem.1 (List.mem_of_getElem? hi)).2;have e:=rep_eq hT h1 h2 (hT.tr hrn (hT.sy hq));subst e;obtain⟨a1,a2⟩:=List.getElem?_eq_some_iff.1 hr;obtain⟨b1,b2⟩:=List.getElem?_eq_some_iff.1 hi;exact hij ((List.getElem_inj (reps_nodup T b)).1 (a2.trans b2.symm))
   ·have:(b < n+1)↔b < n:=by omega
    simp [this]
def zrS:Nat→Nat:=fun _=>0
theorem out_new {T:Nat→Nat→Bool} (hT:Eqv T) {n:Nat} (h:newB T n=true):repsN T (n+1)=repsN T n++[n]∧(outL T n).map u4++[u4 (orS zrS (byS n))]=(outL T (n+1)).map u4:=by
 have e1:repsN T (n+1)=repsN T n++[n]:=by rw[reps_succ,h];simp
 refine⟨e1,?_⟩
 rw[outL,outL,e1,List.map_append,List.map_append,List.map_map,List.map_map];have cg:∀ {a b c d:List (List V)},a=b→c=d→a++c=b++d:=fun h1 h2=>by rw[h1,h2]
 refine cg ?_ ?_
 ·refine List.map_congr_left fun r hr=>?_;have hrn:=(new_reps hT).1 h r hr;refine u4_ext (pcl_w _ _ _) (pcl_w _ _ _) fun b _=>?_;rw[pcl_bit,pcl_bit];by_cases hb:b=n
  ·subst hb;simp [hrn]
  ·have:(b < n+1)↔b < n:=by omega
   simp [this]
 ·simp only[List.map_cons,List.map_nil,List.cons.injEq,and_true];refine u4_ext (orS_w (fun _ _=>by simp [zrS]) (cls_w _)) (pcl_w _ _ _) fun b _=>?_;rw[orS_bit,byS,cls_bit,pcl_bit];have hz:bitOf zrS b=false:=by simp [bitOf,zrS]
  rw[hz];by_cases hb:b=n
  ·subst hb;simp [hT.rf b]
  ·by_cases hb2:b < n
   ·have:T n b=false:=by
     cases hc:T n b with
     | false=>rfl
     | true=>have:=new_iff.1 h b hb2;rw[hT.sy hc] at this;cases this
    simp [hb,this]
   ·simp [hb,show ¬ b < n+1 by omega]
def markS (l:List (Nat→Nat)) (b:Nat):Nat→Nat:=clsS fun i=>match l[i]? with|some s=>bitOf s b|none=>false
theorem mark_bit (l:List (Nat→Nat)) (b i:Nat):bitOf (markS l b) i=(match l[i]? with|some s=>bitOf s b|none=>false):=cls_bit _ _
abbrev Ky:=Nat × Nat × Nat × Nat
def keyB (l:List (Nat→Nat)) (b:Nat):Ky:=(markS l b 0,markS l b 1,markS l b 2,markS l b 3)
theorem key_iff {l:List (Nat→Nat)} (hl:l.length≤256) {a b:Nat}:keyB l a=keyB l b↔togF l a b=true:=by
 rw[tog_iff]
 refine⟨fun h s hs=>?_,fun h=>?_⟩
 ·obtain⟨i,hi,rfl⟩:=List.mem_iff_getElem.1 hs;simp only[keyB,Prod.mk.injEq] at h;have hw:∀ j,j < 4→markS l a j=markS l b j:=fun j hj=>by
   match j,hj with
   | 0,_=>exact h.1
   | 1,_=>exact h.2.1
   | 2,_=>exact h.2.2.1
   | 3,_=>exact h.2.2.2
  have h1:=mark_bit l a i;have h2:=mark_bit l b i;rw[bitOf,hw (i / 64) (by omega)] at h1;rw[bitOf,h1] at h2;simpa [List.getElem?_eq_getElem hi] using h2
 ·have:markS l a=markS l b:=by
   have e:(fun i:Nat=>match l[i]? with|some s=>bitOf s a|none=>false)=fun i:Nat=>match l[i]? with|some s=>bitOf s b|none=>false:=by
    funext i
    cases hi:l[i]? with
    | none=>rfl
    | some s=>exact h s (List.mem_of_getElem? hi)
   rw[markS,markS,e]
  rw[keyB,keyB,this]
def ofN (cl:Nat→Nat→Bool):Nat→Nat→Nat
 | 0,_=>0
 | i+1,b=>if cl i b then i else ofN cl i b
theorem ofN_ok {cl:Nat→Nat→Bool} {b:Nat}:∀ {n:Nat},(∃ i,i < n∧cl i b=true)→ofN cl n b < n∧cl (ofN cl n b) b=true
 | 0,⟨_,h,_⟩=>by omega
 | n+1,⟨i,hi,hc⟩=>by
  rw[ofN];by_cases h:cl n b=true
  ·rw[if_pos h];exact⟨by omega,h⟩
  ·rw[if_neg h]
   have:ofN cl n b < n∧cl (ofN cl n b) b=true:=ofN_ok ⟨i,by
    rcases Nat.lt_or_ge i n with h1|h1
    ·exact h1
    ·have:i=n:=by omega
     subst this;exact absurd hc h,hc⟩
   exact⟨by omega,this.2⟩
end Go.Proofs.YtpkmfoinpdnifaaDoor
namespace Go.Proofs.YtpkmfoinpdnifaaDoor
set_option linter.all false
def plF (T:Nat→Nat→Bool) (b:Nat):Nat:=((List.range b).find? fun a=>T a b).getD b
theorem pl_ok {T:Nat→Nat→Bool} (hT:Eqv T) (b:Nat):plF T b≤b∧newB T (plF T b)=true∧T (plF T b) b=true:=by
 rw[plF];cases h:(List.range b).find? (fun a=>T a b) with
 | none =>
  rw[List.find?_range_eq_none] at h
  exact⟨Nat.le_refl _,new_iff.2 fun c hc=>by simpa using h c hc,hT.rf b⟩
 | some r =>
  rw[List.find?_range_eq_some] at h;obtain⟨h1,h2,h3⟩:=h;have h2:=List.mem_range.1 h2;show r≤b∧newB T r=true∧T r b=true
  refine⟨Nat.le_of_lt h2,new_iff.2 fun c hc=>?_,h1⟩
  have h4:=h3 c hc;cases hcr:T c r with
  | false=>rfl
  | true=>rw[hT.tr hcr h1] at h4;cases h4
def ptL (l:List (Nat→Nat)):List (Nat→Nat):=outL (togF l) 256
theorem pt_at {l:List (Nat→Nat)} {i:Nat} (hi:i < (ptL l).length):∃ r,r < 256∧newB (togF l) r=true∧(ptL l)[i]=pcl (togF l) 256 r:=by
 have hi':i < (repsN (togF l) 256).length:=by simpa [ptL,outL] using hi
 have h:=reps_mem.1 (List.getElem_mem hi')
 exact⟨_,h.1,h.2,by simp [ptL,outL]⟩
theorem pt_w {l:List (Nat→Nat)} {i:Nat} (hi:i < (ptL l).length):W64 (ptL l)[i]:=by
 obtain⟨r,_,_,e⟩:=pt_at hi;rw[e];exact pcl_w _ _ _
theorem pt_len (l:List (Nat→Nat)):(ptL l).length≤256:=by
 have:=List.length_filter_le (newB (togF l)) (List.range 256)
 rw[List.length_range] at this;simpa [ptL,outL,repsN] using this
theorem pt_least {l:List (Nat→Nat)} {r:Nat} (h:r < 256) (hn:newB (togF l) r=true):leastF (bitOf (pcl (togF l) 256 r))=some r:=by
 refine leastF_some h (by rw[pcl_bit,(tog_eqv l).rf];simp [h]) fun j hj=>?_;rw[pcl_bit];cases hc:togF l r j with
 | false=>simp
 | true=>have:=new_iff.1 hn j hj;rw[(tog_eqv l).sy hc] at this;cases this
def inP (l:List (Nat→Nat)) (i b:Nat):Bool:=match (ptL l)[i]? with|some s=>bitOf s b|none=>false
theorem inP_at {l:List (Nat→Nat)} {i:Nat} (hi:i < (ptL l).length) (b:Nat):inP l i b=bitOf (ptL l)[i] b:=by
 rw[inP,List.getElem?_eq_getElem hi]
def letF (l:List (Nat→Nat)) (b:Nat):Nat:=ofN (inP l) (ptL l).length b
theorem let_ok (l:List (Nat→Nat)) {b:Nat} (hb:b < 256):∃ h:letF l b < (ptL l).length,bitOf (ptL l)[letF l b] b=true:=by
 obtain⟨r,h1,h2,h3⟩:=rep_ex (tog_eqv l) b;have hm:r∈repsN (togF l) 256:=reps_mem.2 ⟨by omega,h2⟩;obtain⟨i,hi,e⟩:=List.mem_iff_getElem.1 hm;have hi':i < (ptL l).length:=by simpa [ptL,outL] using hi
 have:=ofN_ok (cl:=inP l) (b:=b) (n:=(ptL l).length) ⟨i,hi',by
  rw[inP_at hi']
  have:(ptL l)[i]=pcl (togF l) 256 r:=by simp [ptL,outL,e]
  rw[this,pcl_bit,h3];simp [hb]⟩
 refine⟨this.1,?_⟩
 have h:=this.2;rw[inP_at this.1] at h;exact h
theorem let_pl (l:List (Nat→Nat)) {b:Nat} (hb:b < 256):∃ h:letF l b < (ptL l).length,leastF (bitOf (ptL l)[letF l b])=some (plF (togF l) b):=by
 obtain⟨h,hbit⟩:=let_ok l hb;obtain⟨r,h1,h2,e⟩:=pt_at h
 refine⟨h,?_⟩
 rw[e,pcl_bit,Bool.and_eq_true] at hbit;rw[e,pt_least h1 h2];obtain⟨p1,p2,p3⟩:=pl_ok (tog_eqv l) b;exact congrArg some (rep_eq (tog_eqv l) h2 p2 ((tog_eqv l).tr hbit.2 ((tog_eqv l).sy p3)))
theorem pt_one:(ptL []).length=1:=by
 have h:∀ n,0 < n→repsN (togF []) n=[0]:=by
  intro n hn;induction n with
  | zero=>omega
  | succ n ih =>
   rw[reps_succ];rcases Nat.eq_zero_or_pos n with h|h
   ·subst h;rfl
   ·rw[ih h]
    have:newB (togF []) n=false:=by
     cases hb:newB (togF []) n with
     | false=>rfl
     | true=>have:=new_iff.1 hb 0 h;simp [togF] at this
    rw[this];rfl
 rw[ptL,outL,h 256 (by omega)];rfl
end Go.Proofs.YtpkmfoinpdnifaaDoor
namespace Go.Proofs.YtpkmfoinpdnifaaDoor
set_option linter.all false
attribute [-go_sem] swpOb renOb rfOb V.cells
theorem u4_cg {s t:Nat→Nat} (h:∀ i,i < 4→s i=t i):u4 s=u4 t:=by
 rw[u4,u4,h 0 (by omega),h 1 (by omega),h 2 (by omega),h 3 (by omega)]
theorem u4_spl (s:Nat→Nat) {j:Nat} (h:j < 4) (x:Nat):splice j [.i .u64 x] (u4 s)=u4 (fun i=>if i=j then x else s i):=by
 match j,h with
 | 0,_=>rfl
 | 1,_=>rfl
 | 2,_=>rfl
 | 3,_=>rfl
theorem spl_u4 (s t:Nat→Nat):splice 0 (u4 s) (u4 t)=u4 s:=rfl
theorem spl_u4z (s:Nat→Nat) (a b c d:V):splice 0 (u4 s) [a,b,c,d]=u4 s:=rfl
def lcd (cs:List V):Option (List V):=if cs.all scalD=true then some (cs.map nlD) else none
theorem lcd_u4 (s:Nat→Nat):lcd (u4 s)=some (u4 s):=rfl
theorem lcd_i (k:IntKind) (n:Int):lcd [.i k n]=some [.i k n]:=rfl
theorem lcd_i4 (k:IntKind) (a b c d:Int):lcd [.i k a,.i k b,.i k c,.i k d]=some [.i k a,.i k b,.i k c,.i k d]:=rfl
theorem lcd_au (A:Au):lcd (auC A)=some (auC A):=by obtain⟨⟨ak,as_,ap,al,ah⟩,S,Cs,R,Fi,Mo,La,Em⟩:=A;rfl
theorem lit_1 (e:E) (sz:Nat) (z:List V) (x:Od):litV e sz 1 z [(0,x)]=if (x.ev e).cells.length=sz then (lcd (x.ev e).cells).map fun c=>.sl [c] else none:=by
 simp only[litV,fillE,List.replicate,List.length_cons,List.length_nil,Nat.zero_add,Nat.lt_add_one,and_true,List.set_cons_zero,lcd];by_cases h:(x.ev e).cells.length=sz
 ·simp only[h,if_true];by_cases h2:(x.ev e).cells.all scalD=true<;>simp [h2]
 ·simp [h]
theorem lit_2 (e:E) (sz:Nat) (z:List V) (x y:Od):litV e sz 2 z [(0,x),(1,y)]=if (x.ev e).cells.length=sz∧(y.ev e).cells.length=sz then (lcd (x.ev e).cells).bind fun c=>(lcd (y.ev e).cells).map fun d=>.sl [c,d] else none:=by
 simp only[litV,fillE,List.replicate,List.length_cons,List.length_nil,lcd];by_cases h:(x.ev e).cells.length=sz
 ·by_cases h3:(y.ev e).cells.length=sz
  ·by_cases h2:(x.ev e).cells.all scalD=true<;>by_cases h4:(y.ev e).cells.all scalD=true<;>simp [h,h3,h2,h4]
  ·simp [h,h3]
 ·simp [h]
theorem u4s_at {l:List (Nat→Nat)} {i:Nat} (h:i < l.length):(l.map u4)[i]?=some (u4 l[i]):=by rw[List.getElem?_map,List.getElem?_eq_getElem h];rfl
theorem u4s_cls (L:List (Nat→Nat)):(L.map u4).all cls1L=true:=List.all_eq_true.2 fun c hc=>by obtain⟨x,_,rfl⟩:=List.mem_map.1 hc;rfl
theorem u4s_cl (l:List (Nat→Nat)):cldLL (l.map u4)=true:=cldLL_map (fun _=>rfl) l
theorem u4_cl (s:Nat→Nat):cldL (u4 s)=true:=rfl
attribute [go_sem] lit_1 lit_2 lcd_u4 lcd_i lcd_i4 lcd_au Option.bind_some spl_u4 spl_u4z u4s_cl u4_cl
def mixO (n:Nat) (a b:Nat→Nat) (i:Nat):Nat:=if i < n then a i ||| b i else a i
theorem or_pu (a b:Nat→Nat) (ha:W64 a) (hb:W64 b):Pu F 45 [.ag (u4 a),.ag (u4 b)] (.ag (u4 (orS a b))):=by
 refine U_pure e45 rfl rfl (by simp only[go_sem,Bool.and_true]) ?_;dsimp only[fn45,c45];(repeat (with_reducible (first|refine U_nil ?_|refine UC_sq ?_|refine UC_rg ?_|refine UC_bk ?_|refine X_nx ?_|((first|refine U_q (v:=?_) ?h1 ?_|refine U_alc (n:=?_) ?h1 ?_);case h1=>((try simp only[List.take_succ_cons,List.take_zero,List.drop_succ_cons,List.drop_zero,go_sem])<;>rfl))|(refine U_box (cs:=?_) (cs':=?_) (n:=?_) ?h1 ?h2 ?h3 ?h4 ?_;case h1|h2|h3|h4=>((try simp only[List.take_succ_cons,List.take_zero,List.drop_succ_cons,List.drop_zero,go_sem])<;>rfl)))));refine U_lp (fun r e o=>∃ i:Nat,i+r=4∧e 2=.pt 2 0 0∧e 3=.pt 3 0 0∧e 4=.pt 4 0 0∧e 6=.i .i64 i∧o 2=some (.row 4 [u4 (mixO i a b)])∧o 3=some (.row 4 [u4 b])∧o 4=some (.row 4 [u4 zrS])) (k:=4) ?_ (Call_le F) ?_
 ·exact⟨0,by omega,Z0,Z0,Z0,Zr0,Zr0,Z0,Zr0⟩
 rintro r e o ⟨i,hir,r2,r3,r4,r6,o2,o3,o4⟩;dsimp only[b45_0];by_cases hi:i < 4
 ·have hd:decide ((i:Int) < 4)=true:=decide_eq_true (by omega);have hw:=wrap1 (i:=i) (by omega);have hip:(0:Int)≤(i:Int):=by omega
  have hi4:((i:Int) < 4)=True:=by simp only[eq_iff_iff,iff_true];omega
  have hle:i+1≤4:=by omega
  have g1:=u4_get (mixO i a b) hi;have g1':mixO i a b i=a i:=by simp [mixO]
  rw[g1'] at g1;have g2:=u4_get b hi;have key:=or_u64 (ha i hi) (hb i hi);have hspl:splice i [.i .u64 ((a i ||| b i:Nat):Int)] (u4 (mixO i a b))=u4 (mixO (i+1) a b):=by
   rw[u4_spl _ hi];refine u4_cg fun j _=>?_;simp only[mixO];by_cases h:j=i
   ·subst h;simp
   ·have:(j < i+1)↔j < i:=by omega
    simp [h,this]
  generalize mixO i a b=s at o2 g1 hspl;generalize ht:mixO (i+1) a b=t at hspl;(repeat (with_reducible (first|refine U_nil ?_|refine UC_sq ?_|refine UC_rg ?_|refine UC_bk ?_|refine UC_sk ?_|refine X_nx ?_|refine B_nx ?_|((first|refine U_q (v:=?_) ?h1 ?_|refine U_ld (v:=?_) ?h1 ?_|refine UC_cdt ?h1 ?_);case h1=>((try simp only[r2,r3,r6,o2,o3,hd,hw,hip,hi4,hle,g1,g2,key,hspl,Int.toNat_natCast,List.take_succ_cons,List.take_zero,List.drop_succ_cons,List.drop_zero,go_sem])<;>rfl))|(refine U_sto (id:=?_) (i:=?_) (j:=?_) (q:=?_) (es:=?_) (cs:=?_) (vs:=?_) (es':=?_) ?h1 ?h2 ?h3 ?h4 ?h5 ?h6 ?h7 ?_;case h1|h2|h3|h4|h5|h6|h7=>((try simp only[r2,r3,r6,o2,o3,hd,hw,hip,hi4,hle,g1,g2,key,hspl,Int.toNat_natCast,List.take_succ_cons,List.take_zero,List.drop_succ_cons,List.drop_zero,go_sem])<;>rfl)))))
  exact⟨r - 1,by omega,i+1,by omega,Z1 r2,Z1 r3,Z1 r4,Z0,by rw[ht];simp only[go_sem],Z1 o3,Z1 o4⟩
 ·have hi:i=4:=by omega
  subst hi;have hd:decide (((4:Nat):Int) < 4)=false:=by simp
  have he:u4 (mixO 4 a b)=u4 (orS a b):=u4_cg fun j hj=>by simp [mixO,orS,hj]
  rw[he] at o2;(repeat (with_reducible (first|refine U_nil ?_|refine UC_sq ?_|refine UC_rg ?_|refine UC_ex ?_|refine UC_rt ?_|refine X_nx ?_|refine X_ex ?_|refine B_self ?_|((first|refine U_q (v:=?_) ?h1 ?_|refine U_ld (v:=?_) ?h1 ?_|refine E_1 (v:=?_) ?h1 ?_);case h1=>((try simp only[r2,r4,r6,o2,o4,hd,List.take_succ_cons,List.take_zero,List.drop_succ_cons,List.drop_zero,go_sem])<;>rfl))|(refine U_sto (id:=?_) (i:=?_) (j:=?_) (q:=?_) (es:=?_) (cs:=?_) (vs:=?_) (es':=?_) ?h1 ?h2 ?h3 ?h4 ?h5 ?h6 ?h7 ?_;case h1|h2|h3|h4|h5|h6|h7=>((try simp only[r2,r4,r6,o2,o4,hd,List.take_succ_cons,List.take_zero,List.drop_succ_cons,List.drop_zero,go_sem])<;>rfl))|(refine UC_cdf ?h1 ?_;case h1=>((try simp only[r2,r4,r6,o2,o4,hd,List.take_succ_cons,List.take_zero,List.drop_succ_cons,List.drop_zero,go_sem])<;>rfl)))));exact fz_of rfl rfl
theorem u4_put (f:Nat→Bool) {n:Nat} (h:n < 256):u4 (fun i=>if i=n / 64 then clsS f (n / 64) ||| 2 ^ (n % 64) else clsS f i)=u4 (clsS fun x=>f x||decide (x=n)):=by
 have hp:2 ^ (n % 64) < 2 ^ 64:=Nat.pow_lt_pow_right (by omega) (Nat.mod_lt _ (by omega));refine u4_ext (fun j hj=>?_) (cls_w _) fun b hb=>?_
 ·split
  ·exact Nat.or_lt_two_pow (n:=64) (cls_lt f _) hp
  ·exact cls_lt f j
 ·rw[cls_bit,← cls_bit f b,bitOf,bitOf];by_cases hq:b / 64=n / 64
  ·rw[if_pos hq,hq,Nat.testBit_or,Nat.testBit_two_pow]
   have:(n % 64=b % 64)↔b=n:=by omega
   simp [this]
  ·rw[if_neg hq]
   have:b≠n:=fun h=>hq (by rw[h])
   simp [this]
structure Bt (f:Nat→Bool) (n:Nat):Prop where
 ip:(0:Int)≤((n / 64:Nat):Int)
 lt:(((n / 64:Nat):Int) < 4)=True
 le:n / 64+1≤4
 g:(u4 (clsS f))[n / 64]?=some (.i .u64 (clsS f (n / 64)))
 f0:(n:Int).fdiv 64=((n / 64:Nat):Int)
 nn:(((n % 64:Nat):Int) < 0)=False
 mn:min (n % 64) 64=n % 64
 pw:IntKind.u64.wrap (1*2 ^ (n % 64))=((2 ^ (n % 64):Nat):Int)
 og:orI .u64 (clsS f (n / 64):Int) ((2 ^ (n % 64):Nat):Int)=((clsS f (n / 64) ||| 2 ^ (n % 64):Nat):Int)
 spl:splice (n / 64) [.i .u64 ((clsS f (n / 64) ||| 2 ^ (n % 64):Nat):Int)] (u4 (clsS f))=u4 (clsS fun x=>f x||decide (x=n))
 m8:andI .u8 (n:Int) 63=((n % 64:Nat):Int)
 m6:andI .i64 (n:Int) 63=((n % 64:Nat):Int)
theorem bt (f:Nat→Bool) {n:Nat} (h:n < 256):Bt f n:=by
 have hm:n % 64 < 64:=Nat.mod_lt _ (by omega);have hq:n / 64 < 4:=by omega
 have hp:2 ^ (n % 64) < 18446744073709551616:=by
  have:2 ^ (n % 64) < 2 ^ 64:=Nat.pow_lt_pow_right (by omega) hm
  exact this
 refine⟨by omega,by simp only[eq_iff_iff,iff_true];omega,by omega,u4_get _ hq,fdiv64 n,by simp only[eq_iff_iff,iff_false];omega,by omega,?_,or_u64 (cls_lt f _) hp,?_,and_u8 h,and_63 (by omega)⟩
 ·rw[Int.one_mul,show ((2:Int) ^ (n % 64))=((2 ^ (n % 64):Nat):Int) by simp];generalize 2 ^ (n % 64)=y at hp;exact wrap_u64 (by omega) (by omega)
 ·rw[u4_spl _ hq];exact u4_put f h
theorem u4_zero:u4 (clsS fun _=>false)=u4 zrS:=u4_ext (cls_w _) (fun _ _=>by simp [zrS]) fun b _=>by rw[cls_bit];simp [bitOf,zrS]
theorem of_pu (b:Nat) (hb:b < 256):Pu F 46 [.sl [[.i .u8 b]]] (.ag (u4 (byS b))):=by
 obtain⟨b1,b2,b3,b4,b5,b6,b7,b8,b9,b10,b11,_⟩:=bt (fun _=>false) hb;have e1:u4 (clsS fun x=>false||decide (x=b))=u4 (byS b):=by simp only[Bool.false_or,byS]
 rw[e1,u4_zero] at b10;rw[u4_zero] at b4;generalize clsS (fun _=>false)=z at b4 b9 b10;refine U_pure e46 rfl rfl rfl ?_;dsimp only[fn46,c46];(repeat (with_reducible (first|refine U_nil ?_|refine UC_sq ?_|refine UC_rg ?_|refine UC_bk ?_|refine X_nx ?_|((first|refine U_q (v:=?_) ?h1 ?_|refine U_alc (n:=?_) ?h1 ?_);case h1=>((try simp only[List.take_succ_cons,List.take_zero,List.drop_succ_cons,List.drop_zero,go_sem])<;>rfl)))));refine U_lp (fun r e o=>∃ i:Nat,i+r=1∧e 2=.pt 2 0 0∧e 3=.pt 3 0 0∧e 6=.sl [[.i .u8 b]]∧e 7=.i .i64 1∧e 8=.i .i64 i∧o 2=some (.row 4 [u4 zrS])∧o 3=some (.row 4 [if i=0 then u4 zrS else u4 (byS b)])) (k:=1) ?_ (Call_le F) ?_
 ·exact⟨0,by omega,Z0,Z0,Z0,Zr0,Zr0,Zr0,Zr0⟩
 rintro r e o ⟨i,hir,r2,r3,r6,r7,r8,o2,o3⟩;dsimp only[b46_0]
 match i,hir,r8,o3 with
 | 0,hir,r8,o3 =>
  have r8:e 8=.i .i64 0:=r8;have o3:o 3=some (.row 4 [u4 zrS]):=o3;(repeat (with_reducible (first|refine U_nil ?_|refine UC_sq ?_|refine UC_rg ?_|refine UC_bk ?_|refine UC_sk ?_|refine X_nx ?_|refine B_nx ?_|((first|refine U_q (v:=?_) ?h1 ?_|refine U_ld (v:=?_) ?h1 ?_|refine UC_cdt ?h1 ?_);case h1=>((try simp only[r3,r6,r7,r8,o3,b1,b2,b3,b4,b5,b6,b7,b8,b9,b10,b11,Int.toNat_natCast,List.take_succ_cons,List.take_zero,List.drop_succ_cons,List.drop_zero,go_sem])<;>rfl))|(refine U_sto (id:=?_) (i:=?_) (j:=?_) (q:=?_) (es:=?_) (cs:=?_) (vs:=?_) (es':=?_) ?h1 ?h2 ?h3 ?h4 ?h5 ?h6 ?h7 ?_;case h1|h2|h3|h4|h5|h6|h7=>((try simp only[r3,r6,r7,r8,o3,b1,b2,b3,b4,b5,b6,b7,b8,b9,b10,b11,Int.toNat_natCast,List.take_succ_cons,List.take_zero,List.drop_succ_cons,List.drop_zero,go_sem])<;>rfl)))))
  exact⟨r - 1,by omega,1,by omega,Z1 r2,Z1 r3,Z1 r6,Z1 r7,Zr0,Z1 o2,Zr0⟩
 | 1,hir,r8,o3 =>
  have r8:e 8=.i .i64 1:=r8;have o3:o 3=some (.row 4 [u4 (byS b)]):=o3;(repeat (with_reducible (first|refine U_nil ?_|refine UC_sq ?_|refine UC_rg ?_|refine UC_ex ?_|refine UC_rt ?_|refine X_nx ?_|refine X_ex ?_|refine B_self ?_|((first|refine U_q (v:=?_) ?h1 ?_|refine U_ld (v:=?_) ?h1 ?_|refine E_1 (v:=?_) ?h1 ?_);case h1=>((try simp only[r2,r3,r7,r8,o2,o3,List.take_succ_cons,List.take_zero,List.drop_succ_cons,List.drop_zero,go_sem])<;>rfl))|(refine U_sto (id:=?_) (i:=?_) (j:=?_) (q:=?_) (es:=?_) (cs:=?_) (vs:=?_) (es':=?_) ?h1 ?h2 ?h3 ?h4 ?h5 ?h6 ?h7 ?_;case h1|h2|h3|h4|h5|h6|h7=>((try simp only[r2,r3,r7,r8,o2,o3,List.take_succ_cons,List.take_zero,List.drop_succ_cons,List.drop_zero,go_sem])<;>rfl))|(refine UC_cdf ?h1 ?_;case h1=>((try simp only[r2,r3,r7,r8,o2,o3,List.take_succ_cons,List.take_zero,List.drop_succ_cons,List.drop_zero,go_sem])<;>rfl)))));exact fz_of rfl rfl
 | n+2,hir,_,_=>omega
def fulS:Nat→Nat:=clsS fun _=>true
theorem range_pu:Pu F 27 [.i .u8 0,.i .u8 255] (.ag (u4 fulS)):=by
 refine U_pure e27 rfl rfl rfl ?_;dsimp only[fn27,c27];(repeat (with_reducible (first|refine U_nil ?_|refine UC_sq ?_|refine UC_rg ?_|refine UC_bk ?_|refine X_nx ?_|((first|refine U_q (v:=?_) ?h1 ?_|refine U_alc (n:=?_) ?h1 ?_);case h1=>((try simp only[List.take_succ_cons,List.take_zero,List.drop_succ_cons,List.drop_zero,go_sem])<;>rfl)))));refine U_lp (fun r e o=>∃ i:Nat,i+r=256∧e 1=.i .u8 255∧e 4=.pt 4 0 0∧e 5=.pt 5 0 0∧e 6=.i .i64 i∧o 4=some (.row 4 [u4 zrS])∧o 5=some (.row 4 [u4 (clsS fun x=>decide (x < i))])) (k:=256) ?_ (Call_le F) ?_
 ·refine⟨0,by omega,Z0,Z0,Z0,Zr0,Zr0,?_⟩
  have:u4 (clsS fun x=>decide (x < 0))=u4 zrS:=by simp only[Nat.not_lt_zero,decide_false];exact u4_zero
  rw[this];(simp only[go_sem]<;>rfl)
 rintro r e o ⟨i,hir,r1,r4,r5,r6,o4,o5⟩;dsimp only[b27_0];have hc:IntKind.i64.wrap 255=255:=by decide
 by_cases hi:i < 256
 ·obtain⟨b1,b2,b3,b4,b5,b6,b7,b8,b9,b10,_,b11⟩:=bt (fun x=>decide (x < i)) hi;have hd:decide ((i:Int)≤255)=true:=decide_eq_true (by omega);have hw:=wrap1 (i:=i) (by omega);have he:u4 (clsS fun x=>decide (x < i)||decide (x=i))=u4 (clsS fun x=>decide (x < i+1)):=u4_ext (cls_w _) (cls_w _) fun x _=>by
   rw[cls_bit,cls_bit,← Bool.decide_or,decide_eq_decide];omega
  rw[he] at b10;generalize clsS (fun x=>decide (x < i))=z at b4 b9 b10 o5;generalize hz2:clsS (fun x=>decide (x < i+1))=z2 at b10;(repeat (with_reducible (first|refine U_nil ?_|refine UC_sq ?_|refine UC_rg ?_|refine UC_bk ?_|refine UC_sk ?_|refine X_nx ?_|refine B_nx ?_|((first|refine U_q (v:=?_) ?h1 ?_|refine U_ld (v:=?_) ?h1 ?_|refine UC_cdt ?h1 ?_);case h1=>((try simp only[r1,r5,r6,o5,hc,hd,hw,b1,b2,b3,b4,b5,b6,b7,b8,b9,b10,b11,Int.toNat_natCast,List.take_succ_cons,List.take_zero,List.drop_succ_cons,List.drop_zero,go_sem])<;>rfl))|(refine U_sto (id:=?_) (i:=?_) (j:=?_) (q:=?_) (es:=?_) (cs:=?_) (vs:=?_) (es':=?_) ?h1 ?h2 ?h3 ?h4 ?h5 ?h6 ?h7 ?_;case h1|h2|h3|h4|h5|h6|h7=>((try simp only[r1,r5,r6,o5,hc,hd,hw,b1,b2,b3,b4,b5,b6,b7,b8,b9,b10,b11,Int.toNat_natCast,List.take_succ_cons,List.take_zero,List.drop_succ_cons,List.drop_zero,go_sem])<;>rfl)))))
  exact⟨r - 1,by omega,i+1,by omega,Z1 r1,Z1 r4,Z1 r5,Z0,Z1 o4,by rw[hz2];simp only[go_sem]⟩
 ·have hi:i=256:=by omega
  subst hi;have hd:decide (((256:Nat):Int)≤255)=false:=by simp
  have he:u4 (clsS fun x=>decide (x < 256))=u4 fulS:=u4_ext (cls_w _) (cls_w _) fun x hx=>by
   rw[cls_bit,fulS,cls_bit];simp [hx]
  rw[he] at o5;generalize fulS=z at o5;(repeat (with_reducible (first|refine U_nil ?_|refine UC_sq ?_|refine UC_rg ?_|refine UC_ex ?_|refine UC_rt ?_|refine X_nx ?_|refine X_ex ?_|refine B_self ?_|((first|refine U_q (v:=?_) ?h1 ?_|refine U_ld (v:=?_) ?h1 ?_|refine E_1 (v:=?_) ?h1 ?_);case h1=>((try simp only[r1,r4,r5,r6,o4,o5,hc,hd,List.take_succ_cons,List.take_zero,List.drop_succ_cons,List.drop_zero,go_sem])<;>rfl))|(refine U_sto (id:=?_) (i:=?_) (j:=?_) (q:=?_) (es:=?_) (cs:=?_) (vs:=?_) (es':=?_) ?h1 ?h2 ?h3 ?h4 ?h5 ?h6 ?h7 ?_;case h1|h2|h3|h4|h5|h6|h7=>((try simp only[r1,r4,r5,r6,o4,o5,hc,hd,List.take_succ_cons,List.take_zero,List.drop_succ_cons,List.drop_zero,go_sem])<;>rfl))|(refine UC_cdf ?h1 ?_;case h1=>((try simp only[r1,r4,r5,r6,o4,o5,hc,hd,List.take_succ_cons,List.take_zero,List.drop_succ_cons,List.drop_zero,go_sem])<;>rfl)))));exact fz_of rfl rfl
def mkF (l:List (Nat→Nat)) (b i:Nat):Bool:=match l[i]? with|some s=>bitOf s b|none=>false
theorem mark_eq (l:List (Nat→Nat)) (b:Nat):markS l b=clsS (mkF l b):=rfl
theorem mkF_succ {l:List (Nat→Nat)} {i:Nat} (hi:i < l.length) (b x:Nat):mkF (l.take (i+1)) b x=(mkF (l.take i) b x||(decide (x=i)&&bitOf l[i] b)):=by
 simp only[mkF,List.getElem?_take];by_cases h:x=i
 ·subst h;rw[if_pos (by omega),if_neg (by omega),List.getElem?_eq_getElem hi];simp
 ·by_cases h2:x < i
  ·rw[if_pos (by omega),if_pos h2];simp [h]
  ·rw[if_neg (by omega),if_neg h2];simp [h]
set_option maxHeartbeats 1000000 in
theorem marks_pu (l:List (Nat→Nat)) (hl:l.length≤256) (hw:∀ s∈l,W64 s) (b:Nat) (hb:b < 256):Pu F 44 [.sl (l.map u4),.i .u8 b] (.ag (u4 (markS l b))):=by
 refine U_pure e44 rfl rfl (by simp only[go_sem,Bool.and_true]) ?_;dsimp only[fn44,c44];(repeat (with_reducible (first|refine U_nil ?_|refine UC_sq ?_|refine UC_rg ?_|refine UC_bk ?_|refine X_nx ?_|((first|refine U_q (v:=?_) ?h1 ?_|refine U_alc (n:=?_) ?h1 ?_);case h1=>((try simp only[List.length_map,List.take_succ_cons,List.take_zero,List.drop_succ_cons,List.drop_zero,go_sem])<;>rfl)))));refine U_lp (fun r e o=>∃ i:Nat,i+r=l.length∧e 1=.i .u8 b∧e 4=.pt 4 0 0∧e 5=.pt 5 0 0∧e 8=.sl (l.map u4)∧e 9=.i .i64 l.length∧e 10=.i .i64 i∧o 4=some (.row 4 [u4 zrS])∧o 5=some (.row 4 [u4 (clsS (mkF (l.take i) b))])) (k:=l.length) ?_ (Call_le F) ?_
 ·refine⟨0,by omega,Z0,Z0,Z0,Z0,by simp only[List.length_map,go_sem],Zr0,Zr0,?_⟩
  have:u4 (clsS (mkF (l.take 0) b))=u4 zrS:=by
   rw[← u4_zero];exact u4_ext (cls_w _) (cls_w _) fun x _=>by rw[cls_bit,cls_bit];simp [mkF]
  rw[this];(simp only[go_sem]<;>rfl)
 rintro r e o ⟨i,hir,r1,r4,r5,r8,r9,r10,o4,o5⟩;dsimp only[b44_0];by_cases hi:i < l.length
 ·have hd:decide ((i:Int) < (l.length:Int))=true:=decide_eq_true (by omega);have hip:(0:Int)≤(i:Int):=by omega
  have hw1:=wrap1 (i:=i) (by omega);have gI:=u4s_at hi;have hH:=has_pu l[i] (hw _ (List.getElem_mem hi)) b hb;have hS:=fun x=>mkF_succ hi b x;generalize l[i]=q at gI hH hS;(repeat (with_reducible (first|refine U_nil ?_|refine UC_sq ?_|refine UC_rg ?_|refine UC_bk ?_|refine UC_sk ?_|refine X_nx ?_|((first|refine U_q (v:=?_) ?h1 ?_|refine U_ld (v:=?_) ?h1 ?_|refine U_alc (n:=?_) ?h1 ?_|refine UC_cdt ?h1 ?_);case h1=>((try simp only[r1,r8,r9,r10,hd,hip,gI,Int.toNat_natCast,List.take_succ_cons,List.take_zero,List.drop_succ_cons,List.drop_zero,go_sem])<;>rfl))|(refine U_sto (id:=?_) (i:=?_) (j:=?_) (q:=?_) (es:=?_) (cs:=?_) (vs:=?_) (es':=?_) ?h1 ?h2 ?h3 ?h4 ?h5 ?h6 ?h7 ?_;case h1|h2|h3|h4|h5|h6|h7=>((try simp only[r1,r8,r9,r10,hd,hip,gI,Int.toNat_natCast,List.take_succ_cons,List.take_zero,List.drop_succ_cons,List.drop_zero,go_sem])<;>rfl)))));cases hbt:bitOf q b with
  | true =>
   rw[hbt] at hH hS;obtain⟨b1,b2,b3,b4,b5,b6,b7,b8,b9,b10,_,b11⟩:=bt (mkF (l.take i) b) (show i < 256 by omega);have he:u4 (clsS fun x=>mkF (l.take i) b x||decide (x=i))=u4 (clsS (mkF (l.take (i+1)) b)):=u4_ext (cls_w _) (cls_w _) fun x _=>by
    rw[cls_bit,cls_bit,hS];simp
   rw[he] at b10;generalize clsS (mkF (l.take i) b)=z at b4 b9 b10 o5;generalize hz2:clsS (mkF (l.take (i+1)) b)=z2 at b10
   (refine U_pcr (r:=.bo true) hH ?h1 ?h2 rfl ?_;(case h1=>((try simp only[r1,List.take_succ_cons,List.take_zero,List.drop_succ_cons,List.drop_zero,go_sem])<;>rfl));(case h2=>simp only[r1,List.all_cons,List.all_nil,Bool.and_true,go_sem]))
   (repeat (with_reducible (first|refine U_nil ?_|refine UC_rg ?_|refine X_nx ?_|refine B_nx ?_|((first|refine U_q (v:=?_) ?h1 ?_|refine U_ld (v:=?_) ?h1 ?_|refine UC_cdt ?h1 ?_);case h1=>((try simp only[r1,r5,r10,o5,hw1,b1,b2,b3,b4,b5,b6,b7,b8,b9,b10,b11,Int.toNat_natCast,List.take_succ_cons,List.take_zero,List.drop_succ_cons,List.drop_zero,go_sem])<;>rfl))|(refine U_sto (id:=?_) (i:=?_) (j:=?_) (q:=?_) (es:=?_) (cs:=?_) (vs:=?_) (es':=?_) ?h1 ?h2 ?h3 ?h4 ?h5 ?h6 ?h7 ?_;case h1|h2|h3|h4|h5|h6|h7=>((try simp only[r1,r5,r10,o5,hw1,b1,b2,b3,b4,b5,b6,b7,b8,b9,b10,b11,Int.toNat_natCast,List.take_succ_cons,List.take_zero,List.drop_succ_cons,List.drop_zero,go_sem])<;>rfl)))))
   exact⟨r - 1,by omega,i+1,by omega,Z1 r1,Z1 r4,Z1 r5,Z1 r8,Z1 r9,Z0,Z1 o4,by rw[hz2];simp only[go_sem]⟩
  | false =>
   rw[hbt] at hH hS;have he:u4 (clsS (mkF (l.take i) b))=u4 (clsS (mkF (l.take (i+1)) b)):=u4_ext (cls_w _) (cls_w _) fun x _=>by
    rw[cls_bit,cls_bit,hS];simp
   rw[he] at o5;generalize hz2:clsS (mkF (l.take (i+1)) b)=z2 at o5
   (refine U_pcr (r:=.bo false) hH ?h1 ?h2 rfl ?_;(case h1=>((try simp only[r1,List.take_succ_cons,List.take_zero,List.drop_succ_cons,List.drop_zero,go_sem])<;>rfl));(case h2=>simp only[r1,List.all_cons,List.all_nil,Bool.and_true,go_sem]))
   (repeat (with_reducible (first|refine U_nil ?_|refine UC_rg ?_|refine UC_sk ?_|refine X_nx ?_|refine B_nx ?_|(refine U_q (v:=?_) ?h1 ?_;case h1=>((try simp only[r10,hw1,List.take_succ_cons,List.take_zero,List.drop_succ_cons,List.drop_zero,go_sem])<;>rfl))|(refine UC_cdf ?h1 ?_;case h1=>((try simp only[r10,hw1,List.take_succ_cons,List.take_zero,List.drop_succ_cons,List.drop_zero,go_sem])<;>rfl)))))
   exact⟨r - 1,by omega,i+1,by omega,Z1 r1,Z1 r4,Z1 r5,Z1 r8,Z1 r9,Z0,Z1 o4,by rw[hz2];simp only[o5,go_sem]⟩
 ·have hi:i=l.length:=by omega
  subst hi;have hd:decide ((l.length:Int) < (l.length:Int))=false:=by simp
  have he:u4 (clsS (mkF (l.take l.length) b))=u4 (markS l b):=by rw[List.take_length,mark_eq]
  rw[he] at o5;generalize markS l b=z at o5;(repeat (with_reducible (first|refine U_nil ?_|refine UC_sq ?_|refine UC_rg ?_|refine UC_ex ?_|refine UC_rt ?_|refine X_nx ?_|refine X_ex ?_|refine B_self ?_|((first|refine U_q (v:=?_) ?h1 ?_|refine U_ld (v:=?_) ?h1 ?_|refine E_1 (v:=?_) ?h1 ?_);case h1=>((try simp only[r4,r5,r9,r10,o4,o5,hd,List.take_succ_cons,List.take_zero,List.drop_succ_cons,List.drop_zero,go_sem])<;>rfl))|(refine U_sto (id:=?_) (i:=?_) (j:=?_) (q:=?_) (es:=?_) (cs:=?_) (vs:=?_) (es':=?_) ?h1 ?h2 ?h3 ?h4 ?h5 ?h6 ?h7 ?_;case h1|h2|h3|h4|h5|h6|h7=>((try simp only[r4,r5,r9,r10,o4,o5,hd,List.take_succ_cons,List.take_zero,List.drop_succ_cons,List.drop_zero,go_sem])<;>rfl))|(refine UC_cdf ?h1 ?_;case h1=>((try simp only[r4,r5,r9,r10,o4,o5,hd,List.take_succ_cons,List.take_zero,List.drop_succ_cons,List.drop_zero,go_sem])<;>rfl)))));exact fz_of rfl rfl
end Go.Proofs.YtpkmfoinpdnifaaDoor
namespace Go.Proofs.YtpkmfoinpdnifaaDoor
set_option linter.all false
attribute [-go_sem] swpOb renOb rfOb V.cells
def kyV (k:Ky):V:=.ag [.i .i64 0,.i .u64 (k.1:Nat),.i .u64 (k.2.1:Nat),.i .u64 (k.2.2.1:Nat),.i .u64 (k.2.2.2:Nat)]
theorem ky_eq (a b:Ky):eqV true [.i .i64,.i .u64,.i .u64,.i .u64,.i .u64] (kyV a) (kyV b)=some (decide (a=b)):=by
 obtain⟨a1,a2,a3,a4⟩:=a;obtain⟨b1,b2,b3,b4⟩:=b;simp only[kyV,eqV,V.isAg,V.cells,eqps,lfEq,and_self,if_true];congr 1;rw[Bool.eq_iff_iff];simp only[beq_self_eq_true,Bool.true_and,Bool.and_true,Bool.and_eq_true,beq_iff_eq,decide_eq_true_eq,Prod.mk.injEq,Int.ofNat_inj]
theorem ky_0 (a:Ky):(kyV a).isAg=true∧(kyV a).cells.length=5:=⟨rfl,rfl⟩
def mpK (f:Nat→Ky):List Nat→Nat→List (Ky × V)
 | [],_=>[]
 | r::rs,i=>(f r,.i .i64 i)::mpK f rs (i+1)
theorem mpK_app (f:Nat→Ky) (n:Nat):∀ (rs:List Nat) (i:Nat),mpK f (rs++[n]) i=mpK f rs i++[(f n,.i .i64 ((i+rs.length:Nat):Int))]
 | [],i=>by simp [mpK]
 | r::rs,i=>by simp only[List.cons_append,mpK,mpK_app f n rs (i+1),List.length_cons];rw[show i+1+rs.length=i+(rs.length+1) by omega]
theorem mpK_kidx (f:Nat→Ky) (k:Ky):∀ (rs:List Nat) (i:Nat),kidx k (mpK f rs i)=rs.findIdx? fun r=>decide (k=f r)
 | [],_=>rfl
 | r::rs,i=>by
  simp only[mpK,kidx,mpK_kidx f k rs (i+1),List.findIdx?_cons];by_cases h:k=f r
  ·simp [h]
  ·simp [h]
theorem mpK_get (f:Nat→Ky):∀ (rs:List Nat) (i j:Nat),j < rs.length→(((mpK f rs i)[j]?).map (·.2)).getD .jk=.i .i64 ((i+j:Nat):Int)
 | [],_,_,h=>by simp at h
 | r::rs,i,0,_=>by simp [mpK]
 | r::rs,i,j+1,h=>by
  simp only[mpK,List.getElem?_cons_succ];rw[mpK_get f rs (i+1) j (by simpa using h),show i+1+j=i+(j+1) by omega]
def mpL (l:List (Nat→Nat)) (n:Nat):List (Ky × V):=mpK (keyB l) (repsN (togF l) n) 0
theorem mpL_kidx {l:List (Nat→Nat)} (hl:l.length≤256) (n:Nat):kidx (keyB l n) (mpL l n)=idxR (togF l) n:=by
 rw[mpL,mpK_kidx,idxR]
 have:(fun r=>decide (keyB l n=keyB l r))=fun r=>togF l r n:=by
  funext r
  rw[Bool.eq_iff_iff,decide_eq_true_eq,← key_iff hl]
  exact⟨fun h=>h.symm,fun h=>h.symm⟩
 rw[this]
def skO (l:List (Nat→Nat)) (n:Nat):Ob:=mapOb (encL kyV (mpL l n))
theorem swpOb_skO (d:Nat) (l:List (Nat→Nat)) (n:Nat):swpOb d (skO l n)=some (skO l n):=by
 have h:∀ (rs:List Nat) (i:Nat),∀ p∈mpK (keyB l) rs i,swp d (kyV p.1)=kyV p.1∧swp d p.2=p.2:=by
  intro rs;induction rs with
  | nil=>intro i p hp;cases hp
  | cons r rs ih =>
   intro i p hp;rcases List.mem_cons.1 hp with rfl|hp
   ·exact⟨rfl,rfl⟩
   ·exact ih _ p hp
 refine swp_mapOb d _ fun p hp=>?_;obtain⟨x,hx,rfl⟩:=List.mem_map.1 hp;exact h _ _ x hx
attribute [go_sem] swpOb_skO
theorem lkp_ok {κ:Type} [DecidableEq κ] {enc:κ→V} {k0:κ} {L:List (κ × V)} {kg:Bool} {ks:List Lf} {z:V} {o:O} {s:Nat} (heq:∀ a b,eqV kg ks (enc a) (enc b)=some (decide (a=b))) (h0:(enc k0).isAg=kg∧(enc k0).cells.length=ks.length) (ho:o s=some (mapOb (encL enc L))) :
  lkpV o kg ks z true (.mp s) (enc k0)=some (match kidx k0 L with|some j=>.tp [((L[j]?).map (·.2)).getD .jk,.bo true]|none=>.tp [z,.bo false]):=by
 have hf':findE kg ks (enc k0) (entsOf 0 (encL enc L))=some (kidx k0 L):=findE_enc heq h0 L 0;simp only[lkpV,ho,mapOb,hf'];cases hi:kidx k0 L with
 | none=>simp
 | some j =>
  obtain⟨v,hv⟩:=kidx_some hi;have hj:(entsOf 0 (encL enc L))[j]?=some (j,enc k0,v):=by
   rw[entsOf_get];simp [encL,hv]
  simp [hj,hv]
theorem spl1_u4 (s:Nat→Nat) (a b c d e:V):splice 1 (u4 s) [a,b,c,d,e]=a::u4 s:=rfl
theorem spl5_u4 (s:Nat→Nat) (v a b c d e:V):splice 0 (v::u4 s) [a,b,c,d,e]=v::u4 s:=rfl
theorem okf_k5 (k:IntKind) (n:Int) (s:Nat→Nat):okf FZ (.ag (.i k n::u4 s))=true:=rfl
attribute [go_sem] spl1_u4 spl5_u4 okf_k5
structure Sp (l:List (Nat→Nat)) (n:Nat) (e:E) (o:O):Prop where
 e0:e 0=.sl [u4 fulS]
 e1:e 1=.sl (l.map u4)
 e5:e 5=.mp 13
 e6:e 6=ownV 52 4 ((outL (togF l) n).map u4)
 e14:e 14=.i .i64 256
 o13:o 13=some (skO l n)
 ow:Own o 52 4 ((outL (togF l) n).map u4)
structure Sq (l:List (Nat→Nat)) (n:Nat) (e:E) (o:O):Prop where
 e0:e 0=.sl [u4 fulS]
 e1:e 1=.sl (l.map u4)
 e5:e 5=.mp 13
 e7:e 7=.i .i64 n
 e14:e 14=.i .i64 256
 e15:e 15=.i .i64 n
 e18:e 18=.sl [u4 fulS]
 e19:e 19=.i .i64 1
 e20:e 20=.i .i64 0
 o13:o 13=some (skO l (n+1))
 at_:∃ (es:List (List V)) (at_:Nat) (s:Nat→Nat),e 6=.rw 52 4 0 es.length∧e 11=.i .i64 at_∧at_ < es.length∧o 52=some (.row 4 es)∧es.all cls1L=true∧es[at_]?=some (u4 s)∧W64 s∧es.set at_ (u4 (orS s (byS n)))=(outL (togF l) (n+1)).map u4
theorem gl_all:glV 0=.ip [.i .i64 256] 0:=rfl
theorem sk_0 (l:List (Nat→Nat)):V.mp 13=.mp 13∧some (Ob.map [] 0)=some (skO l 0):=⟨rfl,rfl⟩
theorem sk_new {l:List (Nat→Nat)} {n:Nat} (h:repsN (togF l) (n+1)=repsN (togF l) n++[n]):mpL l n++[(keyB l n,.i .i64 ((repsN (togF l) n).length:Nat))]=mpL l (n+1):=by
 rw[mpL,mpL,h,mpK_app,Nat.zero_add]
theorem sk_old {l:List (Nat→Nat)} {n:Nat} (h:repsN (togF l) (n+1)=repsN (togF l) n):skO l (n+1)=skO l n:=by rw[skO,skO,mpL,mpL,h]
set_option maxHeartbeats 4000000 in
theorem split_in (l:List (Nat→Nat)) (hl:l.length≤256) (hw:∀ s∈l,W64 s) {n:Nat} (hn:n < 256) (e:E) (o:O) (h:Sp l n e o) (r7:e 7=.i .i64 n) (r15:e 15=.i .i64 n) (r18:e 18=.sl [u4 fulS]) (r19:e 19=.i .i64 1) (r20:e 20=.i .i64 0) :
  wpU true (Call F) (.lp b28_0) (fun x e o=>x=.ex 2∧Sp l (n+1) e o∧e 15=.i .i64 n) e o:=by
 refine U_lp (fun r e o=>(r=1∧Sp l n e o∧e 7=.i .i64 n∧e 15=.i .i64 n∧e 18=.sl [u4 fulS]∧e 19=.i .i64 1∧e 20=.i .i64 0)∨(r=0∧Sp l (n+1) e o∧e 15=.i .i64 n∧e 19=.i .i64 1∧e 20=.i .i64 1)) (k:=1) (.inl ⟨rfl,h,r7,r15,r18,r19,r20⟩) (Call_le F) ?_;clear h r7 r15 r18 r19 r20;rintro r e o (⟨hr,⟨r0,r1,r5,r6,r14,o13,ow⟩,r7,r15,r18,r19,r20⟩|⟨hr,⟨r0,r1,r5,r6,r14,o13,ow⟩,r15,r19,r20⟩)
 ·have hH:=has_pu fulS (cls_w _) n hn;have hbt:bitOf fulS n=true:=by rw[fulS,cls_bit]
  rw[hbt] at hH;have hM:=marks_pu l hl hw n hn;have hc8:IntKind.u8.wrap (n:Int)=(n:Int):=wrap_u8 (by omega) (by omega);have hT:=tog_eqv l;have hll:((outL (togF l) n).map u4).length=(repsN (togF l) n).length:=by simp [outL]
  have hlr:(repsN (togF l) n).length≤n:=by
   have:=List.length_filter_le (newB (togF l)) (List.range n)
   rw[List.length_range] at this;exact this
  dsimp only[b28_0];(repeat (with_reducible (first|refine U_nil ?_|refine UC_sq ?_|refine UC_rg ?_|refine UC_bk ?_|refine UC_sk ?_|refine X_nx ?_|((first|refine U_q (v:=?_) ?h1 ?_|refine U_ld (v:=?_) ?h1 ?_|refine U_alc (n:=?_) ?h1 ?_|refine UC_cdt ?h1 ?_);case h1=>((try simp only[r7,r18,r19,r20,hc8,Int.toNat_natCast,List.take_succ_cons,List.take_zero,List.drop_succ_cons,List.drop_zero,go_sem])<;>rfl))|(refine U_sto (id:=?_) (i:=?_) (j:=?_) (q:=?_) (es:=?_) (cs:=?_) (vs:=?_) (es':=?_) ?h1 ?h2 ?h3 ?h4 ?h5 ?h6 ?h7 ?_;case h1|h2|h3|h4|h5|h6|h7=>((try simp only[r7,r18,r19,r20,hc8,Int.toNat_natCast,List.take_succ_cons,List.take_zero,List.drop_succ_cons,List.drop_zero,go_sem])<;>rfl)))))
  (refine U_pcr (r:=.bo true) hH ?h1 ?h2 rfl ?_;(case h1=>((try simp only[r7,hc8,List.take_succ_cons,List.take_zero,List.drop_succ_cons,List.drop_zero,go_sem])<;>rfl));(case h2=>simp only[r7,hc8,List.all_cons,List.all_nil,Bool.and_true,go_sem]))
  (repeat (with_reducible (first|refine U_nil ?_|refine UC_sq ?_|refine UC_rg ?_|refine UC_sk ?_|refine X_nx ?_|(refine U_q (v:=?_) ?h1 ?_;case h1=>((try simp only[r1,r7,hc8,List.take_succ_cons,List.take_zero,List.drop_succ_cons,List.drop_zero,go_sem])<;>rfl))|(refine UC_cdf ?h1 ?_;case h1=>((try simp only[r1,r7,hc8,List.take_succ_cons,List.take_zero,List.drop_succ_cons,List.drop_zero,go_sem])<;>rfl)))))
  (refine U_pcr (r:=.ag (u4 (markS l n))) hM ?h1 ?h2 rfl ?_;(case h1=>((try simp only[r1,r7,hc8,List.take_succ_cons,List.take_zero,List.drop_succ_cons,List.drop_zero,go_sem])<;>rfl));(case h2=>simp only[r1,r7,hc8,List.all_cons,List.all_nil,Bool.and_true,go_sem]))
  (repeat (with_reducible (first|refine U_nil ?_|refine UC_sq ?_|refine UC_rg ?_|refine X_nx ?_|((first|refine U_q (v:=?_) ?h1 ?_|refine U_ld (v:=?_) ?h1 ?_|refine U_alc (n:=?_) ?h1 ?_);case h1=>((try simp only[r5,List.take_succ_cons,List.take_zero,List.drop_succ_cons,List.drop_zero,go_sem])<;>rfl))|(refine U_sto (id:=?_) (i:=?_) (j:=?_) (q:=?_) (es:=?_) (cs:=?_) (vs:=?_) (es':=?_) ?h1 ?h2 ?h3 ?h4 ?h5 ?h6 ?h7 ?_;case h1|h2|h3|h4|h5|h6|h7=>((try simp only[r5,List.take_succ_cons,List.take_zero,List.drop_succ_cons,List.drop_zero,go_sem])<;>rfl)))));obtain⟨a,fnd,hlk,hsp⟩:∃ (a:Nat) (fnd:Bool),(∀ o':O,o' 13=some (skO l n)→lkpV o' true [.i .i64,.i .u64,.i .u64,.i .u64,.i .u64] (.i .i64 0) true (.mp 13) (kyV (keyB l n))=some (.tp [.i .i64 a,.bo fnd]))∧((fnd=true∧idxR (togF l) n=some a)∨(fnd=false∧idxR (togF l) n=none)):=by
   have hlk:=fun (o':O) (h13:o' 13=some (skO l n))=>lkp_ok (z:=.i .i64 0) (L:=mpL l n) ky_eq (ky_0 (keyB l n)) h13;rw[mpL_kidx hl] at hlk;cases hi:idxR (togF l) n with
   | none=>rw[hi] at hlk;exact⟨0,false,hlk,.inr ⟨rfl,rfl⟩⟩
   | some j =>
    rw[hi] at hlk;dsimp only at hlk;obtain⟨r,hr,_⟩:=idx_some hi;rw[mpL,mpK_get _ _ _ _ (List.getElem?_eq_some_iff.1 hr).1,Nat.zero_add] at hlk
    exact⟨j,true,hlk,.inl ⟨rfl,rfl⟩⟩
  refine U_lkp (v:=.tp [.i .i64 a,.bo fnd]) (by simp only[r5,List.take_succ_cons,List.take_zero,List.drop_succ_cons,List.drop_zero,go_sem];exact hlk _ (by (simp only[o13,go_sem]))) ?_;(repeat (with_reducible (first|refine U_nil ?_|refine UC_sq ?_|refine UC_rg ?_|refine X_nx ?_|(refine U_q (v:=?_) ?h1 ?_;case h1=>((try simp only[List.take_succ_cons,List.take_zero,List.drop_succ_cons,List.drop_zero,go_sem])<;>rfl)))));refine UC_cut (Sq l n) ?_ ?_
  ·rcases hsp with⟨rfl,hi⟩|⟨rfl,hi⟩
   ·obtain⟨h1,s,h2,h3,h4⟩:=out_old hT hi;have hne:(outL (togF l) n).map u4≠[]:=fun h=>by
     rw[List.map_eq_nil_iff] at h;rw[h] at h2;cases h2
    have h13:=sk_old h1;have hlt:a < ((outL (togF l) n).map u4).length:=by rw[List.length_map];exact (List.getElem?_eq_some_iff.1 h2).1
    have ho:=ow.h hne;rw[ownV_ne hne] at r6;(repeat (with_reducible (first|refine UC_sk ?_|(refine UC_cdf ?h1 ?_;case h1=>((try simp only[List.take_succ_cons,List.take_zero,List.drop_succ_cons,List.drop_zero,go_sem])<;>rfl)))))
    exact⟨rfl,⟨Z1 r0,Z1 r1,Z1 r5,Z1 r7,Z1 r14,Z1 r15,Z1 r18,Z1 r19,Z1 r20,by rw[h13];simp only[o13,go_sem],_,a,s,by (simp only[r6,go_sem]),by (simp only[go_sem]),hlt,by refine Own.h (L:=(outL (togF l) n).map u4) ?_ hne;(repeat first|with_reducible assumption|refine .up rfl ?_|refine .sw rfl ?_|refine .swN rfl ?_),ow.c,by rw[List.getElem?_map,h2];rfl,h3,h4⟩⟩
   ·have hnn:=(idx_none hT).1 hi;obtain⟨h1,h2⟩:=out_new hT hnn;have h13:=sk_new h1;have s1:=slenV_own 52 4 ((outL (togF l) n).map u4);rw[hll] at s1;simp only[slenV] at s1;(repeat (with_reducible (first|refine U_nil ?_|refine UC_sq ?_|refine UC_rg ?_|refine X_nx ?_|((first|refine U_q (v:=?_) ?h1 ?_|refine U_ld (v:=?_) ?h1 ?_|refine UC_cdt ?h1 ?_);case h1=>((try simp only[r6,s1,r5,List.take_succ_cons,List.take_zero,List.drop_succ_cons,List.drop_zero,go_sem])<;>rfl)))));refine U_mup (enc:=kyV) (k0:=keyB l n) (L:=mpL l n) (s:=13) (v:=.i .i64 ((repsN (togF l) n).length:Nat)) ky_eq (ky_0 _) (Z1 r5) (by ((simp only[o13,go_sem]<;>rfl))) (by (simp only[List.take_succ_cons,List.take_zero,List.drop_succ_cons,List.drop_zero,go_sem]<;>rfl)) (by (simp only[go_sem])) ?_;rw[mpL_kidx hl,hi];dsimp only;rw[h13,show mapOb (encL kyV (mpL l (n+1)))=skO l (n+1) from rfl];(repeat (with_reducible (first|refine U_nil ?_|refine UC_rg ?_|refine X_nx ?_|(refine U_q (v:=?_) ?h1 ?_;case h1=>((try simp only[List.take_succ_cons,List.take_zero,List.drop_succ_cons,List.drop_zero,go_sem])<;>rfl)))));refine U_appo 52 (L:=(outL (togF l) n).map u4) (ys:=[u4 zrS]) (Z1 r6) ?_ (by (simp only[src,List.take_succ_cons,List.take_zero,List.drop_succ_cons,List.drop_zero,go_sem]<;>rfl)) (by simp [u4_len]) (by simp) (by omega) ⟨by rw[hll];simp;omega,by omega⟩ (swpR_cls _ ow.c) rfl ?_
    ·exact (by (repeat first|with_reducible assumption|refine .up rfl ?_|refine .sw rfl ?_|refine .swN rfl ?_):Own _ 52 4 _).h
    (repeat (with_reducible (first|refine U_nil ?_|(refine U_q (v:=?_) ?h1 ?_;case h1=>((try simp only[List.take_succ_cons,List.take_zero,List.drop_succ_cons,List.drop_zero,go_sem])<;>rfl)))));have hlen:((outL (togF l) n).map u4++[u4 zrS]).length=(repsN (togF l) n).length+1:=by rw[List.length_append,hll];rfl
    have hcl:((outL (togF l) n).map u4++[u4 zrS]).all cls1L=true:=by rw[List.all_append,ow.c];rfl
    refine⟨rfl,⟨Z1 r0,Z1 r1,Z1 r5,Z1 r7,Z1 r14,Z1 r15,Z1 r18,Z1 r19,Z1 r20,by (simp only[go_sem]),(outL (togF l) n).map u4++[u4 zrS],(repsN (togF l) n).length,zrS,by simp only[go_sem];rw[ownV_ne (by simp)],by (simp only[go_sem]),by omega,by (simp only[go_sem]),hcl,?_,fun _ _=>by simp [zrS],?_⟩⟩
    ·rw[← hll,List.getElem?_append_right (Nat.le_refl _),Nat.sub_self];rfl
    ·rw[← h2,← hll,List.set_append_right _ _ (Nat.le_refl _),Nat.sub_self];rfl
  rintro e o ⟨q0,q1,q5,q7,q14,q15,q18,q19,q20,q13,es,at_,s,q6,q11,hat,q52,hcl,hes,hsw,hset⟩;have hOf:=of_pu n hn;have hOr:=or_pu s (byS n) hsw (cls_w _);have hap:(0:Int)≤(at_:Int):=by omega
  have hal:((at_:Int) < (es.length:Int))=True:=by simp only[eq_iff_iff,iff_true];omega
  have hw1:IntKind.i64.wrap 1=1:=by decide
  (repeat (with_reducible (first|refine UC_rg ?_|refine X_nx ?_|((first|refine U_q (v:=?_) ?h1 ?_|refine U_ld (v:=?_) ?h1 ?_);case h1=>((try simp only[q6,q7,q11,q52,hap,hal,hes,hc8,Int.toNat_natCast,List.take_succ_cons,List.take_zero,List.drop_succ_cons,List.drop_zero,go_sem])<;>rfl)))))
  (refine U_pcr (r:=.ag (u4 (byS n))) hOf ?h1 ?h2 rfl ?_;(case h1=>((try simp only[List.take_succ_cons,List.take_zero,List.drop_succ_cons,List.drop_zero,go_sem])<;>rfl));(case h2=>simp only[List.all_cons,List.all_nil,Bool.and_true,go_sem]))
  (refine U_pcr (r:=.ag (u4 (orS s (byS n)))) hOr ?h1 ?h2 rfl ?_;(case h1=>((try simp only[List.take_succ_cons,List.take_zero,List.drop_succ_cons,List.drop_zero,go_sem])<;>rfl));(case h2=>simp only[List.all_cons,List.all_nil,Bool.and_true,go_sem]))
  (repeat (with_reducible (first|refine U_nil ?_|refine UC_rg ?_|refine X_nx ?_|refine B_nx ?_|(refine U_q (v:=?_) ?h1 ?_;case h1=>((try simp only[q6,q7,q11,q20,q52,hap,hal,hes,hc8,hset,hw1,Int.toNat_natCast,List.take_succ_cons,List.take_zero,List.drop_succ_cons,List.drop_zero,go_sem])<;>rfl))|(refine U_sto (id:=?_) (i:=?_) (j:=?_) (q:=?_) (es:=?_) (cs:=?_) (vs:=?_) (es':=?_) ?h1 ?h2 ?h3 ?h4 ?h5 ?h6 ?h7 ?_;case h1|h2|h3|h4|h5|h6|h7=>((try simp only[q6,q7,q11,q20,q52,hap,hal,hes,hc8,hset,hw1,Int.toNat_natCast,List.take_succ_cons,List.take_zero,List.drop_succ_cons,List.drop_zero,go_sem])<;>rfl)))));have hle:es.length=((outL (togF l) (n+1)).map u4).length:=by rw[← hset,List.length_set]
  have hne:(outL (togF l) (n+1)).map u4≠[]:=fun h=>by rw[h,List.length_nil] at hle;omega
  refine⟨0,by omega,.inr ⟨rfl,⟨Z1 q0,Z1 q1,Z1 q5,by simp only[q6,go_sem];rw[ownV_ne hne,hle],Z1 q14,Z1 q13,Own.to (u4s_cls _)⟩,Z1 q15,Z1 q19,Z1 hw1⟩⟩
 ·have hd:decide ((1:Int) < 1)=false:=by decide
  dsimp only[b28_0];(repeat (with_reducible (first|refine U_nil ?_|refine UC_sq ?_|refine UC_rg ?_|refine UC_ex ?_|refine X_nx ?_|refine X_ex ?_|(refine U_q (v:=?_) ?h1 ?_;case h1=>((try simp only[r19,r20,hd,List.take_succ_cons,List.take_zero,List.drop_succ_cons,List.drop_zero,go_sem])<;>rfl))|(refine UC_cdf ?h1 ?_;case h1=>((try simp only[r19,r20,hd,List.take_succ_cons,List.take_zero,List.drop_succ_cons,List.drop_zero,go_sem])<;>rfl)))))
  exact⟨rfl,⟨Z1 r0,Z1 r1,Z1 r5,Z1 r6,Z1 r14,o13,ow⟩,Z1 r15⟩
set_option maxHeartbeats 1000000 in
theorem split_pu (l:List (Nat→Nat)) (hl:l.length≤256) (hw:∀ s∈l,W64 s):Pu F 28 [.sl [u4 fulS],.sl (l.map u4)] (.sl ((ptL l).map u4)):=by
 refine U_pure e28 rfl rfl (by simp only[go_sem,Bool.and_true];rfl) ?_;dsimp only[fn28,c28];(repeat (with_reducible (first|refine U_nil ?_|refine UC_sq ?_|refine UC_rg ?_|refine UC_bk ?_|refine X_nx ?_|((first|refine U_q (v:=?_) ?h1 ?_|refine U_ld (v:=?_) ?h1 ?_);case h1=>((try simp only[gl_all,List.take_succ_cons,List.take_zero,List.drop_succ_cons,List.drop_zero,go_sem])<;>rfl))|refine U_mkm ?_)));refine U_lp (fun r e o=>∃ n:Nat,n+r=256∧e 15=.i .i64 n∧Sp l n e o) (k:=256) ?_ (Call_le F) ?_
 ·exact⟨0,by omega,Zr0,Z0,Z0,Z0,Zr0,Z0,by simp only[go_sem];exact (sk_0 l).2,⟨rfl,fun h=>absurd rfl h⟩⟩
 rintro r e o ⟨n,hnr,r15,⟨r0,r1,r5,r6,r14,o13,ow⟩⟩;dsimp only[b28_1];by_cases hn:n < 256
 ·have hd:decide ((n:Int) < 256)=true:=decide_eq_true (by omega);have hw1:=wrap1 (i:=n) (by omega);(repeat (with_reducible (first|refine U_nil ?_|refine UC_sq ?_|refine UC_rg ?_|refine UC_bk ?_|refine UC_sk ?_|refine X_nx ?_|((first|refine U_q (v:=?_) ?h1 ?_|refine UC_cdt ?h1 ?_);case h1=>((try simp only[r0,r14,r15,hd,List.take_succ_cons,List.take_zero,List.drop_succ_cons,List.drop_zero,go_sem])<;>rfl)))));refine UC_cutx (fun e o=>Sp l (n+1) e o∧e 15=.i .i64 n) (split_in l hl hw hn _ _ ⟨Z1 r0,Z1 r1,Z1 r5,Z1 r6,Z1 r14,o13,ow⟩ (Z0) (Z1 r15) (Z0) (Zr0) (Z0)) ?_;clear r0 r1 r5 r6 r14 r15 o13 ow;rintro e o ⟨⟨r0,r1,r5,r6,r14,o13,ow⟩,r15⟩;(repeat (with_reducible (first|refine U_nil ?_|refine UC_rg ?_|refine X_nx ?_|refine B_nx ?_|(refine U_q (v:=?_) ?h1 ?_;case h1=>((try simp only[r15,hw1,List.take_succ_cons,List.take_zero,List.drop_succ_cons,List.drop_zero,go_sem])<;>rfl)))))
  exact⟨r - 1,by omega,n+1,by omega,Z0,Z1 r0,Z1 r1,Z1 r5,Z1 r6,Z1 r14,o13,ow⟩
 ·have hn:n=256:=by omega
  subst hn;have hd:decide (((256:Nat):Int) < 256)=false:=by decide
  (repeat (with_reducible (first|refine U_nil ?_|refine UC_sq ?_|refine UC_rg ?_|refine UC_ex ?_|refine UC_rt ?_|refine X_nx ?_|refine X_ex ?_|refine B_self ?_|((first|refine U_q (v:=?_) ?h1 ?_|refine E_1 (v:=?_) ?h1 ?_);case h1=>((try simp only[r6,r14,r15,hd,List.take_succ_cons,List.take_zero,List.drop_succ_cons,List.drop_zero,go_sem])<;>rfl))|(refine UC_cdf ?h1 ?_;case h1=>((try simp only[r6,r14,r15,hd,List.take_succ_cons,List.take_zero,List.drop_succ_cons,List.drop_zero,go_sem])<;>rfl)))));exact frzU_own 23 ow.h fun c hc v hv=>by
   obtain⟨x,_,rfl⟩:=List.mem_map.1 hc;simp only[u4,List.mem_cons,List.not_mem_nil,or_false] at hv;rcases hv with rfl|rfl|rfl|rfl<;>rfl
end Go.Proofs.YtpkmfoinpdnifaaDoor
namespace Go.Proofs.YtpkmfoinpdnifaaDoor
set_option linter.all false
attribute [-go_sem] swpOb renOb rfOb V.cells
theorem parts_pu (l:List (Nat→Nat)) (hl:l.length≤256) (hw:∀ s∈l,W64 s):Pu F 17 [.sl (l.map u4)] (.sl ((ptL l).map u4)):=by
 have hS:=split_pu l hl hw;refine U_pure e17 rfl rfl (by simp only[go_sem,Bool.and_true]) ?_;dsimp only[fn17,c17];(repeat (with_reducible (first|refine U_nil ?_|refine UC_sq ?_|refine UC_rg ?_|refine X_nx ?_|(refine U_q (v:=?_) ?h1 ?_;case h1=>((try simp only[List.take_succ_cons,List.take_zero,List.drop_succ_cons,List.drop_zero,go_sem])<;>rfl)))))
 (refine U_pcr (r:=.ag (u4 fulS)) range_pu ?h1 ?h2 rfl ?_;(case h1=>((try simp only[List.take_succ_cons,List.take_zero,List.drop_succ_cons,List.drop_zero,go_sem])<;>rfl));(case h2=>simp only[List.all_cons,List.all_nil,Bool.and_true,go_sem]))
 (repeat (with_reducible (first|refine U_nil ?_|refine UC_sq ?_|refine UC_bk ?_|refine X_nx ?_|(refine U_q (v:=?_) ?h1 ?_;case h1=>((try simp only[List.take_succ_cons,List.take_zero,List.drop_succ_cons,List.drop_zero,go_sem])<;>rfl)))));refine U_lp (fun r e o=>r=0∧e 0=.sl (l.map u4)∧e 3=.sl [u4 fulS]) (k:=0) ?_ (Call_le F) ?_
 ·exact⟨rfl,Z0,Z0⟩
 rintro r e o ⟨hr,r0,r3⟩;dsimp only[b17_0];have hd:decide ((l.length:Int) > 256)=false:=decide_eq_false (by omega);(repeat (with_reducible (first|refine U_nil ?_|refine UC_sq ?_|refine UC_rg ?_|refine UC_ex ?_|refine X_nx ?_|refine X_ex ?_|refine B_self ?_|((first|refine U_q (v:=?_) ?h1 ?_|refine U_ld (v:=?_) ?h1 ?_);case h1=>((try simp only[r0,r3,gl_all,hd,List.length_map,List.take_succ_cons,List.take_zero,List.drop_succ_cons,List.drop_zero,go_sem])<;>rfl))|(refine UC_cdf ?h1 ?_;case h1=>((try simp only[r0,r3,gl_all,hd,List.length_map,List.take_succ_cons,List.take_zero,List.drop_succ_cons,List.drop_zero,go_sem])<;>rfl)))))
 (refine U_pc (g:=28) (r:=.sl ((ptL l).map u4)) (vs:=?_) (ws:=?_) ?h1 ?h2 ?h3 ?h4 ?h5 ?_;(case h1=>((try simp only[r0,r3,List.take_succ_cons,List.take_zero,List.drop_succ_cons,List.drop_zero,go_sem])<;>rfl));(case h2=>refine fzsU_ok ?_;first|rfl|simp only[r0,r3,List.all_cons,List.all_nil,Bool.and_true,go_sem]);(case h5=>exact hS);(case h3=>first|exact Bool.or_eq_true_iff.2 (.inr rfl)|(refine Bool.or_eq_true_iff.2 (.inl ?_);simp only[clos,r0,r3,List.all_cons,List.all_nil,Bool.and_true,go_sem]));(case h4=>first|rfl|simp only[r0,r3,go_sem,Bool.and_true]))
 (repeat (with_reducible (first|refine U_nil ?_|refine UC_rt ?_|refine X_nx ?_|((first|refine U_q (v:=?_) ?h1 ?_|refine E_1 (v:=?_) ?h1 ?_);case h1=>((try simp only[List.take_succ_cons,List.take_zero,List.drop_succ_cons,List.drop_zero,go_sem])<;>rfl)))));exact fz_of rfl rfl
theorem together_pu (l:List (Nat→Nat)) (hl:l.length < 2147483648) (hw:∀ s∈l,W64 s) {a b:Nat} (ha:a < 256) (hb:b < 256):Pu F 19 [.sl (l.map u4),.i .i64 a,.i .i64 b] (.bo (togF l a b)):=by
 refine U_pure e19 rfl rfl (by simp only[go_sem,Bool.and_true]) ?_;dsimp only[fn19,c19];(repeat (with_reducible (first|refine U_nil ?_|refine UC_sq ?_|refine UC_rg ?_|refine UC_bk ?_|refine X_nx ?_|(refine U_q (v:=?_) ?h1 ?_;case h1=>((try simp only[List.take_succ_cons,List.take_zero,List.drop_succ_cons,List.drop_zero,go_sem])<;>rfl)))));refine U_lp (fun r e o=>∃ i:Nat,i+r=l.length∧(∀ j (h:j < l.length),j < i→bitOf l[j] a=bitOf l[j] b)∧e 0=.sl (l.map u4)∧e 1=.i .i64 a∧e 2=.i .i64 b∧e 7=.i .i64 i) (k:=l.length) ?_ (Call_le F) ?_
 ·exact⟨0,by omega,fun j _ hj=>by omega,Z0,Z0,Z0,Zr0⟩
 rintro r e o ⟨i,hir,hq,r0,r1,r2,r7⟩;dsimp only[b19_0];by_cases hi:i < l.length
 ·have hd:decide ((i:Int) < (l.length:Int))=true:=decide_eq_true (by omega);have hip:(0:Int)≤(i:Int):=by omega
  have hw1:=wrap1 (i:=i) (by omega);have gI:=u4s_at hi;have hA:=rhas_pu l[i] (hw _ (List.getElem_mem hi)) a ha;have hB:=rhas_pu l[i] (hw _ (List.getElem_mem hi)) b hb;(repeat (with_reducible (first|refine U_nil ?_|refine UC_sq ?_|refine UC_rg ?_|refine UC_bk ?_|refine UC_sk ?_|refine X_nx ?_|((first|refine U_q (v:=?_) ?h1 ?_|refine U_ld (v:=?_) ?h1 ?_|refine UC_cdt ?h1 ?_);case h1=>((try simp only[r0,r1,r2,r7,hd,hip,gI,Int.toNat_natCast,List.length_map,List.take_succ_cons,List.take_zero,List.drop_succ_cons,List.drop_zero,go_sem])<;>rfl)))))
  (refine U_pcr (r:=.bo (bitOf l[i] a)) hA ?h1 ?h2 rfl ?_;(case h1=>((try simp only[List.take_succ_cons,List.take_zero,List.drop_succ_cons,List.drop_zero,go_sem])<;>rfl));(case h2=>simp only[List.all_cons,List.all_nil,Bool.and_true,go_sem]))
  (refine U_pcr (r:=.bo (bitOf l[i] b)) hB ?h1 ?h2 rfl ?_;(case h1=>((try simp only[List.take_succ_cons,List.take_zero,List.drop_succ_cons,List.drop_zero,go_sem])<;>rfl));(case h2=>simp only[List.all_cons,List.all_nil,Bool.and_true,go_sem]))
  by_cases hab:bitOf l[i] a=bitOf l[i] b
  ·have c1:((bitOf l[i] a==bitOf l[i] b) != true)=false:=by simp [hab]
   (repeat (with_reducible (first|refine U_nil ?_|refine UC_rg ?_|refine UC_sk ?_|refine X_nx ?_|refine B_nx ?_|(refine U_q (v:=?_) ?h1 ?_;case h1=>((try simp only[r7,hw1,c1,List.take_succ_cons,List.take_zero,List.drop_succ_cons,List.drop_zero,go_sem])<;>rfl))|(refine UC_cdf ?h1 ?_;case h1=>((try simp only[r7,hw1,c1,List.take_succ_cons,List.take_zero,List.drop_succ_cons,List.drop_zero,go_sem])<;>rfl)))))
   refine⟨r - 1,by omega,i+1,by omega,fun j h hj=>?_,Z1 r0,Z1 r1,Z1 r2,Z0⟩
   by_cases hji:j=i
   ·subst hji;exact hab
   ·exact hq j h (by omega)
  ·have c1:((bitOf l[i] a==bitOf l[i] b) != true)=true:=by simpa using hab
   have ht:togF l a b=false:=by
    cases h:togF l a b with
    | false=>rfl
    | true=>exact absurd (tog_iff.1 h _ (List.getElem_mem hi)) hab
   (repeat (with_reducible (first|refine U_nil ?_|refine UC_sq ?_|refine UC_rg ?_|refine UC_rt ?_|refine X_nx ?_|refine X_rt ?_|refine B_rt ?_|((first|refine U_q (v:=?_) ?h1 ?_|refine E_1 (v:=?_) ?h1 ?_|refine UC_cdt ?h1 ?_);case h1=>((try simp only[c1,List.take_succ_cons,List.take_zero,List.drop_succ_cons,List.drop_zero,go_sem])<;>rfl)))));rw[ht];exact fz_of rfl rfl
 ·have hd:decide ((i:Int) < (l.length:Int))=false:=decide_eq_false (by omega);have ht:togF l a b=true:=tog_iff.2 fun s hs=>by
   obtain⟨j,hj,rfl⟩:=List.mem_iff_getElem.1 hs;exact hq j hj (by omega)
  (repeat (with_reducible (first|refine U_nil ?_|refine UC_sq ?_|refine UC_rg ?_|refine UC_ex ?_|refine UC_rt ?_|refine X_nx ?_|refine X_ex ?_|refine B_self ?_|((first|refine U_q (v:=?_) ?h1 ?_|refine E_1 (v:=?_) ?h1 ?_);case h1=>((try simp only[r0,r7,hd,List.length_map,List.take_succ_cons,List.take_zero,List.drop_succ_cons,List.drop_zero,go_sem])<;>rfl))|(refine UC_cdf ?h1 ?_;case h1=>((try simp only[r0,r7,hd,List.length_map,List.take_succ_cons,List.take_zero,List.drop_succ_cons,List.drop_zero,go_sem])<;>rfl)))));rw[ht];exact fz_of rfl rfl
def bls (f:Nat→Bool):List V:=(List.range 256).map fun i=>V.bo (f i)
theorem bls_len (f:Nat→Bool):(bls f).length=256:=by simp [bls]
theorem bls_sw (d:Nat) (f:Nat→Bool):swpL d (bls f)=bls f:=by
 have:∀ l:List Nat,swpL d (l.map fun i=>V.bo (f i))=l.map fun i=>V.bo (f i):=fun l=>by
  induction l with
  | nil=>rfl
  | cons a l ih=>simp only[List.map_cons,swpL,swp,ih]
 exact this _
theorem bls_cl (f:Nat→Bool):cldL (bls f)=true:=by
 have:∀ l:List Nat,cldL (l.map fun i=>V.bo (f i))=true:=fun l=>by
  induction l with
  | nil=>rfl
  | cons a l ih=>simp only[List.map_cons,cldL,cld,ih,Bool.and_true]
 exact this _
theorem bls_okf (f:Nat→Bool):okf FZ (.ag (bls f))=true:=by
 show (bls f).all (okf 23)=true;rw[List.all_eq_true];intro v hv;obtain⟨i,_,rfl⟩:=List.mem_map.1 hv;rfl
theorem bls_clo (f:Nat→Bool):clo FZ (.ag (bls f))=true:=by
 show (bls f).all (clo 23)=true;rw[List.all_eq_true];intro v hv;obtain⟨i,_,rfl⟩:=List.mem_map.1 hv;rfl
attribute [go_sem] bls_len bls_sw bls_cl bls_okf bls_clo
end Go.Proofs.YtpkmfoinpdnifaaDoor
namespace Go.Proofs.YtpkmfoinpdnifaaDoor
set_option linter.all false
attribute [-go_sem] swpOb renOb rfOb V.cells
attribute [go_sem] rp_len
def dF (T:Nat→Nat→Bool) (a x:Nat):Bool:=(List.range a).any fun c=>newB T c&&(decide (c≤x)&&T c x)
def inF (T:Nat→Nat→Bool) (a x:Nat):Bool:=decide (a≤x)&&T a x
def rpL (T:Nat→Nat→Bool) (a:Nat):List (List V):=((repsN T a).map (pcl T 256)).map u4
structure Rp (l:List (Nat→Nat)) (a:Nat) (L:List (List V)) (f g:Nat→Bool) (e:E) (o:O):Prop where
 e0:e 0=.sl (l.map u4)
 e3:e 3=ownV 32 4 L
 e4:e 4=.pt 4 0 0
 e5:e 5=.i .i64 a
 e6:e 6=.pt 6 0 0
 o4:o 4=some (.row 256 [bls f])
 o6:o 6=some (.row 256 [bls g])
 ow:Own o 32 4 L
end Go.Proofs.YtpkmfoinpdnifaaDoor
namespace Go.Proofs.YtpkmfoinpdnifaaDoor
set_option linter.all false
attribute [-go_sem] swpOb renOb rfOb V.cells
def setsL (As:List Au):List (Nat→Nat):=As.flatMap fun A=>A.sets.drop 1
theorem sets_len {As:List Au} (h:∀ A∈As,A.sets.length≤41):(setsL As).length≤As.length*40:=by
 induction As with
 | nil=>simp [setsL]
 | cons A As ih =>
  have h1:=h A (List.mem_cons_self ..);have h2:=ih fun B hB=>h B (List.mem_cons_of_mem _ hB);simp only[setsL,List.flatMap_cons,List.length_append,List.length_drop,List.length_cons] at h2 ⊢;omega
theorem sets_w {As:List Au} (h:∀ A∈As,∀ s∈A.sets,W64 s):∀ s∈setsL As,W64 s:=fun s hs=>by
 obtain⟨A,hA,hm⟩:=List.mem_flatMap.1 hs;exact h A hA s (List.mem_of_mem_drop hm)
theorem sets_succ {As:List Au} {i:Nat} (hi:i < As.length):setsL (As.take (i+1))=setsL (As.take i)++As[i].sets.drop 1:=by
 rw[setsL,setsL,List.take_add_one,List.getElem?_eq_getElem hi,Option.toList_some,List.flatMap_append,List.flatMap_cons,List.flatMap_nil,List.append_nil]
theorem aus_at {As:List Au} {i:Nat} (h:i < As.length):(As.map auC)[i]?=some (auC As[i]):=by rw[List.getElem?_map,List.getElem?_eq_getElem h];rfl
theorem aus_cl (As:List Au):cldLL (As.map auC)=true:=cldLL_map (fun A=>by obtain⟨⟨ak,as_,ap,al,ah⟩,S,Cs,R,Fi,Mo,La,Em⟩:=A;simp only[go_sem,Bool.and_true]) As
theorem u4s_okf {l:List (Nat→Nat)}:∀ c∈l.map u4,∀ v∈c,∀ n,okf (n+1) v=true:=fun c hc v hv n=>by
 obtain⟨x,_,rfl⟩:=List.mem_map.1 hc;simp only[u4,List.mem_cons,List.not_mem_nil,or_false] at hv;rcases hv with rfl|rfl|rfl|rfl<;>rfl
set_option maxHeartbeats 2000000 in
theorem rsets_pu (As:List Au) (hl:As.length≤100) (hn:∀ A∈As,A.sets.length≤41):Pu F 9 [.sl (As.map auC)] (.sl ((setsL As).map u4)):=by
 refine U_pure e9 rfl rfl (by simp only[go_sem,Bool.and_true,aus_cl]) ?_;dsimp only[fn9,c9];(repeat (with_reducible (first|refine U_nil ?_|refine UC_sq ?_|refine UC_rg ?_|refine UC_bk ?_|refine X_nx ?_|(refine U_q (v:=?_) ?h1 ?_;case h1=>((try simp only[List.take_succ_cons,List.take_zero,List.drop_succ_cons,List.drop_zero,go_sem])<;>rfl)))));refine U_lp (fun r e o=>∃ i:Nat,i+r=As.length∧e 0=.sl (As.map auC)∧e 3=ownV 34 4 ((setsL (As.take i)).map u4)∧e 4=.i .i64 i∧Own o 34 4 ((setsL (As.take i)).map u4)) (k:=As.length) ?_ (Call_le F) ?_
 ·exact⟨0,by omega,Z0,Zr0,Zr0,⟨rfl,fun h=>absurd rfl h⟩⟩
 rintro r e o ⟨i,hir,r0,r3,r4,ow⟩;dsimp only[b9_1];by_cases hi:i < As.length
 ·have hd:decide ((i:Int) < (As.length:Int))=true:=decide_eq_true (by omega);have hip:(0:Int)≤(i:Int):=by omega
  have hw1:=wrap1 (i:=i) (by omega);have gI:=aus_at hi;have hS:=sets_succ hi;have hnA:=hn _ (List.getElem_mem hi);have hbl:=sets_len (As:=As.take i) fun A hA=>hn A (List.mem_of_mem_take hA);have htl:(As.take i).length≤100:=by rw[List.length_take];omega
  generalize As[i]=A at gI hS hnA;generalize setsL (As.take i)=L0 at r3 ow hS hbl;(repeat (with_reducible (first|refine U_nil ?_|refine UC_sq ?_|refine UC_rg ?_|refine UC_bk ?_|refine UC_sk ?_|refine X_nx ?_|((first|refine U_q (v:=?_) ?h1 ?_|refine UC_cdt ?h1 ?_);case h1=>((try simp only[r0,r4,hd,List.length_map,List.take_succ_cons,List.take_zero,List.drop_succ_cons,List.drop_zero,go_sem])<;>rfl)))));refine UC_cutx (fun e o=>e 0=.sl (As.map auC)∧e 3=ownV 34 4 ((L0++A.sets.drop 1).map u4)∧e 4=.i .i64 i∧Own o 34 4 ((L0++A.sets.drop 1).map u4)) ?_ ?_
  ·refine U_lp (fun q e o=>∃ k:Nat,k+q=(A.sets.drop 1).length∧e 0=.sl (As.map auC)∧e 3=ownV 34 4 ((L0++(A.sets.drop 1).take k).map u4)∧e 4=.i .i64 i∧e 5=.i .i64 ((k+1:Nat):Int)∧Own o 34 4 ((L0++(A.sets.drop 1).take k).map u4)) (k:=(A.sets.drop 1).length) ?_ (Call_le F) ?_
   ·exact⟨0,by omega,Z1 r0,by simp only[r3,List.append_nil,List.take_zero,go_sem],Z1 r4,Zr0,by rw[List.take_zero,List.append_nil];exact ow⟩
   clear r0 r3 r4 ow;rintro q e o ⟨k,hkq,r0,r3,r4,r5,ow⟩;dsimp only[b9_0];rw[List.length_drop] at hkq;by_cases hk:k+1 < A.sets.length
   ·have hd2:decide (((k+1:Nat):Int) < (A.sets.length:Int))=true:=decide_eq_true (by omega);have hkp:(0:Int)≤((k+1:Nat):Int):=by omega
    have hw2:=wrap1 (i:=k+1) (by omega);have gK:=u4s_at hk;have hT:(A.sets.drop 1).take (k+1)=(A.sets.drop 1).take k++[A.sets[k+1]]:=by
     rw[List.take_add_one,List.getElem?_drop,show 1+k=k+1 by omega,List.getElem?_eq_getElem hk];rfl
    generalize A.sets[k+1]=s at gK hT;have hll:(L0++(A.sets.drop 1).take k).length≤8100:=by rw[List.length_append,List.length_take,List.length_drop];omega
    (repeat (with_reducible (first|refine U_nil ?_|refine UC_sq ?_|refine UC_rg ?_|refine UC_bk ?_|refine UC_sk ?_|refine X_nx ?_|((first|refine U_q (v:=?_) ?h1 ?_|refine U_ld (v:=?_) ?h1 ?_|refine UC_cdt ?h1 ?_);case h1=>((try simp only[r0,r3,r4,r5,gI,gK,hd2,hip,hkp,Int.toNat_natCast,List.length_map,List.take_succ_cons,List.take_zero,List.drop_succ_cons,List.drop_zero,go_sem])<;>rfl)))));refine U_appo 34 (L:=(L0++(A.sets.drop 1).take k).map u4) (ys:=[u4 s]) (Z1 r3) ow.h (by simp only[src,List.take_succ_cons,List.take_zero,List.drop_succ_cons,List.drop_zero,go_sem]) (by simp [u4_len]) (by simp) (by omega) ⟨by simp at hll ⊢;omega,by omega⟩ (swpR_cls _ ow.c) rfl ?_;have e2:(L0++(A.sets.drop 1).take k).map u4++[u4 s]=(L0++(A.sets.drop 1).take (k+1)).map u4:=by rw[hT];simp
    rw[e2];(repeat (with_reducible (first|refine U_nil ?_|refine UC_rg ?_|refine X_nx ?_|refine B_nx ?_|(refine U_q (v:=?_) ?h1 ?_;case h1=>((try simp only[r5,hw2,List.take_succ_cons,List.take_zero,List.drop_succ_cons,List.drop_zero,go_sem])<;>rfl)))))
    exact⟨q - 1,by omega,k+1,by rw[List.length_drop];omega,Z1 r0,Z0,Z1 r4,Z0,Own.to (u4s_cls _)⟩
   ·have hd2:decide (((k+1:Nat):Int) < (A.sets.length:Int))=false:=decide_eq_false (by omega);have hkp:(0:Int)≤((k+1:Nat):Int):=by omega
    rw[List.take_of_length_le (by rw[List.length_drop];omega)] at r3 ow;(repeat (with_reducible (first|refine U_nil ?_|refine UC_sq ?_|refine UC_rg ?_|refine UC_ex ?_|refine X_nx ?_|refine X_ex ?_|((first|refine U_q (v:=?_) ?h1 ?_|refine U_ld (v:=?_) ?h1 ?_);case h1=>((try simp only[r0,r4,r5,gI,hd2,hip,Int.toNat_natCast,List.length_map,List.take_succ_cons,List.take_zero,List.drop_succ_cons,List.drop_zero,go_sem])<;>rfl))|(refine UC_cdf ?h1 ?_;case h1=>((try simp only[r0,r4,r5,gI,hd2,hip,Int.toNat_natCast,List.length_map,List.take_succ_cons,List.take_zero,List.drop_succ_cons,List.drop_zero,go_sem])<;>rfl)))))
    exact⟨rfl,Z1 r0,Z1 r3,Z1 r4,ow⟩
  clear r0 r3 r4 ow;rintro e o ⟨r0,r3,r4,ow⟩;rw[← hS] at r3 ow;(repeat (with_reducible (first|refine U_nil ?_|refine UC_rg ?_|refine X_nx ?_|refine B_nx ?_|(refine U_q (v:=?_) ?h1 ?_;case h1=>((try simp only[r4,hw1,List.take_succ_cons,List.take_zero,List.drop_succ_cons,List.drop_zero,go_sem])<;>rfl)))))
  exact⟨r - 1,by omega,i+1,by omega,Z1 r0,Z1 r3,Z0,ow⟩
 ·have hd:decide ((i:Int) < (As.length:Int))=false:=decide_eq_false (by omega);rw[List.take_of_length_le (by omega)] at r3 ow;(repeat (with_reducible (first|refine U_nil ?_|refine UC_sq ?_|refine UC_rg ?_|refine UC_ex ?_|refine UC_rt ?_|refine X_nx ?_|refine X_ex ?_|refine B_self ?_|((first|refine U_q (v:=?_) ?h1 ?_|refine E_1 (v:=?_) ?h1 ?_);case h1=>((try simp only[r0,r3,r4,hd,List.length_map,List.take_succ_cons,List.take_zero,List.drop_succ_cons,List.drop_zero,go_sem])<;>rfl))|(refine UC_cdf ?h1 ?_;case h1=>((try simp only[r0,r3,r4,hd,List.length_map,List.take_succ_cons,List.take_zero,List.drop_succ_cons,List.drop_zero,go_sem])<;>rfl)))));exact frzU_own 23 ow.h fun c hc v hv=>u4s_okf c hc v hv 22
set_option maxHeartbeats 1000000 in
theorem rplain_pu (As:List Au) (hl:As.length≤100) (hn:∀ A∈As,A.sets.length≤41) (hw:∀ A∈As,∀ s∈A.sets,W64 s) {b:Nat} (hb:b < 256):Pu F 12 [.sl (As.map auC),.i .i64 b] (.i .i64 (plF (togF (setsL As)) b)):=by
 have hS:=rsets_pu As hl hn;have hln:=sets_len hn;have hws:=sets_w hw;generalize setsL As=l at hS hln hws;refine U_pure e12 rfl rfl (by simp only[go_sem,Bool.and_true,aus_cl]) ?_;dsimp only[fn12,c12];(repeat (with_reducible (first|refine U_nil ?_|refine UC_sq ?_|refine UC_rg ?_|refine X_nx ?_|(refine U_q (v:=?_) ?h1 ?_;case h1=>((try simp only[List.take_succ_cons,List.take_zero,List.drop_succ_cons,List.drop_zero,go_sem])<;>rfl)))))
 (refine U_pc (g:=9) (r:=.sl (l.map u4)) (vs:=?_) (ws:=?_) ?h1 ?h2 ?h3 ?h4 ?h5 ?_;(case h1=>((try simp only[List.take_succ_cons,List.take_zero,List.drop_succ_cons,List.drop_zero,go_sem])<;>rfl));(case h2=>refine fzsU_ok ?_;first|rfl|simp only[List.all_cons,List.all_nil,Bool.and_true,go_sem]);(case h5=>exact hS);(case h3=>first|exact Bool.or_eq_true_iff.2 (.inr rfl)|(refine Bool.or_eq_true_iff.2 (.inl ?_);simp only[clos,List.all_cons,List.all_nil,Bool.and_true,go_sem]));(case h4=>first|rfl|simp only[go_sem,Bool.and_true]))
 (repeat (with_reducible (first|refine U_nil ?_|refine UC_sq ?_|refine UC_rg ?_|refine UC_bk ?_|refine X_nx ?_|(refine U_q (v:=?_) ?h1 ?_;case h1=>((try simp only[List.take_succ_cons,List.take_zero,List.drop_succ_cons,List.drop_zero,go_sem])<;>rfl)))));refine U_lp (fun r e o=>∃ a:Nat,a+r=b∧(∀ j,j < a→togF l j b=false)∧e 1=.i .i64 b∧e 5=.sl (l.map u4)∧e 6=.i .i64 a) (k:=b) ?_ (Call_le F) ?_
 ·exact⟨0,by omega,fun j hj=>by omega,Z0,Z0,Zr0⟩
 rintro r e o ⟨a,har,hq,r1,r5,r6⟩;dsimp only[b12_0];by_cases ha:a < b
 ·have hd:decide ((a:Int) < (b:Int))=true:=decide_eq_true (by omega);have hw1:=wrap1 (i:=a) (by omega);have hT:=together_pu l (by omega) hws (a:=a) (b:=b) (by omega) hb;(repeat (with_reducible (first|refine U_nil ?_|refine UC_sq ?_|refine UC_rg ?_|refine UC_bk ?_|refine UC_sk ?_|refine X_nx ?_|((first|refine U_q (v:=?_) ?h1 ?_|refine UC_cdt ?h1 ?_);case h1=>((try simp only[r1,r5,r6,hd,List.take_succ_cons,List.take_zero,List.drop_succ_cons,List.drop_zero,go_sem])<;>rfl)))));cases ht:togF l a b with
  | true =>
   rw[ht] at hT;have he:plF (togF l) b=a:=by
    have:(List.range b).find? (fun a=>togF l a b)=some a:=by
     rw[List.find?_range_eq_some]
     exact⟨ht,List.mem_range.2 ha,fun j hj=>by rw[hq j hj];rfl⟩
    rw[plF,this];rfl
   (refine U_pcr (r:=.bo true) hT ?h1 ?h2 rfl ?_;(case h1=>((try simp only[r1,r5,r6,List.take_succ_cons,List.take_zero,List.drop_succ_cons,List.drop_zero,go_sem])<;>rfl));(case h2=>simp only[r1,r5,r6,List.all_cons,List.all_nil,Bool.and_true,go_sem]))
   (repeat (with_reducible (first|refine U_nil ?_|refine UC_sq ?_|refine UC_rg ?_|refine UC_rt ?_|refine X_nx ?_|refine X_rt ?_|refine B_rt ?_|((first|refine U_q (v:=?_) ?h1 ?_|refine E_1 (v:=?_) ?h1 ?_|refine UC_cdt ?h1 ?_);case h1=>((try simp only[r6,List.take_succ_cons,List.take_zero,List.drop_succ_cons,List.drop_zero,go_sem])<;>rfl)))));rw[he];exact fz_of rfl rfl
  | false =>
   rw[ht] at hT
   (refine U_pcr (r:=.bo false) hT ?h1 ?h2 rfl ?_;(case h1=>((try simp only[r1,r5,r6,List.take_succ_cons,List.take_zero,List.drop_succ_cons,List.drop_zero,go_sem])<;>rfl));(case h2=>simp only[r1,r5,r6,List.all_cons,List.all_nil,Bool.and_true,go_sem]))
   (repeat (with_reducible (first|refine U_nil ?_|refine UC_rg ?_|refine UC_sk ?_|refine X_nx ?_|refine B_nx ?_|(refine U_q (v:=?_) ?h1 ?_;case h1=>((try simp only[r6,hw1,List.take_succ_cons,List.take_zero,List.drop_succ_cons,List.drop_zero,go_sem])<;>rfl))|(refine UC_cdf ?h1 ?_;case h1=>((try simp only[r6,hw1,List.take_succ_cons,List.take_zero,List.drop_succ_cons,List.drop_zero,go_sem])<;>rfl)))))
   refine⟨r - 1,by omega,a+1,by omega,fun j hj=>?_,Z1 r1,Z1 r5,Z0⟩
   by_cases h:j=a
   ·rw[h];exact ht
   ·exact hq j (by omega)
 ·have hd:decide ((a:Int) < (b:Int))=false:=decide_eq_false (by omega);have he:plF (togF l) b=b:=by
   have:(List.range b).find? (fun a=>togF l a b)=none:=by
    rw[List.find?_range_eq_none];exact fun j hj=>by rw[hq j (by omega)];rfl
   rw[plF,this];rfl
  (repeat (with_reducible (first|refine U_nil ?_|refine UC_sq ?_|refine UC_rg ?_|refine UC_ex ?_|refine UC_rt ?_|refine X_nx ?_|refine X_ex ?_|refine B_self ?_|((first|refine U_q (v:=?_) ?h1 ?_|refine E_1 (v:=?_) ?h1 ?_);case h1=>((try simp only[r1,r6,hd,List.take_succ_cons,List.take_zero,List.drop_succ_cons,List.drop_zero,go_sem])<;>rfl))|(refine UC_cdf ?h1 ?_;case h1=>((try simp only[r1,r6,hd,List.take_succ_cons,List.take_zero,List.drop_succ_cons,List.drop_zero,go_sem])<;>rfl)))));rw[he];exact fz_of rfl rfl
end Go.Proofs.YtpkmfoinpdnifaaDoor
namespace Go.Proofs.YtpkmfoinpdnifaaDoor
set_option linter.all false
attribute [-go_sem] swpOb renOb rfOb V.cells
def ins (f:Nat→Nat):List V:=(List.range 256).map fun i=>V.i .i64 (f i:Nat)
theorem ins_len (f:Nat→Nat):(ins f).length=256:=by simp [ins]
theorem ins_get (f:Nat→Nat) {i:Nat} (h:i < 256):(ins f)[i]?=some (.i .i64 (f i:Nat)):=by simp [ins,h]
theorem ins_cg {f g:Nat→Nat} (h:∀ i,i < 256→f i=g i):ins f=ins g:=by
 unfold ins;exact List.map_congr_left fun i hi=>by rw[h i (List.mem_range.1 hi)]
theorem ins_sw (d:Nat) (f:Nat→Nat):swpL d (ins f)=ins f:=by
 have:∀ l:List Nat,swpL d (l.map fun i=>V.i .i64 (f i:Nat))=l.map fun i=>V.i .i64 (f i:Nat):=fun l=>by
  induction l with
  | nil=>rfl
  | cons a l ih=>simp only[List.map_cons,swpL,swp,ih]
 exact this _
theorem ins_cl (f:Nat→Nat):cldL (ins f)=true:=by
 have:∀ l:List Nat,cldL (l.map fun i=>V.i .i64 (f i:Nat))=true:=fun l=>by
  induction l with
  | nil=>rfl
  | cons a l ih=>simp only[List.map_cons,cldL,cld,ih,Bool.and_true]
 exact this _
theorem ins_okf (f:Nat→Nat) (P:List (List V)):okf FZ (.ag (.sl P::ins f))=true:=by
 show (V.sl P::ins f).all (okf 23)=true;rw[List.all_eq_true];intro v hv;rcases List.mem_cons.1 hv with rfl|hv
 ·rfl
 ·obtain⟨i,_,rfl⟩:=List.mem_map.1 hv;rfl
theorem ins_clo (f:Nat→Nat) (P:List (List V)):clo FZ (.ag (.sl P::ins f))=true:=by
 show (V.sl P::ins f).all (clo 23)=true;rw[List.all_eq_true];intro v hv;rcases List.mem_cons.1 hv with rfl|hv
 ·rfl
 ·obtain⟨i,_,rfl⟩:=List.mem_map.1 hv;rfl
theorem ins_tk (f:Nat→Nat):List.take 256 (ins f)=ins f:=List.take_of_length_le (by rw[ins_len];omega)
theorem rp_ins:rp 256 (.i .i64 0)=ins fun _=>0:=by
 apply List.ext_getElem?;intro i;by_cases h:i < 256
 ·rw[rp_get _ h,ins_get _ h];rfl
 ·rw[List.getElem?_eq_none (by rw[rp_len];omega),List.getElem?_eq_none (by rw[ins_len];omega)]
theorem spl_set (v:V):∀ (n:Nat) (l:List V),n < l.length→splice n [v] l=l.set n v
 | 0,y::z,_=>by cases z<;>rfl
 | n+1,y::z,h=>by simp only[splice,List.set_cons_succ];rw[spl_set v n z (by simpa using h)]
 | _,[],h=>by simp at h
theorem spl_all:∀ (a z:List V),a.length=z.length→splice 0 a z=a
 | [],[],_=>rfl
 | a::l,y::z,h=>by simp only[splice];rw[spl_all l z (by simpa using h)]
 | [],_::_,h=>by simp at h
 | _::_,[],h=>by simp at h
theorem ins_spl (f:Nat→Nat) (P:V) (k:Nat) {i:Nat} (h:i < 256):splice (1+i) [.i .i64 (k:Nat)] (P::ins f)=P::ins fun x=>if x=i then k else f x:=by
 rw[spl_set _ _ _ (by rw[List.length_cons,ins_len];omega),Nat.add_comm 1 i,List.set_cons_succ];congr 1;apply List.ext_getElem?;intro j;rw[List.getElem?_set,ins_len];by_cases hj:j < 256
 ·rw[ins_get _ hj,ins_get _ hj];by_cases hij:i=j
  ·subst hij;simp [h]
  ·simp [hij,Ne.symm hij]
 ·rw[List.getElem?_eq_none (by rw[ins_len];omega),List.getElem?_eq_none (by rw[ins_len];omega)];by_cases hij:i=j
  ·omega
  ·simp [hij]
theorem spl_ins (f g:Nat→Nat) (P Q:V):splice 0 (P::ins f) (Q::ins g)=P::ins f:=spl_all _ _ (by rw[List.length_cons,List.length_cons,ins_len,ins_len])
theorem insL_sw (d:Nat) (f:Nat→Nat) (P:List (List V)):swpL d (.sl P::ins f)=.sl P::ins f:=by simp only[swpL,swp,ins_sw]
theorem ins_spl0 (f g:Nat→Nat):splice 0 (ins f) (ins g)=ins f:=spl_all _ _ (by rw[ins_len,ins_len])
attribute [go_sem] ins_spl0 ins_len ins_sw ins_cl ins_okf ins_clo ins_tk spl_ins rp_ins insL_sw
theorem fz_ins {o:O} (f:Nat→Nat) (P:List (List V)):fzU o (.ag (.sl P::ins f))=some (.ag (.sl P::ins f)):=fzU_ok (ins_okf f P)
def byF (l:List (Nat→Nat)) (i:Int):Option Nat:=if 0≤i then (match l[i.toNat]? with|some s=>leastF (bitOf s)|none=>none) else none
theorem byte_pu (l:List (Nat→Nat)) (hl:l.length < 2147483648) (hw:∀ s∈l,W64 s) (f:Nat→Nat) (i:Int):Pu F 10 [.ag (.sl (l.map u4)::ins f),.i .i64 i] (lstV (byF l i)):=by
 refine U_pure e10 rfl rfl (by simp only[go_sem,Bool.and_true]) ?_;dsimp only[fn10,c10];by_cases h0:i < 0
 ·have c1:decide (i < 0)=true:=decide_eq_true h0;have he:byF l i=none:=by rw[byF,if_neg (by omega)]
  (repeat (with_reducible (first|refine U_nil ?_|refine UC_sq ?_|refine UC_rg ?_|refine UC_rt ?_|refine X_nx ?_|refine X_rt ?_|((first|refine U_q (v:=?_) ?h1 ?_|refine UC_cdt ?h1 ?_);case h1=>((try simp only[c1,List.take_succ_cons,List.take_zero,List.drop_succ_cons,List.drop_zero,go_sem])<;>rfl))|(refine U_box (cs:=?_) (cs':=?_) (n:=?_) ?h1 ?h2 ?h3 ?h4 ?_;case h1|h2|h3|h4=>((try simp only[c1,List.take_succ_cons,List.take_zero,List.drop_succ_cons,List.drop_zero,go_sem])<;>rfl))|(refine U_gs1 ?h1 ?_;case h1=>((try simp only[c1,List.take_succ_cons,List.take_zero,List.drop_succ_cons,List.drop_zero,go_sem])<;>rfl))|(refine E_2 (v:=?_) (u:=?_) ?h1 ?h2 ?_;case h1|h2=>((try simp only[c1,List.take_succ_cons,List.take_zero,List.drop_succ_cons,List.drop_zero,go_sem])<;>rfl)))));rw[he];exact fz_of rfl rfl
 ·have c1:decide (i < 0)=false:=decide_eq_false h0;by_cases h1:i.toNat < l.length
  ·have c2:decide (i≥(l.length:Int))=false:=decide_eq_false (by omega);have hip:(0:Int)≤i:=by omega
   have gI:=u4s_at h1;have hL:=least_pu l[i.toNat] (hw _ (List.getElem_mem h1));have he:byF l i=leastF (bitOf l[i.toNat]):=by rw[byF,if_pos hip,List.getElem?_eq_getElem h1]
   rw[he];generalize l[i.toNat]=s at gI hL;generalize leastF (bitOf s)=x at hL;have hL:Pu F 21 [.ag (u4 s)] (.tp [.i .u8 (x.getD 0:Nat),.bo x.isSome]):=hL;(repeat (with_reducible (first|refine U_nil ?_|refine UC_sq ?_|refine UC_rg ?_|refine UC_sk ?_|refine X_nx ?_|((first|refine U_q (v:=?_) ?h1 ?_|refine U_ld (v:=?_) ?h1 ?_|refine U_gt ?h1 ?_);case h1=>((try simp only[c1,c2,hip,gI,List.length_map,List.take_succ_cons,List.take_zero,List.drop_succ_cons,List.drop_zero,go_sem])<;>rfl))|(refine U_box (cs:=?_) (cs':=?_) (n:=?_) ?h1 ?h2 ?h3 ?h4 ?_;case h1|h2|h3|h4=>((try simp only[c1,c2,hip,gI,List.length_map,List.take_succ_cons,List.take_zero,List.drop_succ_cons,List.drop_zero,go_sem])<;>rfl))|(refine UC_cdf ?h1 ?_;case h1=>((try simp only[c1,c2,hip,gI,List.length_map,List.take_succ_cons,List.take_zero,List.drop_succ_cons,List.drop_zero,go_sem])<;>rfl)))))
   (refine U_pcr (r:=.tp [.i .u8 (x.getD 0:Nat),.bo x.isSome]) hL ?h1 ?h2 rfl ?_;(case h1=>((try simp only[List.take_succ_cons,List.take_zero,List.drop_succ_cons,List.drop_zero,go_sem])<;>rfl));(case h2=>simp only[List.all_cons,List.all_nil,Bool.and_true,go_sem]))
   (repeat (with_reducible (first|refine U_nil ?_|refine UC_rt ?_|refine X_nx ?_|(refine U_q (v:=?_) ?h1 ?_;case h1=>((try simp only[List.take_succ_cons,List.take_zero,List.drop_succ_cons,List.drop_zero,go_sem])<;>rfl))|(refine E_2 (v:=?_) (u:=?_) ?h1 ?h2 ?_;case h1|h2=>((try simp only[List.take_succ_cons,List.take_zero,List.drop_succ_cons,List.drop_zero,go_sem])<;>rfl)))));exact fz_of rfl rfl
  ·have c2:decide (i≥(l.length:Int))=true:=decide_eq_true (by omega);have he:byF l i=none:=by rw[byF,if_pos (by omega),List.getElem?_eq_none (by omega)]
   (repeat (with_reducible (first|refine U_nil ?_|refine UC_sq ?_|refine UC_rg ?_|refine UC_rt ?_|refine X_nx ?_|refine X_rt ?_|((first|refine U_q (v:=?_) ?h1 ?_|refine U_ld (v:=?_) ?h1 ?_|refine U_gt ?h1 ?_|refine UC_cdt ?h1 ?_);case h1=>((try simp only[c1,c2,List.length_map,List.take_succ_cons,List.take_zero,List.drop_succ_cons,List.drop_zero,go_sem])<;>rfl))|(refine U_box (cs:=?_) (cs':=?_) (n:=?_) ?h1 ?h2 ?h3 ?h4 ?_;case h1|h2|h3|h4=>((try simp only[c1,c2,List.length_map,List.take_succ_cons,List.take_zero,List.drop_succ_cons,List.drop_zero,go_sem])<;>rfl))|(refine E_2 (v:=?_) (u:=?_) ?h1 ?h2 ?_;case h1|h2=>((try simp only[c1,c2,List.length_map,List.take_succ_cons,List.take_zero,List.drop_succ_cons,List.drop_zero,go_sem])<;>rfl)))));rw[he];exact fz_of rfl rfl
def wbV (w:List Nat):V:=.sl (w.map fun b:Nat=>[.i .u8 (b:Int)])
theorem wb_at {w:List Nat} {i:Nat} (h:i < w.length):(w.map fun b:Nat=>[V.i .u8 (b:Int)])[i]?=some [.i .u8 (w[i]:Int)]:=by rw[List.getElem?_map,List.getElem?_eq_getElem h];rfl
theorem wb_cl (k:IntKind) (f:Nat→Nat) (w:List Nat):cldLL (w.map fun b=>[V.i k (f b:Nat)])=true:=cldLL_map (fun _=>rfl) w
theorem wn_cls (k:IntKind) (f:Nat→Nat) (w:List Nat):(w.map fun b=>[V.i k (f b:Nat)]).all cls1L=true:=List.all_eq_true.2 fun c hc=>by obtain⟨x,_,rfl⟩:=List.mem_map.1 hc;rfl
theorem wn_okf (k:IntKind) (f:Nat→Nat) (w:List Nat):∀ c∈w.map fun b=>[V.i k (f b:Nat)],∀ v∈c,okf 23 v=true:=fun c hc v hv=>by
 obtain⟨x,_,rfl⟩:=List.mem_map.1 hc;rw[List.mem_singleton] at hv;rw[hv];rfl
theorem wn_at (k:IntKind) (f:Nat→Nat) {w:List Nat} {i:Nat} (h:i < w.length):(w.map fun b=>[V.i k (f b:Nat)])[i]?=some [.i k (f w[i]:Nat)]:=by rw[List.getElem?_map,List.getElem?_eq_getElem h];rfl
theorem wn_succ (k:IntKind) (f:Nat→Nat) {w:List Nat} {i:Nat} (h:i < w.length):(w.take (i+1)).map (fun b=>[V.i k (f b:Nat)])=(w.take i).map (fun b=>[V.i k (f b:Nat)])++[[.i k (f w[i]:Nat)]]:=by
 rw[List.take_add_one,List.getElem?_eq_getElem h,Option.toList_some,List.map_append];rfl
attribute [go_sem] wb_cl
theorem fzs_l2 {o:O} (P:List (List V)) (f:Nat→Nat) {v:V} (hv:okf FZ v=true):fzsU o [.ag (.sl P::ins f),v]=some [.ag (.sl P::ins f),v]:=fzsU_ok (by simp only[List.all_cons,List.all_nil,ins_okf,hv,Bool.and_true])
theorem clos_l2 (P:List (List V)) (f:Nat→Nat) {v r:V} (hv:clo FZ v=true):(clos [.ag (.sl P::ins f),v]||flat FZ r)=true:=Bool.or_eq_true_iff.2 (.inl (by simp only[clos,List.all_cons,List.all_nil,ins_clo,hv,Bool.and_true]))
set_option maxHeartbeats 1000000 in
theorem spell_pu (P:List (List V)) (hP:cldLL P=true) (f:Nat→Nat) (w:List Nat) (hw:∀ b∈w,b < 256) (hl:w.length < 2147483648):Pu F 13 [.ag (.sl P::ins f),wbV w] (.sl (w.map fun b=>[.i .i64 (f b:Nat)])):=by
 refine U_pure e13 rfl rfl (by simp only[go_sem,Bool.and_true,hP,wbV]) ?_;dsimp only[fn13,c13];(repeat (with_reducible (first|refine U_nil ?_|refine UC_sq ?_|refine UC_rg ?_|refine UC_bk ?_|refine X_nx ?_|(refine U_q (v:=?_) ?h1 ?_;case h1=>((try simp only[wbV,List.length_map,List.take_succ_cons,List.take_zero,List.drop_succ_cons,List.drop_zero,go_sem])<;>rfl))|(refine U_box (cs:=?_) (cs':=?_) (n:=?_) ?h1 ?h2 ?h3 ?h4 ?_;case h1|h2|h3|h4=>((try simp only[wbV,List.length_map,List.take_succ_cons,List.take_zero,List.drop_succ_cons,List.drop_zero,go_sem])<;>rfl)))));refine U_lp (fun r e o=>∃ i:Nat,i+r=w.length∧e 2=.pt 2 0 0∧e 5=ownV 20 1 ((w.take i).map fun b=>[.i .i64 (f b:Nat)])∧e 8=wbV w∧e 9=.i .i64 w.length∧e 10=.i .i64 i∧o 2=some (.row 257 [.sl P::ins f])∧Own o 20 1 ((w.take i).map fun b=>[.i .i64 (f b:Nat)])) (k:=w.length) ?_ (Call_le F) ?_
 ·exact⟨0,by omega,Z0,Zr0,by simp only[wbV,go_sem],by simp only[List.length_map,go_sem],Zr0,Z0,⟨rfl,fun h=>absurd rfl h⟩⟩
 rintro r e o ⟨i,hir,r2,r5,r8,r9,r10,o2,ow⟩;dsimp only[b13_0];by_cases hi:i < w.length
 ·have hd:decide ((i:Int) < (w.length:Int))=true:=decide_eq_true (by omega);have hip:(0:Int)≤(i:Int):=by omega
  have hw1:=wrap1 (i:=i) (by omega);have gI:=wb_at hi;have hS:=wn_succ .i64 f hi;have hb:=hw _ (List.getElem_mem hi);generalize w[i]=b at gI hS hb;have hbp:(0:Int)≤(b:Int):=by omega
  have hlt:((b:Int) < 256)=True:=by simp only[eq_iff_iff,iff_true];omega
  have gB:(V.sl P::ins f)[1+b]?=some (.i .i64 (f b:Nat)):=by rw[Nat.add_comm,List.getElem?_cons_succ,ins_get f hb]
  have hln:((w.take i).map fun b=>[V.i .i64 (f b:Nat)]).length≤i:=by rw[List.length_map,List.length_take];omega
  (repeat (with_reducible (first|refine U_nil ?_|refine UC_sq ?_|refine UC_rg ?_|refine UC_bk ?_|refine UC_sk ?_|refine X_nx ?_|((first|refine U_q (v:=?_) ?h1 ?_|refine U_ld (v:=?_) ?h1 ?_|refine UC_cdt ?h1 ?_);case h1=>((try simp only[r2,r5,r8,r9,r10,wbV,o2,hd,hip,gI,hbp,hlt,gB,Int.toNat_natCast,List.take_succ_cons,List.take_zero,List.drop_succ_cons,List.drop_zero,go_sem])<;>rfl)))));refine U_appo 20 (L:=(w.take i).map fun b=>[.i .i64 (f b:Nat)]) (ys:=[[.i .i64 (f b:Nat)]]) (Z1 r5) ow.h (by simp only[src,List.take_succ_cons,List.take_zero,List.drop_succ_cons,List.drop_zero,go_sem]) (by simp) (by simp) (by omega) ⟨by rw[List.length_cons,List.length_nil];omega,by omega⟩ (swpR_cls _ ow.c) rfl ?_;rw[← hS];(repeat (with_reducible (first|refine U_nil ?_|refine UC_rg ?_|refine X_nx ?_|refine B_nx ?_|(refine U_q (v:=?_) ?h1 ?_;case h1=>((try simp only[r10,hw1,List.take_succ_cons,List.take_zero,List.drop_succ_cons,List.drop_zero,go_sem])<;>rfl)))))
  exact⟨r - 1,by omega,i+1,by omega,Z1 r2,Z0,by simp only[r8,wbV,go_sem],Z1 r9,Z0,Z1 o2,Own.to (wn_cls _ _ _)⟩
 ·have hd:decide ((i:Int) < (w.length:Int))=false:=decide_eq_false (by omega);rw[List.take_of_length_le (by omega)] at r5 ow;(repeat (with_reducible (first|refine U_nil ?_|refine UC_sq ?_|refine UC_rg ?_|refine UC_ex ?_|refine UC_rt ?_|refine X_nx ?_|refine X_ex ?_|refine B_self ?_|((first|refine U_q (v:=?_) ?h1 ?_|refine E_1 (v:=?_) ?h1 ?_);case h1=>((try simp only[r5,r9,r10,hd,List.take_succ_cons,List.take_zero,List.drop_succ_cons,List.drop_zero,go_sem])<;>rfl))|(refine UC_cdf ?h1 ?_;case h1=>((try simp only[r5,r9,r10,hd,List.take_succ_cons,List.take_zero,List.drop_succ_cons,List.drop_zero,go_sem])<;>rfl)))));exact frzU_own 23 ow.h (wn_okf _ _ _)
set_option maxHeartbeats 1000000 in
theorem lplain_pu (l:List (Nat→Nat)) (hl:l.length < 2147483648) (hls:∀ s∈l,W64 s) (f g:Nat→Nat) (w:List Nat) (hw:∀ b∈w,b < 256) (hwl:w.length < 2147483648) (hg:∀ b∈w,byF l (f b:Nat)=some (g b)) :
  Pu F 14 [.ag (.sl (l.map u4)::ins f),wbV w] (.sl (w.map fun b=>[.i .u8 (g b:Nat)])):=by
 have hS:=spell_pu (l.map u4) (u4s_cl l) f w hw hwl;refine U_pure e14 rfl rfl (by simp only[go_sem,Bool.and_true,wbV]) ?_;dsimp only[fn14,c14];(repeat (with_reducible (first|refine U_nil ?_|refine UC_sq ?_|refine UC_rg ?_|refine X_nx ?_|((first|refine U_q (v:=?_) ?h1 ?_|refine U_ld (v:=?_) ?h1 ?_);case h1=>((try simp only[wbV,List.take_succ_cons,List.take_zero,List.drop_succ_cons,List.drop_zero,go_sem])<;>rfl))|(refine U_box (cs:=?_) (cs':=?_) (n:=?_) ?h1 ?h2 ?h3 ?h4 ?_;case h1|h2|h3|h4=>((try simp only[wbV,List.take_succ_cons,List.take_zero,List.drop_succ_cons,List.drop_zero,go_sem])<;>rfl)))));refine U_pc (vs:=[.ag (.sl (l.map u4)::ins f),wbV w]) (ws:=[.ag (.sl (l.map u4)::ins f),wbV w]) (by simp only[wbV,List.take_succ_cons,List.take_zero,List.drop_succ_cons,List.drop_zero,go_sem]) (fzs_l2 _ _ rfl) (clos_l2 _ _ rfl) (Z0) hS ?_;(repeat (with_reducible (first|refine U_nil ?_|refine UC_bk ?_|refine X_nx ?_|(refine U_q (v:=?_) ?h1 ?_;case h1=>((try simp only[List.length_map,List.take_succ_cons,List.take_zero,List.drop_succ_cons,List.drop_zero,go_sem])<;>rfl)))));refine U_lp (fun r e o=>∃ i:Nat,i+r=w.length∧e 2=.pt 2 0 0∧e 5=ownV 27 1 ((w.take i).map fun b=>[.i .u8 (g b:Nat)])∧e 12=.sl (w.map fun b=>[.i .i64 (f b:Nat)])∧e 13=.i .i64 w.length∧e 14=.i .i64 i∧o 2=some (.row 257 [.sl (l.map u4)::ins f])∧Own o 27 1 ((w.take i).map fun b=>[.i .u8 (g b:Nat)])) (k:=w.length) ?_ (Call_le F) ?_
 ·exact⟨0,by omega,Z0,Zr0,Z0,by simp only[List.length_map,go_sem],Zr0,Z0,⟨rfl,fun h=>absurd rfl h⟩⟩
 rintro r e o ⟨i,hir,r2,r5,r12,r13,r14,o2,ow⟩;dsimp only[b14_0];by_cases hi:i < w.length
 ·have hd:decide ((i:Int) < (w.length:Int))=true:=decide_eq_true (by omega);have hip:(0:Int)≤(i:Int):=by omega
  have hw1:=wrap1 (i:=i) (by omega);have gI:=wn_at .i64 f hi;have hS:=wn_succ .u8 g hi;have hB:=byte_pu l hl hls f (f w[i]:Nat);rw[hg _ (List.getElem_mem hi)] at hB;generalize w[i]=b at gI hS hB;have hB:Pu F 10 [.ag (.sl (l.map u4)::ins f),.i .i64 (f b:Nat)] (.tp [.i .u8 (g b:Nat),.bo true]):=hB;have hln:((w.take i).map fun b=>[V.i .u8 (g b:Nat)]).length≤i:=by rw[List.length_map,List.length_take];omega
  (repeat (with_reducible (first|refine U_nil ?_|refine UC_sq ?_|refine UC_rg ?_|refine UC_bk ?_|refine UC_sk ?_|refine X_nx ?_|((first|refine U_q (v:=?_) ?h1 ?_|refine U_ld (v:=?_) ?h1 ?_|refine UC_cdt ?h1 ?_);case h1=>((try simp only[r2,r12,r13,r14,o2,hd,hip,gI,Int.toNat_natCast,List.take_succ_cons,List.take_zero,List.drop_succ_cons,List.drop_zero,go_sem])<;>rfl)))));refine U_pc (vs:=[.ag (.sl (l.map u4)::ins f),.i .i64 (f b:Nat)]) (ws:=[.ag (.sl (l.map u4)::ins f),.i .i64 (f b:Nat)]) (by simp only[List.take_succ_cons,List.take_zero,List.drop_succ_cons,List.drop_zero,go_sem]) (fzs_l2 _ _ rfl) (clos_l2 _ _ rfl) rfl hB ?_;(repeat (with_reducible (first|refine U_nil ?_|refine UC_rg ?_|refine X_nx ?_|(refine U_q (v:=?_) ?h1 ?_;case h1=>((try simp only[r5,List.take_succ_cons,List.take_zero,List.drop_succ_cons,List.drop_zero,go_sem])<;>rfl)))));refine U_appo 27 (L:=(w.take i).map fun b=>[.i .u8 (g b:Nat)]) (ys:=[[.i .u8 (g b:Nat)]]) (Z1 r5) ow.h (by simp only[src,List.take_succ_cons,List.take_zero,List.drop_succ_cons,List.drop_zero,go_sem]) (by simp) (by simp) (by omega) ⟨by rw[List.length_cons,List.length_nil];omega,by omega⟩ (swpR_cls _ ow.c) rfl ?_;rw[← hS];(repeat (with_reducible (first|refine U_nil ?_|refine UC_rg ?_|refine X_nx ?_|refine B_nx ?_|(refine U_q (v:=?_) ?h1 ?_;case h1=>((try simp only[r14,hw1,List.take_succ_cons,List.take_zero,List.drop_succ_cons,List.drop_zero,go_sem])<;>rfl)))))
  exact⟨r - 1,by omega,i+1,by omega,Z1 r2,Z0,Z1 r12,Z1 r13,Z0,Z1 o2,Own.to (wn_cls _ _ _)⟩
 ·have hd:decide ((i:Int) < (w.length:Int))=false:=decide_eq_false (by omega);rw[List.take_of_length_le (by omega)] at r5 ow;(repeat (with_reducible (first|refine U_nil ?_|refine UC_sq ?_|refine UC_rg ?_|refine UC_ex ?_|refine UC_rt ?_|refine X_nx ?_|refine X_ex ?_|refine B_self ?_|((first|refine U_q (v:=?_) ?h1 ?_|refine E_1 (v:=?_) ?h1 ?_);case h1=>((try simp only[r5,r13,r14,hd,List.take_succ_cons,List.take_zero,List.drop_succ_cons,List.drop_zero,go_sem])<;>rfl))|(refine UC_cdf ?h1 ?_;case h1=>((try simp only[r5,r13,r14,hd,List.take_succ_cons,List.take_zero,List.drop_succ_cons,List.drop_zero,go_sem])<;>rfl)))));exact frzU_own 23 ow.h (wn_okf _ _ _)
end Go.Proofs.YtpkmfoinpdnifaaDoor
namespace Go.Proofs.YtpkmfoinpdnifaaDoor
set_option linter.all false
attribute [-go_sem] swpOb renOb rfOb V.cells
theorem insN_sw (d:Nat) (f:Nat→Nat):swpL d (.nil::ins f)=.nil::ins f:=by simp only[swpL,swp,ins_sw]
theorem ins_st (d:Nat) (es:List (List V)) (f:Nat→Nat):stillL d es (ins f)=ins f:=by
 have:∀ l:List Nat,stillL d es (l.map fun i=>V.i .i64 (f i:Nat))=l.map fun i=>V.i .i64 (f i:Nat):=fun l=>by
  induction l with
  | nil=>rfl
  | cons a l ih=>simp only[List.map_cons,stillL,still,ih]
 exact this _
attribute [go_sem] insN_sw ins_st
section
variable {cl:CallT} {e:E} {o:O}
theorem U_appe (s:Nat) {d sz byt:Nat} {x y:Od} {L:List (List V)} {l:List Stp} {K:E→O→Prop} (hx:x.ev e=ownV s sz L) (ho:L≠[]→o s=some (.row sz L)) (hs:src o (y.ev e)=some []) (hso:sizeOk L.length byt)
  (h:wpRU cl l K (upd e d (ownV s sz L)) o):wpRU cl (⟨some d,none,.app sz byt x y,[]⟩::l) K e o:=by
 by_cases hl:L=[]
 ·subst hl;exact U_app00 hx hs hso.2 h
 ·rw[ownV_ne hl] at hx h;exact U_app0 hx (ho hl) (Nat.le_refl _) hs hso h
end
theorem UC_stillOn {cl:CallT} {e:E} {o:O} {l:List Stp} {K:X→E→O→Prop} (P:E→O→Prop) (s:Nat) {sz:Nat} {L:List (List V)} (hc:okLL L=true) (ho:L≠[]→o s=some (.row sz L)) (h0:L=[]→P e o) (h1:L≠[]→P (stillE s L e) (stillOU s L o)) (h:∀ e o,P e o→wpU true cl (.rg l) K e o):wpU true cl (.rg l) K e o:=by
 by_cases hL:L=[]
 ·exact h _ _ (h0 hL)
 ·exact UC_still s (ho hL) hc (h _ _ (h1 hL))
theorem u4s_ok (l:List (Nat→Nat)):okLL (l.map u4)=true:=by
 show (l.map u4).all okL=true;exact List.all_eq_true.2 fun c hc=>by obtain⟨x,_,rfl⟩:=List.mem_map.1 hc;rfl
theorem ofN_succ (cl:Nat→Nat→Bool) (i b:Nat):ofN cl (i+1) b=if cl i b then i else ofN cl i b:=rfl
structure Mk (P:List (List V)) (N i:Nat) (g:Nat→Nat) (e:E) (o:O):Prop where
 e2:e 2=.pt 2 0 0
 e6:e 6=.pt 6 0 0
 e32:e 32=.sl P
 e33:e 33=.i .i64 N
 e34:e 34=.i .i64 i
 o2:o 2=some (.row 257 [.nil::ins fun _=>0])
 o6:o 6=some (.row 257 [.sl P::ins g])
set_option maxHeartbeats 1000000 in
theorem lmake_in (P:List (List V)) (N i:Nat) (cl:Nat→Nat→Bool) (s:Nat→Nat) (hs:W64 s) (hcl:∀ b,b < 256→cl i b=bitOf s b) (e:E) (o:O) (h:Mk P N i (ofN cl i) e o) (r7:e 7=.i .i64 i) (r8:e 8=.pt 8 0 0) (r39:e 39=.i .i64 0) (o8:o 8=some (.row 4 [u4 s])) :
  wpU true (Call F) (.lp b7_1) (fun x e o=>x=.ex 4∧Mk P N i (ofN cl (i+1)) e o) e o:=by
 refine U_lp (fun r e o=>∃ b:Nat,b+r=256∧e 7=.i .i64 i∧e 8=.pt 8 0 0∧e 39=.i .i64 b∧o 8=some (.row 4 [u4 s])∧Mk P N i (fun x=>if x < b then ofN cl (i+1) x else ofN cl i x) e o) (k:=256) ?_ (Call_le F) ?_
 ·obtain⟨r2,r6,r32,r33,r34,o2,o6⟩:=h;have e1:ins (ofN cl i)=ins fun x=>if x < 0 then ofN cl (i+1) x else ofN cl i x:=ins_cg fun x _=>by simp
  rw[e1] at o6
  exact⟨0,by omega,r7,r8,r39,o8,r2,r6,r32,r33,r34,o2,o6⟩
 clear h r7 r8 r39 o8;rintro r e o ⟨b,hbr,r7,r8,r39,o8,⟨r2,r6,r32,r33,r34,o2,o6⟩⟩;dsimp only[b7_1];by_cases hb:b < 256
 ·have hd:decide ((b:Int) < 256)=true:=decide_eq_true (by omega);have hbp:(0:Int)≤(b:Int):=by omega
  have hlt:((b:Int) < 256)=True:=by simp only[eq_iff_iff,iff_true];omega
  have hle:1+b+1≤257:=by omega
  have hw1:=wrap1 (i:=b) (by omega);have hc8:IntKind.u8.wrap (b:Int)=(b:Int):=wrap_u8 (by omega) (by omega);have hH:=has_pu s hs b hb;rw[← hcl b hb] at hH;have key:∀ k,k=ofN cl (i+1) b→(ins fun x=>if x=b then k else if x < b then ofN cl (i+1) x else ofN cl i x)=ins fun x=>if x < b+1 then ofN cl (i+1) x else ofN cl i x:=fun k hk=>ins_cg fun x _=>by
   by_cases h:x=b
   ·subst h;simp [hk]
   ·have:(x < b+1)↔x < b:=by omega
    simp [h,this]
  (repeat (with_reducible (first|refine U_nil ?_|refine UC_sq ?_|refine UC_rg ?_|refine UC_bk ?_|refine UC_sk ?_|refine X_nx ?_|((first|refine U_q (v:=?_) ?h1 ?_|refine U_ld (v:=?_) ?h1 ?_|refine UC_cdt ?h1 ?_);case h1=>((try simp only[r8,r39,o8,hd,hc8,List.take_succ_cons,List.take_zero,List.drop_succ_cons,List.drop_zero,go_sem])<;>rfl)))));cases hbt:cl i b with
  | true =>
   rw[hbt] at hH;have hk:=key i (by rw[ofN_succ,hbt,if_pos rfl]);have hspl:=ins_spl (fun x=>if x < b then ofN cl (i+1) x else ofN cl i x) (.sl P) i hb;rw[hk] at hspl
   (refine U_pcr (r:=.bo true) hH ?h1 ?h2 rfl ?_;(case h1=>((try simp only[r39,hc8,List.take_succ_cons,List.take_zero,List.drop_succ_cons,List.drop_zero,go_sem])<;>rfl));(case h2=>simp only[r39,hc8,List.all_cons,List.all_nil,Bool.and_true,go_sem]))
   (repeat (with_reducible (first|refine U_nil ?_|refine UC_rg ?_|refine X_nx ?_|refine B_nx ?_|((first|refine U_q (v:=?_) ?h1 ?_|refine UC_cdt ?h1 ?_);case h1=>((try simp only[r6,r7,r39,o6,hbp,hlt,hle,hspl,hw1,Int.toNat_natCast,List.take_succ_cons,List.take_zero,List.drop_succ_cons,List.drop_zero,go_sem])<;>rfl))|(refine U_sto (id:=?_) (i:=?_) (j:=?_) (q:=?_) (es:=?_) (cs:=?_) (vs:=?_) (es':=?_) ?h1 ?h2 ?h3 ?h4 ?h5 ?h6 ?h7 ?_;case h1|h2|h3|h4|h5|h6|h7=>((try simp only[r6,r7,r39,o6,hbp,hlt,hle,hspl,hw1,Int.toNat_natCast,List.take_succ_cons,List.take_zero,List.drop_succ_cons,List.drop_zero,go_sem])<;>rfl)))))
   exact⟨r - 1,by omega,b+1,by omega,Z1 r7,Z1 r8,Z0,Z1 o8,Z1 r2,Z1 r6,Z1 r32,Z1 r33,Z1 r34,Z1 o2,Z0⟩
  | false =>
   rw[hbt] at hH;have hk:=key (ofN cl i b) (by rw[ofN_succ,hbt];rfl);have hself:(ins fun x=>if x=b then ofN cl i b else if x < b then ofN cl (i+1) x else ofN cl i x)=ins fun x=>if x < b then ofN cl (i+1) x else ofN cl i x:=ins_cg fun x _=>by
    by_cases h:x=b
    ·subst h;simp
    ·simp [h]
   rw[hself] at hk;rw[hk] at o6
   (refine U_pcr (r:=.bo false) hH ?h1 ?h2 rfl ?_;(case h1=>((try simp only[r39,hc8,List.take_succ_cons,List.take_zero,List.drop_succ_cons,List.drop_zero,go_sem])<;>rfl));(case h2=>simp only[r39,hc8,List.all_cons,List.all_nil,Bool.and_true,go_sem]))
   (repeat (with_reducible (first|refine U_nil ?_|refine UC_rg ?_|refine UC_sk ?_|refine X_nx ?_|refine B_nx ?_|(refine U_q (v:=?_) ?h1 ?_;case h1=>((try simp only[r39,hw1,List.take_succ_cons,List.take_zero,List.drop_succ_cons,List.drop_zero,go_sem])<;>rfl))|(refine UC_cdf ?h1 ?_;case h1=>((try simp only[r39,hw1,List.take_succ_cons,List.take_zero,List.drop_succ_cons,List.drop_zero,go_sem])<;>rfl)))))
   exact⟨r - 1,by omega,b+1,by omega,Z1 r7,Z1 r8,Z0,Z1 o8,Z1 r2,Z1 r6,Z1 r32,Z1 r33,Z1 r34,Z1 o2,Z1 o6⟩
 ·have hd:decide ((b:Int) < 256)=false:=decide_eq_false (by omega);have e1:(ins fun x=>if x < b then ofN cl (i+1) x else ofN cl i x)=ins (ofN cl (i+1)):=ins_cg fun x hx=>by rw[if_pos (by omega)]
  rw[e1] at o6;(repeat (with_reducible (first|refine U_nil ?_|refine UC_sq ?_|refine UC_rg ?_|refine UC_ex ?_|refine X_nx ?_|refine X_ex ?_|(refine U_q (v:=?_) ?h1 ?_;case h1=>((try simp only[r39,hd,List.take_succ_cons,List.take_zero,List.drop_succ_cons,List.drop_zero,go_sem])<;>rfl))|(refine UC_cdf ?h1 ?_;case h1=>((try simp only[r39,hd,List.take_succ_cons,List.take_zero,List.drop_succ_cons,List.drop_zero,go_sem])<;>rfl)))))
  exact⟨rfl,Z1 r2,Z1 r6,Z1 r32,Z1 r33,Z1 r34,o2,o6⟩
set_option maxRecDepth 20000 in
set_option maxHeartbeats 4000000 in
theorem lmake_pu (As:List Au) (hl:As.length≤6) (hn:∀ A∈As,A.sets.length≤41) (h1:∀ A∈As,1≤A.sets.length) (hw:∀ A∈As,∀ s∈A.sets,W64 s):Pu F 7 [.sl (As.map auC)] (.ag (.sl ((ptL (setsL As)).map u4)::ins (letF (setsL As)))):=by
 have hln:=sets_len hn;have hws:=sets_w hw;have hP:=parts_pu (setsL As) (by omega) hws;refine U_pure e7 rfl rfl (by simp only[go_sem,Bool.and_true,aus_cl]) ?_;dsimp only[fn7,c7];(repeat (with_reducible (first|refine U_nil ?_|refine UC_sq ?_|refine UC_rg ?_|refine UC_bk ?_|refine X_nx ?_|((first|refine U_q (v:=?_) ?h1 ?_|refine U_alc (n:=?_) ?h1 ?_);case h1=>((try simp only[List.length_map,List.take_succ_cons,List.take_zero,List.drop_succ_cons,List.drop_zero,go_sem])<;>rfl)))));refine UC_cutx (fun e o=>e 2=.pt 2 0 0∧e 3=ownV 26 4 ((setsL As).map u4)∧o 2=some (.row 257 [.nil::ins fun _=>0])∧Own o 26 4 ((setsL As).map u4)) ?_ ?_
 ·refine U_lp (fun r e o=>∃ i:Nat,i+r=As.length∧e 2=.pt 2 0 0∧e 3=ownV 26 4 ((setsL (As.take i)).map u4)∧e 10=.sl (As.map auC)∧e 11=.i .i64 As.length∧e 12=.i .i64 i∧o 2=some (.row 257 [.nil::ins fun _=>0])∧Own o 26 4 ((setsL (As.take i)).map u4)) (k:=As.length) ?_ (Call_le F) ?_
  ·exact⟨0,by omega,Z0,Zr0,Z0,by simp only[List.length_map,go_sem],Zr0,Z0,⟨rfl,fun h=>absurd rfl h⟩⟩
  rintro r e o ⟨i,hir,r2,r3,r10,r11,r12,o2,ow⟩;dsimp only[b7_0];by_cases hi:i < As.length
  ·have hd:decide ((i:Int) < (As.length:Int))=true:=decide_eq_true (by omega);have hip:(0:Int)≤(i:Int):=by omega
   have hw1:=wrap1 (i:=i) (by omega);have gI:=aus_at hi;have hS:=sets_succ hi;have hn1:=h1 _ (List.getElem_mem hi);have hnA:=hn _ (List.getElem_mem hi);have hbl:=sets_len (As:=As.take i) fun A hA=>hn A (List.mem_of_mem_take hA);have htl:(As.take i).length≤6:=by rw[List.length_take];omega
   generalize As[i]=A at gI hS hn1 hnA;generalize setsL (As.take i)=L0 at r3 ow hS hbl;have hgt:decide ((A.sets.length:Int) > 0)=true:=decide_eq_true (by omega);have hcut:cutV 4 1 A.sets.length none (.sl (A.sets.map u4))=some (.sl ((A.sets.drop 1).map u4)):=by
    have hall:(A.sets.map u4).all (fun c=>c.length==4)=true:=List.all_eq_true.2 fun c hc=>by obtain⟨x,_,rfl⟩:=List.mem_map.1 hc;rfl
    simp only[cutV];rw[if_pos ⟨by omega,by simp,hall⟩,List.take_of_length_le (by simp),List.map_drop]
   have hdl:(A.sets.drop 1).length≤40:=by rw[List.length_drop];omega
   (repeat (with_reducible (first|refine U_nil ?_|refine UC_sq ?_|refine UC_rg ?_|refine UC_bk ?_|refine UC_sk ?_|refine X_nx ?_|((first|refine U_q (v:=?_) ?h1 ?_|refine U_ld (v:=?_) ?h1 ?_|refine U_alc (n:=?_) ?h1 ?_|refine UC_cdt ?h1 ?_);case h1=>((try simp only[r2,r3,r10,r11,r12,hd,hip,gI,hgt,hcut,Int.toNat_natCast,List.length_map,List.take_succ_cons,List.take_zero,List.drop_succ_cons,List.drop_zero,go_sem])<;>rfl))|(refine U_sto (id:=?_) (i:=?_) (j:=?_) (q:=?_) (es:=?_) (cs:=?_) (vs:=?_) (es':=?_) ?h1 ?h2 ?h3 ?h4 ?h5 ?h6 ?h7 ?_;case h1|h2|h3|h4|h5|h6|h7=>((try simp only[r2,r3,r10,r11,r12,hd,hip,gI,hgt,hcut,Int.toNat_natCast,List.length_map,List.take_succ_cons,List.take_zero,List.drop_succ_cons,List.drop_zero,go_sem])<;>rfl)))));by_cases hD:A.sets.drop 1=[]
   ·refine U_appe 26 (L:=L0.map u4) (Z1 r3) ?_ (by simp only[src,hD,go_sem]) ⟨by simp;omega,by omega⟩ ?_
    ·exact (by (repeat first|with_reducible assumption|refine .up rfl ?_|refine .sw rfl ?_|refine .swN rfl ?_):Own _ 26 4 (L0.map u4)).h
    (repeat (with_reducible (first|refine U_nil ?_|refine UC_rg ?_|refine X_nx ?_|refine B_nx ?_|(refine U_q (v:=?_) ?h1 ?_;case h1=>((try simp only[r12,hw1,List.take_succ_cons,List.take_zero,List.drop_succ_cons,List.drop_zero,go_sem])<;>rfl)))))
    exact⟨r - 1,by omega,i+1,by omega,Z1 r2,by rw[hS,hD,List.append_nil];simp only[go_sem],Z1 r10,Z1 r11,Z0,Z1 o2,by rw[hS,hD,List.append_nil];(repeat first|with_reducible assumption|refine .up rfl ?_|refine .sw rfl ?_|refine .swN rfl ?_)⟩
   ·refine U_appo 26 (L:=L0.map u4) (ys:=(A.sets.drop 1).map u4) (Z1 r3) ?_ (by simp only[src,go_sem]) (fun c hc=>by obtain⟨x,_,rfl⟩:=List.mem_map.1 hc;rfl) (fun h=>hD (List.map_eq_nil_iff.1 h)) (by omega) ⟨by simp only[List.length_map];omega,by omega⟩ (swpR_cls _ ow.c) (swpR_cls _ (u4s_cls _)) ?_
    ·exact (by (repeat first|with_reducible assumption|refine .up rfl ?_|refine .sw rfl ?_|refine .swN rfl ?_):Own _ 26 4 (L0.map u4)).h
    rw[← List.map_append];(repeat (with_reducible (first|refine U_nil ?_|refine UC_rg ?_|refine X_nx ?_|refine B_nx ?_|(refine U_q (v:=?_) ?h1 ?_;case h1=>((try simp only[r12,hw1,List.take_succ_cons,List.take_zero,List.drop_succ_cons,List.drop_zero,go_sem])<;>rfl)))))
    exact⟨r - 1,by omega,i+1,by omega,Z1 r2,by rw[hS];simp only[go_sem],Z1 r10,Z1 r11,Z0,Z1 o2,by rw[hS];exact Own.to (u4s_cls _)⟩
  ·have hd:decide ((i:Int) < (As.length:Int))=false:=decide_eq_false (by omega);rw[List.take_of_length_le (by omega)] at r3 ow;(repeat (with_reducible (first|refine U_nil ?_|refine UC_sq ?_|refine UC_rg ?_|refine UC_ex ?_|refine X_nx ?_|refine X_ex ?_|(refine U_q (v:=?_) ?h1 ?_;case h1=>((try simp only[r11,r12,hd,List.take_succ_cons,List.take_zero,List.drop_succ_cons,List.drop_zero,go_sem])<;>rfl))|(refine UC_cdf ?h1 ?_;case h1=>((try simp only[r11,r12,hd,List.take_succ_cons,List.take_zero,List.drop_succ_cons,List.drop_zero,go_sem])<;>rfl)))))
   exact⟨rfl,Z1 r2,Z1 r3,o2,ow⟩
 rintro e o ⟨r2,r3,o2,ow⟩;generalize setsL As=l at hP hln hws r3 ow;refine UC_sq ?_;refine UC_stillOn (fun e o=>(e 3=.nil∧l=[]∨e 3=.sl (l.map u4))∧e 2=.pt 2 0 0∧o 2=some (.row 257 [.nil::ins fun _=>0])) 26 (u4s_ok l) ow.h ?_ ?_ ?_
 ·intro h;have h:l=[]:=by simpa using h
  subst h
  exact⟨.inl ⟨r3,rfl⟩,r2,o2⟩
 ·intro h
  refine⟨.inr ?_,Z1 r2,Z1 o2⟩
  rw[stillE_at,r3,still_own _ _ h]
 clear r2 r3 o2 ow;rintro e o ⟨h3,r2,o2⟩;have hpw:∀ s∈ptL l,W64 s:=fun s hs=>by
  obtain⟨i,hi,rfl⟩:=List.mem_iff_getElem.1 hs;exact pt_w hi
 have hpl:=pt_len l;have hlet:ins (letF l)=ins (ofN (inP l) (ptL l).length):=rfl;have hinP:∀ i (hi:i < (ptL l).length),∀ b,inP l i b=bitOf (ptL l)[i] b:=fun i hi b=>inP_at hi b;rw[hlet];have hfz:fzsU o [e 3]=some [.sl (l.map u4)]:=by
  rcases h3 with⟨h,rfl⟩|h
  ·rw[h];rfl
  ·rw[h];exact fzsU_ok rfl
 have hcl:clos [e 3]=true:=by
  rcases h3 with⟨h,rfl⟩|h
  ·rw[h];rfl
  ·rw[h];rfl
 clear h3 hws hln;generalize inP l=cl at hinP;generalize ptL l=Ps at hP hpw hpl hinP;(repeat (with_reducible (first|refine UC_rg ?_|(refine U_q (v:=?_) ?h1 ?_;case h1=>((try simp only[List.take_succ_cons,List.take_zero,List.drop_succ_cons,List.drop_zero,go_sem])<;>rfl)))));refine U_pc (vs:=[e 3]) (ws:=[.sl (l.map u4)]) (Z0) hfz (Bool.or_eq_true_iff.2 (.inl hcl)) (Z0) hP ?_;(repeat (with_reducible (first|refine U_nil ?_|refine UC_sq ?_|refine UC_rg ?_|refine UC_bk ?_|refine X_nx ?_|((first|refine U_q (v:=?_) ?h1 ?_|refine U_ld (v:=?_) ?h1 ?_|refine U_alc (n:=?_) ?h1 ?_);case h1=>((try simp only[List.length_map,List.take_succ_cons,List.take_zero,List.drop_succ_cons,List.drop_zero,go_sem])<;>rfl))|(refine U_sto (id:=?_) (i:=?_) (j:=?_) (q:=?_) (es:=?_) (cs:=?_) (vs:=?_) (es':=?_) ?h1 ?h2 ?h3 ?h4 ?h5 ?h6 ?h7 ?_;case h1|h2|h3|h4|h5|h6|h7=>((try simp only[List.length_map,List.take_succ_cons,List.take_zero,List.drop_succ_cons,List.drop_zero,go_sem])<;>rfl)))));refine UC_cutx (Mk (Ps.map u4) Ps.length Ps.length (ofN cl Ps.length)) ?_ ?_
 ·refine U_lp (fun r e o=>∃ i:Nat,i+r=Ps.length∧Mk (Ps.map u4) Ps.length i (ofN cl i) e o) (k:=Ps.length) ?_ (Call_le F) ?_
  ·exact⟨0,by omega,Z1 r2,Z0,Z0,by simp only[List.length_map,go_sem],Zr0,Z1 o2,Zr0⟩
  clear r2 o2;rintro r e o ⟨i,hir,⟨r2,r6,r32,r33,r34,o2,o6⟩⟩;dsimp only[b7_2];by_cases hi:i < Ps.length
  ·have hd:decide ((i:Int) < (Ps.length:Int))=true:=decide_eq_true (by omega);have hip:(0:Int)≤(i:Int):=by omega
   have hw1:=wrap1 (i:=i) (by omega);have gI:=u4s_at hi;have hs:=hpw _ (List.getElem_mem hi);have hc:=hinP i hi;generalize Ps[i]=s at gI hs hc;(repeat (with_reducible (first|refine U_nil ?_|refine UC_sq ?_|refine UC_rg ?_|refine UC_bk ?_|refine UC_sk ?_|refine X_nx ?_|((first|refine U_q (v:=?_) ?h1 ?_|refine U_ld (v:=?_) ?h1 ?_|refine U_alc (n:=?_) ?h1 ?_|refine UC_cdt ?h1 ?_);case h1=>((try simp only[r32,r33,r34,hd,hip,gI,Int.toNat_natCast,List.take_succ_cons,List.take_zero,List.drop_succ_cons,List.drop_zero,go_sem])<;>rfl))|(refine U_sto (id:=?_) (i:=?_) (j:=?_) (q:=?_) (es:=?_) (cs:=?_) (vs:=?_) (es':=?_) ?h1 ?h2 ?h3 ?h4 ?h5 ?h6 ?h7 ?_;case h1|h2|h3|h4|h5|h6|h7=>((try simp only[r32,r33,r34,hd,hip,gI,Int.toNat_natCast,List.take_succ_cons,List.take_zero,List.drop_succ_cons,List.drop_zero,go_sem])<;>rfl)))));refine UC_cutx (Mk (Ps.map u4) Ps.length i (ofN cl (i+1))) (lmake_in (Ps.map u4) Ps.length i cl s hs (fun b _=>hc b) _ _ ⟨Z1 r2,Z1 r6,Z1 r32,Z1 r33,Z1 r34,Z1 o2,Z1 o6⟩ (Z0) (Z0) (Z0) (Z0)) ?_;clear r2 r6 r32 r33 r34 o2 o6;rintro e o ⟨r2,r6,r32,r33,r34,o2,o6⟩;(repeat (with_reducible (first|refine U_nil ?_|refine UC_rg ?_|refine X_nx ?_|refine B_nx ?_|(refine U_q (v:=?_) ?h1 ?_;case h1=>((try simp only[r34,hw1,List.take_succ_cons,List.take_zero,List.drop_succ_cons,List.drop_zero,go_sem])<;>rfl)))))
   exact⟨r - 1,by omega,i+1,by omega,Z1 r2,Z1 r6,Z1 r32,Z1 r33,Z0,o2,o6⟩
  ·have hd:decide ((i:Int) < (Ps.length:Int))=false:=decide_eq_false (by omega);have hi:i=Ps.length:=by omega
   subst hi;(repeat (with_reducible (first|refine U_nil ?_|refine UC_sq ?_|refine UC_rg ?_|refine UC_ex ?_|refine X_nx ?_|refine X_ex ?_|(refine U_q (v:=?_) ?h1 ?_;case h1=>((try simp only[r33,r34,hd,List.take_succ_cons,List.take_zero,List.drop_succ_cons,List.drop_zero,go_sem])<;>rfl))|(refine UC_cdf ?h1 ?_;case h1=>((try simp only[r33,r34,hd,List.take_succ_cons,List.take_zero,List.drop_succ_cons,List.drop_zero,go_sem])<;>rfl)))))
   exact⟨rfl,Z1 r2,Z1 r6,Z1 r32,Z1 r33,Z1 r34,o2,o6⟩
 clear r2 o2;rintro e o ⟨r2,r6,r32,r33,r34,o2,o6⟩;(repeat (with_reducible (first|refine U_nil ?_|refine UC_sq ?_|refine UC_rg ?_|refine UC_rt ?_|refine X_nx ?_|((first|refine U_ld (v:=?_) ?h1 ?_|refine E_1 (v:=?_) ?h1 ?_);case h1=>((try simp only[r2,r6,o2,o6,List.take_succ_cons,List.take_zero,List.drop_succ_cons,List.drop_zero,go_sem])<;>rfl))|(refine U_sto (id:=?_) (i:=?_) (j:=?_) (q:=?_) (es:=?_) (cs:=?_) (vs:=?_) (es':=?_) ?h1 ?h2 ?h3 ?h4 ?h5 ?h6 ?h7 ?_;case h1|h2|h3|h4|h5|h6|h7=>((try simp only[r2,r6,o2,o6,List.take_succ_cons,List.take_zero,List.drop_succ_cons,List.drop_zero,go_sem])<;>rfl)))));exact fz_ins _ _
end Go.Proofs.YtpkmfoinpdnifaaDoor
namespace Go.Proofs.YtpkmfoinpdnifaaDoor
set_option linter.all false
attribute [-go_sem] swpOb renOb rfOb V.cells
theorem u4_eqr (s:Nat→Nat):eqV true [.i .u64,.i .u64,.i .u64,.i .u64] (.ag (u4 s)) (.ag (u4 s))=some true:=by simp [u4,eqV,eqps,lfEq,V.isAg,V.cells]
attribute [go_sem] u4_eqr
set_option maxRecDepth 20000 in
theorem lawake_pu:Pu F 5 [] (.bo true):=by
 have hM:=lmake_pu [] (by simp) (fun _ h=>by cases h) (fun _ h=>by cases h) (fun _ h=>by cases h);have h1:(ptL (setsL [])).length=1:=pt_one;generalize ptL (setsL [])=P at hM h1;generalize letF (setsL [])=f at hM;have hS:=spell_pu (P.map u4) (u4s_cl P) f [3] (by simp) (by simp);have hM:Pu F 7 [.sl []] (.ag (.sl (P.map u4)::ins f)):=hM;have hS:Pu F 13 [.ag (.sl (P.map u4)::ins f),.sl [[.i .u8 3]]] (.sl [[.i .i64 (f 3:Nat)]]):=hS;refine U_pure e5 rfl rfl (by simp only[go_sem,Bool.and_true]) ?_;dsimp only[fn5,c5];have c1:((P.length:Int)==1)=true:=by rw[h1];rfl
 (repeat (with_reducible (first|refine U_nil ?_|refine UC_sq ?_|refine UC_rg ?_|refine X_nx ?_|(refine U_q (v:=?_) ?h1 ?_;case h1=>((try simp only[List.take_succ_cons,List.take_zero,List.drop_succ_cons,List.drop_zero,go_sem])<;>rfl)))));refine U_pc (vs:=[.nil]) (ws:=[.sl []]) (Z0) rfl (Bool.or_eq_true_iff.2 (.inl rfl)) (by simp only[Bool.and_true,go_sem]) hM ?_;(repeat (with_reducible (first|refine U_nil ?_|refine UC_sq ?_|refine UC_rg ?_|refine X_nx ?_|((first|refine U_q (v:=?_) ?h1 ?_|refine U_ld (v:=?_) ?h1 ?_|refine U_alc (n:=?_) ?h1 ?_|refine U_gt ?h1 ?_);case h1=>((try simp only[c1,List.length_map,List.take_succ_cons,List.take_zero,List.drop_succ_cons,List.drop_zero,go_sem])<;>rfl))|(refine U_sto (id:=?_) (i:=?_) (j:=?_) (q:=?_) (es:=?_) (cs:=?_) (vs:=?_) (es':=?_) ?h1 ?h2 ?h3 ?h4 ?h5 ?h6 ?h7 ?_;case h1|h2|h3|h4|h5|h6|h7=>((try simp only[c1,List.length_map,List.take_succ_cons,List.take_zero,List.drop_succ_cons,List.drop_zero,go_sem])<;>rfl)))));refine U_pc (vs:=[.ag (.sl (P.map u4)::ins f),.sl [[.i .u8 3]]]) (ws:=[.ag (.sl (P.map u4)::ins f),.sl [[.i .u8 3]]]) (by simp only[List.take_succ_cons,List.take_zero,List.drop_succ_cons,List.drop_zero,go_sem]) (fzs_l2 _ _ rfl) (clos_l2 _ _ rfl) rfl hS ?_;(repeat (with_reducible (first|refine U_nil ?_|refine UC_rt ?_|refine X_nx ?_|((first|refine U_q (v:=?_) ?h1 ?_|refine E_1 (v:=?_) ?h1 ?_|refine U_gt ?h1 ?_);case h1=>((try simp only[List.take_succ_cons,List.take_zero,List.drop_succ_cons,List.drop_zero,go_sem])<;>rfl)))));exact fz_of rfl rfl
structure Lw (L:List (List V)) (P:List (Nat→Nat)) (f:Nat→Nat) (e:E) (o:O):Prop where
 e9:e 9=.sl L
 e10:e 10=.pt 10 0 0
 e11:e 11=.sl (P.map u4)
 o10:o 10=some (.row 257 [.sl (P.map u4)::ins f])
end Go.Proofs.YtpkmfoinpdnifaaDoor
namespace Go.Proofs.YtpkmfoinpdnifaaDoor
set_option linter.all false
attribute [-go_sem] swpOb renOb rfOb V.cells
structure Lq (L:List V) (P:List (List V)) (f g:Nat→Nat) (w:List Nat) (e:E) (o:O):Prop where
 e1:e 1=wbV w
 e5:e 5=.pt 5 0 0
 e7:e 7=.pt 7 0 0
 e8:e 8=.sl (w.map fun b=>[.i .i64 (f b:Nat)])
 e9:e 9=.sl (w.map fun b=>[.i .u8 (g b:Nat)])
 o5:o 5=some (.row 15 [L])
 o7:o 7=some (.row 257 [.sl P::ins f])
set_option maxHeartbeats 2000000 in
theorem plains_lp (A:Au) (P:List (List V)) (f g:Nat→Nat) (w:List Nat) (hw:∀ b∈w,b < 256) (hg:∀ b∈w,g b < 256) (hl:w.length≤300) (hP:∀ b:Nat,b < 256→Pu F 12 [.sl [auC A],.i .i64 b] (.i .i64 (g b:Nat))) (e:E) (o:O) (h:Lq (auC A) P f g w e o) (r10:e 10=.i .i64 0) :
  wpU true (Call F) (.lp b4_0) (fun x e o=>x=.ex 0) e o:=by
 refine U_lp (fun r e o=>∃ i:Nat,i+r=w.length∧e 10=.i .i64 i∧Lq (auC A) P f g w e o) (k:=w.length) ⟨0,by omega,r10,h⟩ (Call_le F) ?_;clear h r10;rintro r e o ⟨i,hir,r10,⟨r1,r5,r7,r8,r9,o5,o7⟩⟩;dsimp only[b4_0];by_cases hi:i < w.length
 ·have hd:decide ((i:Int) < (w.length:Int))=true:=decide_eq_true (by omega);have hip:(0:Int)≤(i:Int):=by omega
  have hw1:=wrap1 (i:=i) (by omega);have gI:=wb_at hi;have gF:=wn_at .i64 f hi;have gG:=wn_at .u8 g hi;have hb:=hw _ (List.getElem_mem hi);have hgb:=hg _ (List.getElem_mem hi);generalize w[i]=b at gI gF gG hb hgb;have hPb:=hP b hb;have hbp:(0:Int)≤(b:Int):=by omega
  have hlt:((b:Int) < 256)=True:=by simp only[eq_iff_iff,iff_true];omega
  have gB:(V.sl P::ins f)[1+b]?=some (.i .i64 (f b:Nat)):=by rw[Nat.add_comm,List.getElem?_cons_succ,ins_get f hb]
  have hwb:IntKind.i64.wrap (b:Int)=(b:Int):=wrap_i64 (by omega) (by omega);have hwg:IntKind.i64.wrap (g b:Int)=(g b:Int):=wrap_i64 (by omega) (by omega);(repeat (with_reducible (first|refine U_nil ?_|refine UC_sq ?_|refine UC_rg ?_|refine UC_bk ?_|refine UC_sk ?_|refine X_nx ?_|((first|refine U_q (v:=?_) ?h1 ?_|refine U_ld (v:=?_) ?h1 ?_|refine U_gt ?h1 ?_|refine UC_cdt ?h1 ?_);case h1=>((try simp only[r1,wbV,r5,r7,r8,r9,r10,o5,o7,hd,hip,gI,gF,gG,hbp,hlt,gB,hwb,hwg,Int.toNat_natCast,List.length_map,List.take_succ_cons,List.take_zero,List.drop_succ_cons,List.drop_zero,go_sem])<;>rfl)))))
  (refine U_pcr (r:=.i .i64 (g b:Nat)) hPb ?h1 ?h2 rfl ?_;(case h1=>((try simp only[List.take_succ_cons,List.take_zero,List.drop_succ_cons,List.drop_zero,go_sem])<;>rfl));(case h2=>simp only[List.all_cons,List.all_nil,Bool.and_true,go_sem]))
  (repeat (with_reducible (first|refine U_nil ?_|refine UC_rg ?_|refine UC_sk ?_|refine X_nx ?_|refine B_nx ?_|((first|refine U_q (v:=?_) ?h1 ?_|refine U_gt ?h1 ?_);case h1=>((try simp only[r10,hwb,hwg,hw1,List.take_succ_cons,List.take_zero,List.drop_succ_cons,List.drop_zero,go_sem])<;>rfl))|(refine UC_cdf ?h1 ?_;case h1=>((try simp only[r10,hwb,hwg,hw1,List.take_succ_cons,List.take_zero,List.drop_succ_cons,List.drop_zero,go_sem])<;>rfl)))))
  exact⟨r - 1,by omega,i+1,by omega,Z0,Z1 r1,Z1 r5,Z1 r7,Z1 r8,Z1 r9,o5,o7⟩
 ·have hd:decide ((i:Int) < (w.length:Int))=false:=decide_eq_false (by omega);(repeat (with_reducible (first|refine U_nil ?_|refine UC_sq ?_|refine UC_rg ?_|refine UC_ex ?_|refine X_nx ?_|refine X_ex ?_|(refine U_q (v:=?_) ?h1 ?_;case h1=>((try simp only[r1,wbV,r10,hd,List.length_map,List.take_succ_cons,List.take_zero,List.drop_succ_cons,List.drop_zero,go_sem])<;>rfl))|(refine UC_cdf ?h1 ?_;case h1=>((try simp only[r1,wbV,r10,hd,List.length_map,List.take_succ_cons,List.take_zero,List.drop_succ_cons,List.drop_zero,go_sem])<;>rfl)))));rfl
set_option maxRecDepth 20000 in
set_option maxHeartbeats 8000000 in
theorem plains_law (n:Nd) (hn:small n) (w:List Nat) (hw:∀ b∈w,b < 256) (hwl:w.length < 9223372036854775808):Pu F 4 [.ag (cel n),wbV w] (.bo true):=by
 have haw:=lawake_pu;obtain⟨A,okA,hA,hokA⟩:=auto_pu n hn;refine U_pure e4 rfl rfl (by simp only[go_sem,Bool.and_true,wbV]) ?_;dsimp only[fn4,c4];(repeat (with_reducible (first|refine U_nil ?_|refine UC_sq ?_|refine UC_rg ?_|refine X_nx ?_|(refine U_q (v:=?_) ?h1 ?_;case h1=>((try simp only[List.take_succ_cons,List.take_zero,List.drop_succ_cons,List.drop_zero,go_sem])<;>rfl))|(refine U_box (cs:=?_) (cs':=?_) (n:=?_) ?h1 ?h2 ?h3 ?h4 ?_;case h1|h2|h3|h4=>((try simp only[List.take_succ_cons,List.take_zero,List.drop_succ_cons,List.drop_zero,go_sem])<;>rfl)))))
 (refine U_pcr (r:=.bo true) haw ?h1 ?h2 rfl ?_;(case h1=>((try simp only[List.take_succ_cons,List.take_zero,List.drop_succ_cons,List.drop_zero,go_sem])<;>rfl));(case h2=>simp only[List.all_cons,List.all_nil,Bool.and_true,go_sem]))
 by_cases hl:w.length≤300
 ·have c0:decide ((w.length:Int) > 300)=false:=decide_eq_false (by omega);(repeat (with_reducible (first|refine U_nil ?_|refine UC_sq ?_|refine UC_rg ?_|refine UC_sk ?_|refine X_nx ?_|((first|refine U_q (v:=?_) ?h1 ?_|refine U_ld (v:=?_) ?h1 ?_|refine U_gt ?h1 ?_);case h1=>((try simp only[wbV,c0,List.length_map,List.take_succ_cons,List.take_zero,List.drop_succ_cons,List.drop_zero,go_sem])<;>rfl))|(refine UC_cdf ?h1 ?_;case h1=>((try simp only[wbV,c0,List.length_map,List.take_succ_cons,List.take_zero,List.drop_succ_cons,List.drop_zero,go_sem])<;>rfl)))));refine U_pc (vs:=[.ag (cel n)]) (ws:=[.ag (cel n)]) (Z0) (fzs_cel n _) (Bool.or_eq_true_iff.2 (.inl (clos_cel n))) (by simp only[Bool.and_true,go_sem]) hA ?_;cases okA with
  | false =>
   (repeat (with_reducible (first|refine U_nil ?_|refine UC_sq ?_|refine UC_rg ?_|refine UC_rt ?_|refine X_nx ?_|refine X_rt ?_|((first|refine U_q (v:=?_) ?h1 ?_|refine E_1 (v:=?_) ?h1 ?_|refine U_alc (n:=?_) ?h1 ?_|refine UC_cdt ?h1 ?_);case h1=>((try simp only[List.take_succ_cons,List.take_zero,List.drop_succ_cons,List.drop_zero,go_sem])<;>rfl))|(refine U_sto (id:=?_) (i:=?_) (j:=?_) (q:=?_) (es:=?_) (cs:=?_) (vs:=?_) (es':=?_) ?h1 ?h2 ?h3 ?h4 ?h5 ?h6 ?h7 ?_;case h1|h2|h3|h4|h5|h6|h7=>((try simp only[List.take_succ_cons,List.take_zero,List.drop_succ_cons,List.drop_zero,go_sem])<;>rfl)))));exact fz_of rfl rfl
  | true =>
   obtain⟨_,_,hWA,_,_⟩:=hokA rfl;clear hokA hA haw;have h2:∀ X∈[A],WF X:=fun X hX=>by rw[List.mem_singleton.1 hX];exact hWA
   have hM:=lmake_pu [A] (by simp) (fun X h=>(h2 X h).n) (fun X h=>(h2 X h).n0) (fun X h=>(h2 X h).w);have hPl:=fun (b:Nat) (hb:b < 256)=>rplain_pu [A] (by simp) (fun X h=>(h2 X h).n) (fun X h=>(h2 X h).w) hb;generalize setsL [A]=l at hM hPl;have hf:=fun b (hb:b < 256)=>let_pl l hb;have hg:=fun b (hb:b < 256)=>(pl_ok (tog_eqv l) b).1;have hPw:∀ s∈ptL l,W64 s:=fun s hs=>by
    obtain⟨i,hi,rfl⟩:=List.mem_iff_getElem.1 hs;exact pt_w hi
   have hPn:=pt_len l;generalize letF l=f at hM hf;generalize ptL l=P at hM hf hPw hPn;generalize plF (togF l)=g at hPl hf hg;have hM:Pu F 7 [.sl [auC A]] (.ag (.sl (P.map u4)::ins f)):=hM;have hcl:cldLL [auC A]=true:=aus_cl [A];have hS:=spell_pu (P.map u4) (u4s_cl P) f w hw (by omega);have hL:=lplain_pu P (by omega) hPw f g w hw (by omega) fun b hb=>by
    obtain⟨h1,h2⟩:=hf b (hw b hb);rw[byF,if_pos (by omega),Int.toNat_natCast,List.getElem?_eq_getElem h1];exact h2
   (repeat (with_reducible (first|refine U_nil ?_|refine UC_sq ?_|refine UC_rg ?_|refine UC_sk ?_|refine X_nx ?_|((first|refine U_q (v:=?_) ?h1 ?_|refine U_ld (v:=?_) ?h1 ?_|refine U_alc (n:=?_) ?h1 ?_);case h1=>((try simp only[List.take_succ_cons,List.take_zero,List.drop_succ_cons,List.drop_zero,go_sem])<;>rfl))|(refine U_sto (id:=?_) (i:=?_) (j:=?_) (q:=?_) (es:=?_) (cs:=?_) (vs:=?_) (es':=?_) ?h1 ?h2 ?h3 ?h4 ?h5 ?h6 ?h7 ?_;case h1|h2|h3|h4|h5|h6|h7=>((try simp only[List.take_succ_cons,List.take_zero,List.drop_succ_cons,List.drop_zero,go_sem])<;>rfl))|(refine UC_cdf ?h1 ?_;case h1=>((try simp only[List.take_succ_cons,List.take_zero,List.drop_succ_cons,List.drop_zero,go_sem])<;>rfl)))));refine U_pc (vs:=[.sl [auC A]]) (ws:=[.sl [auC A]]) (Z0) (fzsU_ok rfl) (Bool.or_eq_true_iff.2 (.inl rfl)) (by simp only[Bool.and_true,go_sem]) hM ?_;(repeat (with_reducible (first|refine U_nil ?_|refine UC_sq ?_|refine UC_rg ?_|refine X_nx ?_|((first|refine U_q (v:=?_) ?h1 ?_|refine U_ld (v:=?_) ?h1 ?_|refine U_alc (n:=?_) ?h1 ?_);case h1=>((try simp only[List.take_succ_cons,List.take_zero,List.drop_succ_cons,List.drop_zero,go_sem])<;>rfl))|(refine U_sto (id:=?_) (i:=?_) (j:=?_) (q:=?_) (es:=?_) (cs:=?_) (vs:=?_) (es':=?_) ?h1 ?h2 ?h3 ?h4 ?h5 ?h6 ?h7 ?_;case h1|h2|h3|h4|h5|h6|h7=>((try simp only[List.take_succ_cons,List.take_zero,List.drop_succ_cons,List.drop_zero,go_sem])<;>rfl)))));refine U_pc (vs:=[.ag (.sl (P.map u4)::ins f),wbV w]) (ws:=[.ag (.sl (P.map u4)::ins f),wbV w]) (by simp only[wbV,List.take_succ_cons,List.take_zero,List.drop_succ_cons,List.drop_zero,go_sem]) (fzs_l2 _ _ rfl) (clos_l2 _ _ rfl) (Z0) hS ?_;(repeat fail);refine U_pc (vs:=[.ag (.sl (P.map u4)::ins f),wbV w]) (ws:=[.ag (.sl (P.map u4)::ins f),wbV w]) (by simp only[wbV,List.take_succ_cons,List.take_zero,List.drop_succ_cons,List.drop_zero,go_sem]) (fzs_l2 _ _ rfl) (clos_l2 _ _ rfl) (Z0) hL ?_;(repeat (with_reducible (first|refine U_nil ?_|refine UC_sq ?_|refine UC_rg ?_|refine UC_bk ?_|refine UC_sk ?_|refine X_nx ?_|((first|refine U_q (v:=?_) ?h1 ?_|refine U_gt ?h1 ?_);case h1=>((try simp only[wbV,List.length_map,List.take_succ_cons,List.take_zero,List.drop_succ_cons,List.drop_zero,go_sem])<;>rfl))|(refine UC_cdf ?h1 ?_;case h1=>((try simp only[wbV,List.length_map,List.take_succ_cons,List.take_zero,List.drop_succ_cons,List.drop_zero,go_sem])<;>rfl)))));refine UC_cutx (fun e o=>True) (wpU_le (Call_le F) (fun x e o hx=>⟨hx,trivial⟩) (plains_lp A (P.map u4) f g w hw (fun b hb=>by have:=hg b (hw b hb);have:=hw b hb;omega) hl hPl _ _ ⟨by simp only[wbV,go_sem],Z0,Z0,Z0,Z0,Z0,Z0⟩ (Z0))) ?_;rintro e o _;(repeat (with_reducible (first|refine U_nil ?_|refine UC_sq ?_|refine UC_rg ?_|refine UC_rt ?_|refine X_nx ?_|((first|refine U_q (v:=?_) ?h1 ?_|refine E_1 (v:=?_) ?h1 ?_);case h1=>((try simp only[List.take_succ_cons,List.take_zero,List.drop_succ_cons,List.drop_zero,go_sem])<;>rfl)))));exact fz_of rfl rfl
 ·have c0:decide ((w.length:Int) > 300)=true:=decide_eq_true (by omega);(repeat (with_reducible (first|refine U_nil ?_|refine UC_sq ?_|refine UC_rg ?_|refine X_nx ?_|((first|refine U_q (v:=?_) ?h1 ?_|refine U_gt ?h1 ?_|refine UC_cdt ?h1 ?_);case h1=>((try simp only[wbV,c0,List.length_map,List.take_succ_cons,List.take_zero,List.drop_succ_cons,List.drop_zero,go_sem])<;>rfl)))))
  (refine U_pcr (r:=.bo true) haw ?h1 ?h2 rfl ?_;(case h1=>((try simp only[List.take_succ_cons,List.take_zero,List.drop_succ_cons,List.drop_zero,go_sem])<;>rfl));(case h2=>simp only[List.all_cons,List.all_nil,Bool.and_true,go_sem]))
  (repeat (with_reducible (first|refine U_nil ?_|refine UC_rt ?_|refine X_nx ?_|refine X_rt ?_|((first|refine U_q (v:=?_) ?h1 ?_|refine E_1 (v:=?_) ?h1 ?_);case h1=>((try simp only[List.take_succ_cons,List.take_zero,List.drop_succ_cons,List.drop_zero,go_sem])<;>rfl)))));exact fz_of rfl rfl
end Go.Proofs.YtpkmfoinpdnifaaDoor
