import Derived.Test.YtgiedknghbpdfaaR13

namespace Go.Proofs.Ytgiedknghbpdfaa
set_option linter.all false
attribute [-go_sem] swpOb renOb rfOb V.cells
def egC (x:Eg):List V:=.i .i64 x.1::mvC x.2
theorem eg_cls (l:List Eg):(l.map egC).all cls1L=true:=List.all_eq_true.2 fun c hc=>by obtain⟨x,_,rfl⟩:=List.mem_map.1 hc;rfl
theorem eg_ok (l:List Eg):okLL (l.map egC)=true:=List.all_eq_true.2 fun c hc=>by obtain⟨x,_,rfl⟩:=List.mem_map.1 hc;rfl
theorem eg_swp (d:Nat) (l:List Eg):(l.map egC).map (swpL d)=l.map egC:=swpR_cls d (eg_cls l)
theorem eg_len (l:List Eg):∀ c∈l.map egC,c.length=4:=fun c hc=>by obtain⟨x,_,rfl⟩:=List.mem_map.1 hc;rfl
theorem eg_cld (l:List Eg):cldLL (l.map egC)=true:=cldLL_map (fun _=>rfl) l
def crI (f t:Nat→Bool) (keep:Nat) (again:Bool) (a b:Nat):List Eg:=(List.range b).flatMap fun b=>if f a&&t b then [(a,⟨b,keep,again⟩)] else []
def crO (f t:Nat→Bool) (keep:Nat) (again:Bool) (a:Nat):List Eg:=(List.range a).flatMap fun a=>crI f t keep again a 200
theorem crI_succ (f t:Nat→Bool) (keep:Nat) (again:Bool) (a b:Nat):crI f t keep again a (b+1)=crI f t keep again a b++if f a&&t b then [(a,⟨b,keep,again⟩)] else []:=by
 simp [crI,List.range_succ]
theorem crO_succ (f t:Nat→Bool) (keep:Nat) (again:Bool) (a:Nat):crO f t keep again (a+1)=crO f t keep again a++crI f t keep again a 200:=by
 simp [crO,List.range_succ]
theorem crI_len (f t:Nat→Bool) (keep:Nat) (again:Bool) (a:Nat):∀ b,(crI f t keep again a b).length≤b
 | 0=>by simp [crI]
 | b+1=>by
  have:=crI_len f t keep again a b
  rw[crI_succ,List.length_append];split<;>simp<;>omega
theorem crO_len (f t:Nat→Bool) (keep:Nat) (again:Bool):∀ a,(crO f t keep again a).length≤a*200
 | 0=>by simp [crO]
 | a+1=>by
  have:=crO_len f t keep again a
  have:=crI_len f t keep again a 200
  rw[crO_succ,List.length_append];omega
theorem crO_all (f t:Nat→Bool) (keep:Nat) (again:Bool):crO f t keep again 200=crossE f t keep again:=rfl
set_option maxRecDepth 5000 in
set_option maxHeartbeats 4000000 in
theorem cross_ap (f t:Nat→Bool) (keep:Nat) (again:Bool) (L:List Eg) (hL:L.length≤2000000000) :
  ApC (Call F) 27 (fun v=>[]++v::[.sl (bl f),.sl (bl t),.ag [.i .i64 0,.i .i64 keep,.bo again]]) 4 (L.map egC) ((L++crossE f t keep again).map egC):=by
 refine U_apc e27 rfl rfl rfl (by simp only[okL,ok,bl_cld];rfl) (eg_ok _) (eg_ok _) ?_;dsimp only[fn27,c27];(repeat (with_reducible (first|refine U_nil ?_|refine UC_sq ?_|refine UC_rg ?_|refine UC_bk ?_|refine X_nx ?_|(refine U_q (v:=?_) ?h1 ?_;case h1=>((try simp only[List.cons_append,List.nil_append,go_sem])<;>rfl))|(refine U_box (cs:=?_) (cs':=?_) (n:=?_) ?h1 ?h2 ?h3 ?h4 ?_;case h1|h2|h3|h4=>((try simp only[List.cons_append,List.nil_append,go_sem])<;>rfl)))));refine U_lp (fun r e o=>∃ (a:Nat) (Q:List Eg),a+r=200∧Q=L++crO f t keep again a∧e 0=ownV 999999 4 (Q.map egC)∧Own o 999999 4 (Q.map egC)∧e 1=.sl (bl f)∧e 2=.sl (bl t)∧e 7=.pt 7 0 0∧o 7=some (.row 3 [[.i .i64 0,.i .i64 keep,.bo again]])∧e 9=.i .i64 a) (k:=200) ?_ (Call_le F) ?_
 ·refine⟨0,L,by omega,by simp [crO],by simp only[List.cons_append,List.nil_append,go_sem],⟨eg_cls _,fun h=>?_⟩,by simp only[List.cons_append,List.nil_append,go_sem],by simp only[List.cons_append,List.nil_append,go_sem],Z0,Z0,Zr0⟩
  rw[if_neg h];simp only[eg_swp,go_sem]
 rintro r e o ⟨a,Q,har,hQ,r0,ho0,r1,r2,r7,o7,r9⟩;dsimp only[b27_1];by_cases ha:a < 200
 ·have hd:decide ((a:Int) < 200)=true:=decide_eq_true (by omega);have hw:=wrapN1 (i:=a) (by omega);have hpa:(0:Int)≤(a:Int):=by omega
  have hla:(a:Int) < ((200:Nat):Int):=by omega
  have gf:=bl_at f ha;have hQl:Q.length≤2000000000+a*200:=by
   have:=crO_len f t keep again a
   rw[hQ,List.length_append];omega
  have hQs:Q++crI f t keep again a 200=L++crO f t keep again (a+1):=by rw[hQ,crO_succ,List.append_assoc]
  clear hQ;(repeat (with_reducible (first|refine U_nil ?_|refine UC_sq ?_|refine UC_rg ?_|refine UC_bk ?_|refine UC_sk ?_|refine X_nx ?_|((first|refine U_q (v:=?_) ?h1 ?_|refine UC_cdt ?h1 ?_);case h1=>((try simp only[r9,hd,go_sem])<;>rfl)))));refine UC_cutx (fun e o=>e 0=ownV 999999 4 ((Q++crI f t keep again a 200).map egC)∧Own o 999999 4 ((Q++crI f t keep again a 200).map egC)∧e 1=.sl (bl f)∧e 2=.sl (bl t)∧e 7=.pt 7 0 0∧o 7=some (.row 3 [[.i .i64 0,.i .i64 keep,.bo again]])∧e 9=.i .i64 a) ?_ ?_
  ·refine U_lp (fun r e o=>∃ (b:Nat) (P:List Eg),b+r=200∧P=Q++crI f t keep again a b∧e 0=ownV 999999 4 (P.map egC)∧Own o 999999 4 (P.map egC)∧e 1=.sl (bl f)∧e 2=.sl (bl t)∧e 7=.pt 7 0 0∧o 7=some (.row 3 [[.i .i64 0,.i .i64 keep,.bo again]])∧e 9=.i .i64 a∧e 10=.i .i64 b) (k:=200) ?_ (Call_le F) ?_
   ·exact⟨0,Q,by omega,by simp [crI],Z1 r0,by (repeat first|with_reducible assumption|refine .up rfl ?_|refine .sw rfl ?_|refine .swN rfl ?_),Z1 r1,Z1 r2,Z1 r7,Z1 o7,Z1 r9,Zr0⟩
   clear r0 ho0 r1 r2 r7 o7 r9;rintro r' e o ⟨b,P,hbr,hP,r0,ho0,r1,r2,r7,o7,r9,r10⟩;dsimp only[b27_0];by_cases hb:b < 200
   ·have hd2:decide ((b:Int) < 200)=true:=decide_eq_true (by omega);have hw2:=wrapN1 (i:=b) (by omega);have hpb:(0:Int)≤(b:Int):=by omega
    have hlb:(b:Int) < ((200:Nat):Int):=by omega
    have gt:=bl_at t hb;have hPl:P.length≤2000000000+a*200+b:=by
     have:=crI_len f t keep again a b
     rw[hP,List.length_append];omega
    have hPs:P++(if f a&&t b then [(a,(⟨b,keep,again⟩:Mv))] else [])=Q++crI f t keep again a (b+1):=by rw[hP,crI_succ,List.append_assoc]
    clear hP;cases hfa:f a with
    | false =>
     rw[hfa] at gf hPs;rw[Bool.false_and,if_neg (by decide),List.append_nil] at hPs;(repeat (with_reducible (first|refine U_nil ?_|refine UC_sq ?_|refine UC_rg ?_|refine UC_bk ?_|refine UC_sk ?_|refine X_nx ?_|refine B_nx ?_|((first|refine U_q (v:=?_) ?h1 ?_|refine U_ld (v:=?_) ?h1 ?_|refine UC_cdt ?h1 ?_);case h1=>((try simp only[r1,r9,r10,hd2,hw2,hpa,hla,gf,Int.toNat_natCast,go_sem])<;>rfl))|((first|refine U_gs2 ?h1 ?_|refine UC_cdf ?h1 ?_);case h1=>((try simp only[r1,r9,r10,hd2,hw2,hpa,hla,gf,Int.toNat_natCast,go_sem])<;>rfl))|rw[put_some])))
     exact⟨r' - 1,by omega,b+1,P,by omega,hPs,Z1 r0,by (repeat first|with_reducible assumption|refine .up rfl ?_|refine .sw rfl ?_|refine .swN rfl ?_),Z1 r1,Z1 r2,Z1 r7,Z1 o7,Z1 r9,Z0⟩
    | true =>
     rw[hfa] at gf hPs;rw[Bool.true_and] at hPs;cases htb:t b with
     | false =>
      rw[htb] at gt hPs;rw[if_neg (by decide),List.append_nil] at hPs;(repeat (with_reducible (first|refine U_nil ?_|refine UC_sq ?_|refine UC_rg ?_|refine UC_bk ?_|refine UC_sk ?_|refine X_nx ?_|refine B_nx ?_|((first|refine U_q (v:=?_) ?h1 ?_|refine U_ld (v:=?_) ?h1 ?_|refine U_gt ?h1 ?_|refine UC_cdt ?h1 ?_);case h1=>((try simp only[r1,r2,r9,r10,hd2,hw2,hpa,hla,hpb,hlb,gf,gt,Int.toNat_natCast,go_sem])<;>rfl))|(refine UC_cdf ?h1 ?_;case h1=>((try simp only[r1,r2,r9,r10,hd2,hw2,hpa,hla,hpb,hlb,gf,gt,Int.toNat_natCast,go_sem])<;>rfl)))))
      exact⟨r' - 1,by omega,b+1,P,by omega,hPs,Z1 r0,by (repeat first|with_reducible assumption|refine .up rfl ?_|refine .sw rfl ?_|refine .swN rfl ?_),Z1 r1,Z1 r2,Z1 r7,Z1 o7,Z1 r9,Z0⟩
     | true =>
      rw[htb] at gt hPs;rw[if_pos rfl] at hPs;(repeat (with_reducible (first|refine U_nil ?_|refine UC_sq ?_|refine UC_rg ?_|refine UC_bk ?_|refine UC_sk ?_|refine X_nx ?_|((first|refine U_q (v:=?_) ?h1 ?_|refine U_ld (v:=?_) ?h1 ?_|refine U_gt ?h1 ?_|refine UC_cdt ?h1 ?_);case h1=>((try simp only[r0,r1,r2,r7,r9,r10,o7,hd2,hw2,hpa,hla,hpb,hlb,gf,gt,Int.toNat_natCast,go_sem])<;>rfl))|(refine U_bsl (es:=?_) (es':=?_) ?h1 ?h2 ?h3 ?_;case h1|h2|h3=>((try simp only[r0,r1,r2,r7,r9,r10,o7,hd2,hw2,hpa,hla,hpb,hlb,gf,gt,Int.toNat_natCast,go_sem])<;>rfl)))));refine U_appo 999999 (L:=P.map egC) (ys:=[egC (a,⟨b,keep,again⟩)]) (Z1 r0) ?_ (by (simp only[src,go_sem]<;>rfl)) (by simp [egC,mvC]) (by simp) (by omega) ⟨by simp;omega,by omega⟩ (swpR_cls _ ho0.c) rfl ?_
      ·exact Own.h (by (repeat first|with_reducible assumption|refine .up rfl ?_|refine .sw rfl ?_|refine .swN rfl ?_))
      (repeat (with_reducible (first|refine U_nil ?_|refine UC_rg ?_|refine X_nx ?_|refine B_nx ?_|(refine U_q (v:=?_) ?h1 ?_;case h1=>((try simp only[r10,hw2,go_sem])<;>rfl)))));have hm:(P++[(a,(⟨b,keep,again⟩:Mv))]).map egC=P.map egC++[egC (a,⟨b,keep,again⟩)]:=by simp
      exact⟨r' - 1,by omega,b+1,P++[(a,⟨b,keep,again⟩)],by omega,hPs,by rw[hm];simp only[go_sem],by rw[hm];exact Own.to (by rw[← hm];exact eg_cls _),Z1 r1,Z1 r2,Z1 r7,Z1 o7,Z1 r9,Z0⟩
   ·have hd2:decide ((b:Int) < 200)=false:=decide_eq_false (by omega);have hb2:b=200:=by omega
    subst hb2;subst hP;(repeat (with_reducible (first|refine U_nil ?_|refine UC_sq ?_|refine UC_rg ?_|refine UC_ex ?_|refine X_nx ?_|refine X_ex ?_|(refine U_q (v:=?_) ?h1 ?_;case h1=>((try simp only[r10,hd2,go_sem])<;>rfl))|(refine UC_cdf ?h1 ?_;case h1=>((try simp only[r10,hd2,go_sem])<;>rfl)))))
    exact⟨rfl,Z1 r0,by (repeat first|with_reducible assumption|refine .up rfl ?_|refine .sw rfl ?_|refine .swN rfl ?_),Z1 r1,Z1 r2,Z1 r7,Z1 o7,Z1 r9⟩
  clear r0 ho0 r1 r2 r7 o7 r9;rintro e o ⟨r0,ho0,r1,r2,r7,o7,r9⟩;(repeat (with_reducible (first|refine U_nil ?_|refine UC_rg ?_|refine X_nx ?_|refine B_nx ?_|(refine U_q (v:=?_) ?h1 ?_;case h1=>((try simp only[r9,hw,go_sem])<;>rfl)))))
  exact⟨r - 1,by omega,a+1,_,by omega,hQs,Z1 r0,by (repeat first|with_reducible assumption|refine .up rfl ?_|refine .sw rfl ?_|refine .swN rfl ?_),Z1 r1,Z1 r2,Z1 r7,Z1 o7,Z0⟩
 ·have hd:decide ((a:Int) < 200)=false:=decide_eq_false (by omega);have ha2:a=200:=by omega
  subst ha2;rw[crO_all] at hQ;(repeat (with_reducible (first|refine U_nil ?_|refine UC_sq ?_|refine UC_rg ?_|refine UC_ex ?_|refine UC_rt ?_|refine X_nx ?_|refine X_ex ?_|refine B_self ?_|((first|refine U_q (v:=?_) ?h1 ?_|refine E_1 (v:=?_) ?h1 ?_);case h1=>((try simp only[r0,r9,hd,go_sem])<;>rfl))|(refine UC_cdf ?h1 ?_;case h1=>((try simp only[r0,r9,hd,go_sem])<;>rfl)))))
  exact⟨999999,by rw[hQ],fun h=>by rw[← hQ] at h ⊢;exact Own.h (by (repeat first|with_reducible assumption|refine .up rfl ?_|refine .sw rfl ?_|refine .swN rfl ?_)) h⟩
end Go.Proofs.Ytgiedknghbpdfaa
