import Derived.Test.YtocmjakchgcioaaGreatC12

namespace Go.Proofs.YtocmjakchgcioaaGreat
set_option linter.all false
attribute [-go_sem] Qr Qb rfOb V.cells
def rst1 (A:Au) (x:Cf) (b:Nat) (out:List Cf) (m:Mv):List Cf:=match mayF A x m with
 | some y=>if Zd (stAt A m.to) b=true∧y ∉ out then out++[y] else out
 | none=>out
def rstL (A:Au) (x:Cf) (b:Nat) (ms:List Mv):List Cf:=ms.foldl (rst1 A x b) []
theorem Km (A:Au) (x:Cf) (b:Nat):∀ (ms:List Mv) (out:List Cf),out.Nodup→(ms.foldl (rst1 A x b) out).Nodup∧(ms.foldl (rst1 A x b) out).length≤out.length+ms.length∧∀ y,y∈ms.foldl (rst1 A x b) out↔y∈out∨y∈Zv A x b ms
 | [],out,h=>⟨h,SM,fun y=>by simp [Zv]⟩
 | m::ms,out,h=>by
  have h1:(rst1 A x b out m).Nodup∧(rst1 A x b out m).length≤out.length+1∧∀ y,y∈rst1 A x b out m↔y∈out∨(if Zd (stAt A m.to) b then mayF A x m else none)=some y:=by
   unfold rst1;cases hv:mayF A x m with
   | none=>exact⟨h,SM,fun y=>by simp⟩
   | some z =>
    dsimp only;by_cases hb:Zd (stAt A m.to) b=true
    ·by_cases hz:z∈out
     ·rw[if_neg (fun hh=>hh.2 hz)]
      refine⟨h,OM,fun y=>?_⟩
      rw[if_pos hb];constructor
      ·exact .inl
      ·rintro (hh|hh)
       ·exact hh
       ·cases hh;exact hz
     ·rw[if_pos ⟨hb,hz⟩]
      refine⟨List.nodup_append.2 ⟨h,SM,fun a ha c hc e=>?_⟩,SM,fun y=>?_⟩
      ·rw[List.mem_singleton.1 hc] at e;rw[e] at ha;exact hz ha
      ·rw[if_pos hb,List.mem_append,List.mem_singleton];constructor
       ·rintro (hh|hh)
        ·exact .inl hh
        ·exact .inr (by rw[hh])
       ·rintro (hh|hh)
        ·exact .inl hh
        ·exact .inr (Option.some.inj hh).symm
    ·rw[if_neg (fun hh=>hb hh.1)]
     exact⟨h,OM,fun y=>by simp [hb]⟩
  obtain⟨g1,g2,g3⟩:=Km A x b ms (rst1 A x b out m) h1.1;rw[List.foldl_cons]
  refine⟨g1,by simp only[List.length_cons];omega,fun y=>?_⟩
  rw[g3,h1.2.2];have hs:y∈Zv A x b (m::ms)↔(if Zd (stAt A m.to) b then mayF A x m else none)=some y∨y∈Zv A x b ms:=by
   unfold Zv;rw[List.filterMap_cons];cases hv:(if Zd (stAt A m.to) b then mayF A x m else none) with
   | none=>simp
   | some z =>
    simp only[List.mem_cons,Option.some.injEq];constructor
    ·rintro (h|h)
     ·exact .inl h.symm
     ·exact .inr h
    ·rintro (h|h)
     ·exact .inl h.symm
     ·exact .inr h
  rw[hs,or_assoc]
def Vy {o:O} {s:Nat} {L:List Cf} {y:Cf} (h:Own o s 5 (L.map cfC)):fzsU o [ownV s 5 (L.map cfC),.ag (cfC y)]=some [.sl (L.map cfC),.ag (cfC y)]:=by
 have h1:fzU o (ownV s 5 (L.map cfC))=some (.sl (L.map cfC)):=ZJ h (Hd L) 22;have h2:fzU o (.ag (cfC y))=some (.ag (cfC y)):=YR (Qfc y);simp [fzsU,h1,h2]
set_option maxHeartbeats 2000000 in
def QdY {A:Au} (hW:WF A) (hL:∀ l∈A.moves,l.length < 2147483648) {x:Cf} (hr:Qy A x=true) {b:Nat} (hb:b < 256):Pu F 13 [.ag (auC A),.ag (cfC x),.i .u8 b] (.sl ((rstL A x b (mvAt A x.p.toNat)).map cfC)):=by
 obtain⟨r1,r2,_⟩:=QG.1 hr;obtain⟨p,hp⟩:∃ p:Nat,x.p=p:=⟨x.p.toNat,OM⟩;have hpt:x.p.toNat=p:=by omega
 have hpp:(0:Int)≤(p:Int):=by omega
 have hpl:p < A.moves.length:=by rw[hW.lm,← hW.la];omega
 have hmo:=Qkb hpl;have hml:=hL _ (List.mem_of_getElem? (XU hpl));have hmk:∀ m∈mvAt A p,MvOk A x.p.toNat m:=fun m hm=>mvOk hW (XU (p:=x.p.toNat) (by rw[hpt];exact hpl)) (by rw[hpt];exact hm);have hwb:IntKind.i64.wrap (b:Int)=b:=Qg OM OM;rw[hpt];generalize mvAt A p=l at hmo hml hmk;refine Qe e13 rfl rfl (by simp only[go_sem,Bool.and_true]) ?_;dsimp only[fn13,c13];refine RN trivial ?_;refine U_lp (fun r e o=>∃ i:Nat,i+r=l.length∧e 2=.i .u8 b∧e 3=.pt 3 0 0∧e 4=.pt 4 0 0∧e 8=.i .i64 i∧e 7=ownV 61 5 ((rstL A x b (l.take i)).map cfC)∧Own o 61 5 ((rstL A x b (l.take i)).map cfC)∧o 3=some (.row 15 [auC A])∧o 4=some (.row 5 [cfC x])) (k:=l.length) ?_ (Qa F) ?_
 ·exact⟨0,OM,Z0,Z0,Z0,Zr0,Zr0,⟨rfl,fun h=>absurd rfl h⟩,Z0,Z0⟩
 rintro r e o ⟨i,hir,r2,r3,r4,r8,r7,ho,o3,o4⟩;dsimp only[Qir];have hln:=(Km A x b (l.take i) [] List.nodup_nil).2.1;rw[List.length_take,List.length_nil] at hln;have hln:(rstL A x b (l.take i)).length≤i:=by unfold rstL;omega
 refine RT (Ad4 hp r3 r4 (Ad5 r8 o3 o4 hmo hpp)) ?_;refine Qk (q:=decide ((i:Int) < (l.length:Int))) (Z0) (fun hc=>?_) (fun hc=>?_)
 ·have hi:i < l.length:=by simpa using hc
  have hip:(0:Int)≤(i:Int):=by omega
  have hxi:=QeE hi;have hw:=ZP (i:=i) OM;have htk:rstL A x b (l.take (i+1))=rst1 A x b (rstL A x b (l.take i)) l[i]:=by
   rw[List.take_add_one,List.getElem?_eq_getElem hi];simp only[rstL,Option.toList_some,List.foldl_append,List.foldl_cons,List.foldl_nil]
  have hmi:=hmk l[i] (List.getElem_mem hi);generalize l[i]=m at hxi htk hmi;generalize rstL A x b (l.take i)=L at r7 ho hln htk;have hto:m.to < A.sets.length:=by rw[← hW.la];exact hmi.to
  have hst:=Qht hto;have htp:(0:Int)≤(m.to:Int):=by omega
  have hhas:=QgI (stAt A m.to) (st_w hW hto) b hb;have hmay:=QhC hW hr hmi;cases hv:mayF A x m with
  | none =>
   rw[hv] at hmay;have htk:rstL A x b (l.take (i+1))=L:=by rw[htk];simp [rst1,hv]
   refine RT (Ad2 hp (Ad5 r3 r4 r8 o3 (Ad5 o4 hmo hpp hip hxi))) ?_;refine PRN (Ad2 r3 r4) (r:=.tp [.ag (cfC noC),.bo false]) hmay ?_;refine RN (Ad2 r8 hw) ?_
   refine⟨r - 1,OM,i+1,OM,Z1 r2,Z1 r3,Z1 r4,Z0,by rw[htk];simp only[r7,go_sem],?_,Z1 o3,Z1 o4⟩
   rw[htk];(repeat first|with_reducible assumption|refine .up rfl ?_|refine .sw rfl ?_|refine .swN rfl ?_)
  | some y =>
   rw[hv] at hmay;refine RT (Ad2 hp (Ad5 r3 r4 r8 o3 (Ad5 o4 hmo hpp hip hxi))) ?_;refine PRN (Ad2 r3 r4) (r:=.tp [.ag (cfC y),.bo true]) hmay ?_;refine RT (Ad2 r2 (Ad5 r3 o3 htp hst hwb)) ?_;refine PRN (Ad2 hwb r2) (r:=.bo (Zd (stAt A m.to) b)) hhas ?_;cases hbt:Zd (stAt A m.to) b with
   | false =>
    have htk:rstL A x b (l.take (i+1))=L:=by rw[htk];simp [rst1,hv,hbt]
    refine RN (Ad2 r8 hw) ?_
    refine⟨r - 1,OM,i+1,OM,Z1 r2,Z1 r3,Z1 r4,Z0,by rw[htk];simp only[r7,go_sem],?_,Z1 o3,Z1 o4⟩
    rw[htk];(repeat first|with_reducible assumption|refine .up rfl ?_|refine .sw rfl ?_|refine .swN rfl ?_)
   | true =>
    have hhc:=HT y L OM;refine RN r7 ?_;refine U_pc (vs:=[ownV 61 5 (L.map cfC),.ag (cfC y)]) (ws:=[.sl (L.map cfC),.ag (cfC y)]) (r:=.bo (decide (y∈L))) (Z1 r7) (Vy (by (repeat first|with_reducible assumption|refine .up rfl ?_|refine .sw rfl ?_|refine .swN rfl ?_))) (Bool.or_eq_true_iff.2 (.inr rfl)) rfl hhc ?_;by_cases hy:y∈L
    ·have d1:decide (y∈L)=true:=by simpa using hy
     have htk:rstL A x b (l.take (i+1))=L:=by rw[htk];simp [rst1,hv,hy]
     refine RN (Ad3 d1 r8 hw) ?_
     refine⟨r - 1,OM,i+1,OM,Z1 r2,Z1 r3,Z1 r4,Z0,by rw[htk];simp only[r7,go_sem],?_,Z1 o3,Z1 o4⟩
     rw[htk];(repeat first|with_reducible assumption|refine .up rfl ?_|refine .sw rfl ?_|refine .swN rfl ?_)
    ·have d1:decide (y∈L)=false:=by simpa using hy
     have htk:rstL A x b (l.take (i+1))=L++[y]:=by rw[htk];simp [rst1,hv,hbt,hy]
     refine RN (Ad2 d1 r7) ?_;refine Yx 61 (L:=L.map cfC) (ys:=[cfC y]) (Z1 r7) ?_ (by (simp only[src,go_sem]<;>rfl)) (by simp [WL]) SM OM ⟨by simp;omega,OM⟩ (QY _ ho.c) rfl ?_
     ·exact Own.h (by (repeat first|with_reducible assumption|refine .up rfl ?_|refine .sw rfl ?_|refine .swN rfl ?_))
     refine RN (Ad2 r8 hw) ?_
     refine⟨r - 1,OM,i+1,OM,Z1 r2,Z1 r3,Z1 r4,Z0,by simp only[htk,List.map_append,go_sem],?_,Z1 o3,Z1 o4⟩
     rw[htk,List.map_append];exact Own.to (by have:=WT (L++[y]);rw[List.map_append] at this;exact this)
 ·have hi:i=l.length:=by
   have:¬ i < l.length:=by simpa using hc
   omega
  subst hi;rw[List.take_length] at r7 ho;refine RN r7 ?_;exact ZJ ho (Hd _) 22
end Go.Proofs.YtocmjakchgcioaaGreat
