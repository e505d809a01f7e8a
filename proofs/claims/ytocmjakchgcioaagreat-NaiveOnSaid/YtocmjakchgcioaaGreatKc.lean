import Derived.Test.YtocmjakchgcioaaGreatM20
import Derived.Test.YtocmjakchgcioaaGreatA6

namespace Go.Proofs.YtocmjakchgcioaaGreat
set_option linter.all false
attribute [-go_sem] QE Qn rfOb V.cells
theorem QgQ (l:List (List Mv)):QT (l.map mlC)=true:=QS (fun x=>by
 rw[mlC,cldL,cld,QS (fun _=>rfl)];rfl) l
theorem QgY (l:List Bool):QT (l.map boC)=true:=QS (fun _=>rfl) l
theorem XT (A:Au):cldL (auC A)=true:=by
 obtain⟨⟨ak,as_,ap,al,ah⟩,S,Cs,R,Fi,Mo,La,Em⟩:=A;simp only[auC,mpC,Ze,nd8,List.cons_append,List.nil_append];simp only[go_sem,Qcn,QbS,QeE,Qy,QgQ,QgY,Bool.and_true]
theorem QeN (A:Au):(auC A).length=15:=by simp [auC,mpC,QN]
theorem QlE (A:Au):List.take 15 (auC A)=auC A:=List.take_of_length_le (by rw[QeN];exact Nat.le_refl _)
theorem Qkh (A:Au) (d:Nat):swpL d (auC A)=auC A:=Km d (by obtain⟨⟨ak,as_,ap,al,ah⟩,S,Cs,R,Fi,Mo,La,Em⟩:=A;rfl)
theorem au_8 (A:Au):(auC A)[8]?=some (.sl (A.sets.map u4)):=by obtain⟨⟨ak,as_,ap,al,ah⟩,S,Cs,R,Fi,Mo,La,Em⟩:=A;rfl
theorem au_9 (A:Au):(auC A)[9]?=some (.sl (A.scopes.map scC)):=by obtain⟨⟨ak,as_,ap,al,ah⟩,S,Cs,R,Fi,Mo,La,Em⟩:=A;rfl
theorem Qmc (A:Au):(auC A)[10]?=some (.sl (A.around.map lsC)):=by obtain⟨⟨ak,as_,ap,al,ah⟩,S,Cs,R,Fi,Mo,La,Em⟩:=A;rfl
theorem QlY (A:Au):(auC A)[11]?=some (.sl (A.first.map inC)):=by obtain⟨⟨ak,as_,ap,al,ah⟩,S,Cs,R,Fi,Mo,La,Em⟩:=A;rfl
theorem QlB (A:Au):(auC A)[12]?=some (.sl (A.moves.map mlC)):=by obtain⟨⟨ak,as_,ap,al,ah⟩,S,Cs,R,Fi,Mo,La,Em⟩:=A;rfl
theorem Qlk (A:Au):(auC A)[13]?=some (.sl (A.last.map boC)):=by obtain⟨⟨ak,as_,ap,al,ah⟩,S,Cs,R,Fi,Mo,La,Em⟩:=A;rfl
theorem QgW (A:Au):(auC A)[14]?=some (.bo A.empty):=by obtain⟨⟨ak,as_,ap,al,ah⟩,S,Cs,R,Fi,Mo,La,Em⟩:=A;rfl
theorem D6 (A:Au):okf FZ (.ag (auC A))=true:=by obtain⟨⟨ak,as_,ap,al,ah⟩,S,Cs,R,Fi,Mo,La,Em⟩:=A;rfl
theorem QkH (A:Au):clo FZ (.ag (auC A))=true:=by obtain⟨⟨ak,as_,ap,al,ah⟩,S,Cs,R,Fi,Mo,La,Em⟩:=A;rfl
theorem Qfb (s:Int × Int):(scC s).length=2:=rfl
theorem Qlg (s:Int × Int):List.take 2 (scC s)=scC s:=rfl
theorem Ql3 (s:Int × Int) (d:Nat):swpL d (scC s)=scC s:=rfl
theorem sc_0 (s:Int × Int):(scC s)[0]?=some (.i .i64 s.1):=rfl
theorem sc_1 (s:Int × Int):(scC s)[1]?=some (.i .i64 s.2):=rfl
theorem Qi1 (s:Int × Int):cldL (scC s)=true:=rfl
theorem Qjm (s:Int × Int):okf FZ (.ag (scC s))=true:=rfl
theorem Qj9 (s:Int × Int):clo FZ (.ag (scC s))=true:=rfl
theorem QkK (s:Mv):(mvC s).length=3:=rfl
theorem Qly (s:Mv):List.take 3 (mvC s)=mvC s:=rfl
theorem Qlf (s:Mv) (d:Nat):swpL d (mvC s)=mvC s:=rfl
theorem mv_0 (s:Mv):(mvC s)[0]?=some (.i .i64 s.to):=rfl
theorem mv_1 (s:Mv):(mvC s)[1]?=some (.i .i64 s.keep):=rfl
theorem mv_2 (s:Mv):(mvC s)[2]?=some (.bo s.again):=rfl
theorem QiL (s:Mv):cldL (mvC s)=true:=rfl
theorem Qjo (s:Mv):okf FZ (.ag (mvC s))=true:=rfl
theorem QjT (s:Mv):clo FZ (.ag (mvC s))=true:=rfl
theorem XB (s:Cf):(cfC s).length=5:=rfl
theorem QlK (s:Cf):List.take 5 (cfC s)=cfC s:=rfl
theorem Ql9 (s:Cf) (d:Nat):swpL d (cfC s)=cfC s:=rfl
theorem cf_0 (s:Cf):(cfC s)[0]?=some (.i .i64 s.p):=rfl
theorem cf_1 (s:Cf):(cfC s)[1]?=some (.i .i64 s.c0):=rfl
theorem cf_2 (s:Cf):(cfC s)[2]?=some (.i .i64 s.c1):=rfl
theorem cf_3 (s:Cf):(cfC s)[3]?=some (.i .i64 s.c2):=rfl
theorem cf_4 (s:Cf):(cfC s)[4]?=some (.i .i64 s.c3):=rfl
theorem QkQ (s:Cf):cldL (cfC s)=true:=rfl
theorem QeQ (s:Cf):okf FZ (.ag (cfC s))=true:=rfl
theorem Qj3 (s:Cf):clo FZ (.ag (cfC s))=true:=rfl
def i1 (n:Int):List V:=[.i .i64 n]
theorem QlM (s:Cf):List.take 4 (List.drop 1 (cfC s))=(cl4 s).map (V.i .i64):=rfl
theorem QcI (s:Cf) {i:Nat} (h:i < 4):(cfC s)[1+i]?=some (.i .i64 (s.c i)):=by
 match i,h with
 | 0,_=>rfl
 | 1,_=>rfl
 | 2,_=>rfl
 | 3,_=>rfl
def Cf.setC (x:Cf) (i:Nat) (n:Int):Cf:=mkCf x.p fun j=>if j=i then n else x.c j
theorem QkS (x:Cf) (i:Nat) (n:Int):(x.setC i n).p=x.p:=rfl
theorem Qe9 (x:Cf) (i j:Nat) (n:Int) (h:j < 4):(x.setC i n).c j=if j=i then n else x.c j:=Wo _ _ h
theorem DD (s:Cf) {i:Nat} (n:Int) (h:i < 4):splice (1+i) [.i .i64 n] (cfC s)=cfC (s.setC i n):=by
 match i,h with
 | 0,_=>rfl
 | 1,_=>rfl
 | 2,_=>rfl
 | 3,_=>rfl
theorem Hs {x y:Cf} (hp:x.p=y.p) (h:∀ i,i < 4→x.c i=y.c i):x=y:=by
 obtain⟨p,a,b,c,d⟩:=x;obtain⟨p',a',b',c',d'⟩:=y;have h0:=h 0 (by omega);have h1:=h 1 (by omega);have h2:=h 2 (by omega);have h3:=h 3 (by omega);simp only[Cf.c] at h0 h1 h2 h3 hp;subst hp;subst h0;subst h1;subst h2;subst h3;rfl
theorem QiZ (a b:Cf):splice 0 (cfC b) (cfC a)=cfC b:=rfl
theorem Qf0 (x:Cf) (a b c d e:V):splice 0 (cfC x) [a,b,c,d,e]=cfC x:=rfl
theorem Qjx (x:Int × Int) (a b:V):splice 0 (scC x) [a,b]=scC x:=rfl
theorem Qig (x:Mv) (a b c:V):splice 0 (mvC x) [a,b,c]=mvC x:=rfl
theorem Qjn (A:Au) (a1 a2 a3 a4 a5 a6 a7 a8 a9 b1 b2 b3 b4 b5 b6:V):splice 0 (auC A) [a1,a2,a3,a4,a5,a6,a7,a8,a9,b1,b2,b3,b4,b5,b6]=auC A:=by obtain⟨⟨ak,as_,ap,al,ah⟩,S,Cs,R,Fi,Mo,La,Em⟩:=A;rfl
theorem QhH:[V.i .i64 0,.i .i64 0,.i .i64 0,.i .i64 0,.i .i64 0]=cfC noC:=rfl
theorem Qc0 (l:List V):V.cells (.ag l)=l:=rfl
theorem QfQ (k:IntKind) (n:Int):V.cells (.i k n)=[.i k n]:=rfl
theorem QfG (n:Bool):V.cells (.bo n)=[.bo n]:=rfl
attribute [go_sem] Nat.reduceSub slaV QiZ Qf0 Qjx Qig Qjn Qc0 QfQ QfG XT QeN QlE Qkh au_8 au_9 Qmc QlY QlB Qlk QgW D6 QkH Qfb Qlg Ql3 sc_0 sc_1 Qi1 Qjm Qj9 QkK Qly Qlf mv_0 mv_1 mv_2 QiL Qjo QjT XB QlK Ql9 cf_0 cf_1 cf_2 cf_3 cf_4 QkQ QeQ Qj3 QlM
theorem Qb2 (l:List Cf):QT (l.map cfC)=true:=QS QkQ l
theorem QiY (l:List (Int × Int)):QT (l.map scC)=true:=QS Qi1 l
theorem DE (l:List Int):QT (l.map i1)=true:=QS (fun _=>rfl) l
theorem Qlc (l:List Mv):QT (l.map mvC)=true:=QS QiL l
attribute [go_sem] Qb2 QiY DE Qlc
theorem Qg4 (s:Int × Int) (n:Int) (hs:scOk s):Pu F 72 [.ag (scC s),.i .i64 n] (.bo (decide (1≤n)&&decide (n≤topS s))):=by
 refine Qr e72 rfl rfl (by simp only[go_sem,Bool.and_true]) ?_;dsimp only[fn72,c72];by_cases h:s.2 = -1
 ·have e1:(s.2 == -1)=true:=by simpa using h
  (repeat' (first|(with_reducible (first|refine Qa ?_|refine Qc ?_|refine Qb ?_|refine Qf ?_|refine X_nx ?_|refine X_rt ?_|((first|refine U_q (v:=?_) ?h1 ?_|refine U_ld (v:=?_) ?h1 ?_|refine E_1 (v:=?_) ?h1 ?_|refine U_gt ?h1 ?_|refine Qm ?h1 ?_);case h1=>((try simp only[e1,go_sem])<;>rfl))|(refine QC (cs:=?_) (cs':=?_) (n:=?_) ?h1 ?h2 ?h3 ?h4 ?_;case h1|h2|h3|h4=>((try simp only[e1,go_sem])<;>rfl))|(refine Yi ?h1 ?_;case h1=>((try simp only[e1,go_sem])<;>rfl))))|with_reducible (refine U_gb (q:=?_) ?h1 (fun _=>?_) (fun _=>?_);case h1=>((try simp only[e1,go_sem])<;>rfl))|with_reducible (refine Qe (q:=?_) ?h1 (fun _=>?_) (fun _=>?_);case h1=>((try simp only[e1,go_sem])<;>rfl))));all_goals
   refine QJ ?_ rfl;congr 1
   try simp only[Bool.not_true,Bool.not_false,decide_eq_true_eq,decide_eq_false_iff_not] at *
   simp [topS,h]
   try omega
 ·have e1:(s.2 == -1)=false:=by simpa using h
  have e2:¬ s.2 < 0:=by unfold scOk at hs;omega
  (repeat' (first|(with_reducible (first|refine Qa ?_|refine Qc ?_|refine Qb ?_|refine Qg ?_|refine Qf ?_|refine X_nx ?_|((first|refine U_q (v:=?_) ?h1 ?_|refine U_ld (v:=?_) ?h1 ?_|refine E_1 (v:=?_) ?h1 ?_|refine U_gt ?h1 ?_);case h1=>((try simp only[e1,go_sem])<;>rfl))|(refine QC (cs:=?_) (cs':=?_) (n:=?_) ?h1 ?h2 ?h3 ?h4 ?_;case h1|h2|h3|h4=>((try simp only[e1,go_sem])<;>rfl))|((first|refine Yi ?h1 ?_|refine Qk ?h1 ?_);case h1=>((try simp only[e1,go_sem])<;>rfl))))|with_reducible (refine U_gb (q:=?_) ?h1 (fun _=>?_) (fun _=>?_);case h1=>((try simp only[e1,go_sem])<;>rfl))|with_reducible (refine Qe (q:=?_) ?h1 (fun _=>?_) (fun _=>?_);case h1=>((try simp only[e1,go_sem])<;>rfl))));all_goals
   refine QJ ?_ rfl;congr 1
   try simp only[Bool.not_true,Bool.not_false,decide_eq_true_eq,decide_eq_false_iff_not] at *
   simp [topS,e2]
   try omega
theorem Qf3 (s:Int × Int) (n:Int):Pu F 73 [.ag (scC s),.i .i64 n] (.bo (decide (s.1≤n))):=by
 refine Qr e73 rfl rfl (by simp only[go_sem,Bool.and_true]) ?_;dsimp only[fn73,c73];(repeat (with_reducible (first|refine Qa ?_|refine Qc ?_|refine Qb ?_|refine Qf ?_|refine X_nx ?_|((first|refine U_q (v:=?_) ?h1 ?_|refine U_ld (v:=?_) ?h1 ?_|refine E_1 (v:=?_) ?h1 ?_);case h1=>((try simp only[go_sem])<;>rfl))|(refine QC (cs:=?_) (cs':=?_) (n:=?_) ?h1 ?h2 ?h3 ?h4 ?_;case h1|h2|h3|h4=>((try simp only[go_sem])<;>rfl)))));exact QJ (by simp) rfl
theorem Qi2 (s:Int × Int):Pu F 52 [.ag (scC s)] (.i .i64 (topS s)):=by
 refine Qr e52 rfl rfl (by simp only[go_sem,Bool.and_true]) ?_;dsimp only[fn52,c52];by_cases h:s.2 < 0
 ·have e1:decide (s.2 < 0)=true:=by simpa using h
  (repeat (with_reducible (first|refine Qa ?_|refine Qc ?_|refine Qb ?_|refine Qf ?_|refine X_nx ?_|refine X_rt ?_|((first|refine U_q (v:=?_) ?h1 ?_|refine U_ld (v:=?_) ?h1 ?_|refine E_1 (v:=?_) ?h1 ?_|refine Qm ?h1 ?_);case h1=>((try simp only[e1,go_sem])<;>rfl))|(refine QC (cs:=?_) (cs':=?_) (n:=?_) ?h1 ?h2 ?h3 ?h4 ?_;case h1|h2|h3|h4=>((try simp only[e1,go_sem])<;>rfl)))));exact QJ (by simp [topS,h]) rfl
 ·have e1:decide (s.2 < 0)=false:=by simpa using h
  (repeat (with_reducible (first|refine Qa ?_|refine Qc ?_|refine Qb ?_|refine Qg ?_|refine Qf ?_|refine X_nx ?_|((first|refine U_q (v:=?_) ?h1 ?_|refine U_ld (v:=?_) ?h1 ?_|refine E_1 (v:=?_) ?h1 ?_);case h1=>((try simp only[e1,go_sem])<;>rfl))|(refine QC (cs:=?_) (cs':=?_) (n:=?_) ?h1 ?h2 ?h3 ?h4 ?_;case h1|h2|h3|h4=>((try simp only[e1,go_sem])<;>rfl))|(refine Qk ?h1 ?_;case h1=>((try simp only[e1,go_sem])<;>rfl)))));exact QJ (by simp [topS,h]) rfl
def Hn (s:Int × Int) (n:Int):V:=match JR s n with
 | some k=>.tp [.i .i64 k,.bo true]
 | none=>.tp [.i .i64 0,.bo false]
theorem QaR (s:Int × Int) (n:Int) (hs:scOk s) (h1:1≤n) (h2:n≤2147483647):Pu F 130 [.ag (scC s),.i .i64 n] (Hn s n):=by
 refine Qr e130 rfl rfl (by simp only[go_sem,Bool.and_true]) ?_;dsimp only[Qk9,c130];unfold scOk at hs;by_cases h:s.2 = -1
 ·have e1:(s.2 == -1)=true:=by simpa using h
  have e2:IntKind.i64.wrap (s.1 - 1)=s.1 - 1:=Qt (by omega) (by omega);have e3:IntKind.i64.wrap ((if s.1 - 1 < n then s.1 - 1 else n)+1)=(if s.1 - 1 < n then s.1 - 1 else n)+1:=by split<;>exact Qt (by omega) (by omega)
  (repeat (with_reducible (first|refine Qa ?_|refine Qc ?_|refine Qb ?_|refine Ql ?_|refine Qf ?_|refine X_nx ?_|refine X_rt ?_|refine B_rt ?_|((first|refine U_q (v:=?_) ?h1 ?_|refine U_ld (v:=?_) ?h1 ?_|refine Qm ?h1 ?_);case h1=>((try simp only[e1,e2,e3,mxV,go_sem])<;>rfl))|(refine QC (cs:=?_) (cs':=?_) (n:=?_) ?h1 ?h2 ?h3 ?h4 ?_;case h1|h2|h3|h4=>((try simp only[e1,e2,e3,mxV,go_sem])<;>rfl))|(refine E_2 (v:=?_) (u:=?_) ?h1 ?h2 ?_;case h1|h2=>((try simp only[e1,e2,e3,mxV,go_sem])<;>rfl)))));refine QJ ?_ rfl;simp [Hn,JR,h];repeat' split<;>omega
 ·have e1:(s.2 == -1)=false:=by simpa using h
  have e4:¬ s.2 < 0:=by omega
  by_cases hn:n≥s.2
  ·have e2:decide (n≥s.2)=true:=by simpa using hn
   (repeat (with_reducible (first|refine Qa ?_|refine Qc ?_|refine Qb ?_|refine Ql ?_|refine Qf ?_|refine X_nx ?_|refine X_rt ?_|refine B_rt ?_|((first|refine U_q (v:=?_) ?h1 ?_|refine U_ld (v:=?_) ?h1 ?_|refine Qm ?h1 ?_);case h1=>((try simp only[e1,e2,go_sem])<;>rfl))|(refine QC (cs:=?_) (cs':=?_) (n:=?_) ?h1 ?h2 ?h3 ?h4 ?_;case h1|h2|h3|h4=>((try simp only[e1,e2,go_sem])<;>rfl))|(refine Qk ?h1 ?_;case h1=>((try simp only[e1,e2,go_sem])<;>rfl))|(refine E_2 (v:=?_) (u:=?_) ?h1 ?h2 ?_;case h1|h2=>((try simp only[e1,e2,go_sem])<;>rfl)))));exact QJ (by simp [Hn,JR,e4,hn]) rfl
  ·have e2:decide (n≥s.2)=false:=by simpa using hn
   have e3:IntKind.i64.wrap (n+1)=n+1:=Qt (by omega) (by omega);(repeat (with_reducible (first|refine Qa ?_|refine Qc ?_|refine Qb ?_|refine Ql ?_|refine Qg ?_|refine Qf ?_|refine X_nx ?_|refine B_nx ?_|((first|refine U_q (v:=?_) ?h1 ?_|refine U_ld (v:=?_) ?h1 ?_);case h1=>((try simp only[e1,e2,e3,go_sem])<;>rfl))|(refine QC (cs:=?_) (cs':=?_) (n:=?_) ?h1 ?h2 ?h3 ?h4 ?_;case h1|h2|h3|h4=>((try simp only[e1,e2,e3,go_sem])<;>rfl))|(refine Qk ?h1 ?_;case h1=>((try simp only[e1,e2,e3,go_sem])<;>rfl))|(refine E_2 (v:=?_) (u:=?_) ?h1 ?h2 ?_;case h1|h2=>((try simp only[e1,e2,e3,go_sem])<;>rfl)))));exact QJ (by simp [Hn,JR,e4,hn]) rfl
end Go.Proofs.YtocmjakchgcioaaGreat
namespace Go.Proofs.YtocmjakchgcioaaGreat
set_option linter.all false
attribute [-go_sem] QE Qn rfOb V.cells
theorem Qd5 {A:Au} {p:Nat} (hp:p < A.around.length):(A.around.map lsC)[p]?=some [.sl ((arAt A p).map inC)]:=by
 rw[List.getElem?_map,De hp];rfl
theorem Qk3 {A:Au} {i:Nat} (hi:i < A.scopes.length):(A.scopes.map scC)[i]?=some (scC (scI A i)):=by
 rw[List.getElem?_map,QbT hi];rfl
theorem Qgm {l:List Nat} {i:Nat} (hi:i < l.length):(l.map inC)[i]?=some [.i .i64 l[i]]:=by
 rw[List.getElem?_map,List.getElem?_eq_getElem hi];rfl
theorem VO {l:List (Int × Int)} {i:Nat} (hi:i < l.length):(l.map scC)[i]?=some (scC l[i]):=by
 rw[List.getElem?_map,List.getElem?_eq_getElem hi];rfl
theorem Qlm {l:List Int} {i:Nat} (hi:i < l.length):(l.map i1)[i]?=some [.i .i64 l[i]]:=by
 rw[List.getElem?_map,List.getElem?_eq_getElem hi];rfl
theorem Yc {i:Nat} (h:i < 4294967296):IntKind.i64.wrap ((i:Int)+1)=((i+1:Nat):Int):=by rw[Qt (by omega) (by omega)];rfl
theorem Qj5 (l:List (Int × Int)):(l.map scC).all ZI=true:=List.all_eq_true.2 fun c hc=>by obtain⟨x,_,rfl⟩:=List.mem_map.1 hc;rfl
theorem XE (l:List Cf):(l.map cfC).all ZI=true:=List.all_eq_true.2 fun c hc=>by obtain⟨x,_,rfl⟩:=List.mem_map.1 hc;rfl
theorem Ht (l:List Cf) {o:O}:∀ c∈l.map cfC,∀ v∈c,∀ n,frzU (n+1) o v=some v:=fun c hc v hv n=>by
 obtain⟨x,_,rfl⟩:=List.mem_map.1 hc;simp [cfC] at hv;rcases hv with rfl|rfl|rfl|rfl|rfl<;>rfl
theorem Xe {A:Au} (hW:WF A) {p:Nat} (hp:p < A.around.length):Pu F 51 [.ag (auC A),.i .i64 p] (.sl ((scAt A p).map scC)):=by
 refine Qr e51 rfl rfl (by simp only[go_sem,Bool.and_true]) ?_;dsimp only[fn51,c51];have hra:=Qd5 hp;have hpp:(0:Int)≤(p:Int):=by omega
 have h4:=ar_4 hW hp;have hlt:∀ i∈arAt A p,i < A.scopes.length:=fun i hi=>QaA hW hp hi;have hsc:scAt A p=(arAt A p).map (scI A):=rfl;rw[hsc];generalize arAt A p=l at hra h4 hlt;(repeat (with_reducible (first|refine Qa ?_|refine Qc ?_|refine Qb ?_|refine Ql ?_|refine X_nx ?_|((first|refine U_q (v:=?_) ?h1 ?_|refine U_ld (v:=?_) ?h1 ?_);case h1=>((try simp only[hra,hpp,Int.toNat_natCast,List.length_map,go_sem])<;>rfl))|(refine QC (cs:=?_) (cs':=?_) (n:=?_) ?h1 ?h2 ?h3 ?h4 ?_;case h1|h2|h3|h4=>((try simp only[hra,hpp,Int.toNat_natCast,List.length_map,go_sem])<;>rfl)))));refine U_lp (fun r e o=>∃ i:Nat,i+r=l.length∧e 2=.pt 2 0 0∧e 13=.sl (l.map inC)∧e 14=.i .i64 l.length∧e 15=.i .i64 i∧e 5=ownV 27 2 (((l.take i).map (scI A)).map scC)∧Own o 27 2 (((l.take i).map (scI A)).map scC)∧o 2=some (.row 15 [auC A])) (k:=l.length) ?_ (Qh F) ?_
 ·exact⟨0,by omega,Z0,Z0,by simp only[List.length_map,go_sem],Zr0,Zr0,⟨rfl,fun h=>absurd rfl h⟩,Z0⟩
 rintro r e o ⟨i,hir,r2,r13,r14,r15,r5,ho,o2⟩;dsimp only[Qi0];(repeat (with_reducible (first|refine Qa ?_|refine Qc ?_|refine Qb ?_|refine X_nx ?_|(refine U_q (v:=?_) ?h1 ?_;case h1=>((try simp only[r14,r15,go_sem])<;>rfl)))));refine Qe (q:=decide ((i:Int) < (l.length:Int))) (Z0) (fun hc=>?_) (fun hc=>?_)
 ·have hi:i < l.length:=by simpa using hc
  have hip:(0:Int)≤(i:Int):=by omega
  have hxi:=Qgm hi;have hxp:(0:Int)≤(l[i]:Int):=by omega
  have hsi:=Qk3 (hlt l[i] (List.getElem_mem hi));have hw:=Yc (i:=i) (by omega);have htk:((l.take (i+1)).map (scI A)).map scC=((l.take i).map (scI A)).map scC++[scC (scI A l[i])]:=by
   rw[List.take_add_one,List.getElem?_eq_getElem hi];simp only[Option.toList_some,List.map_append,List.map_cons,List.map_nil]
  (repeat (with_reducible (first|refine Qa ?_|refine Qc ?_|refine Qb ?_|refine Ql ?_|refine Qg ?_|refine X_nx ?_|((first|refine U_q (v:=?_) ?h1 ?_|refine U_ld (v:=?_) ?h1 ?_);case h1=>((try simp only[r2,r13,r15,r5,o2,hip,hxi,hxp,hsi,Int.toNat_natCast,go_sem])<;>rfl))|(refine Yu (es:=?_) (es':=?_) ?h1 ?h2 ?h3 ?_;case h1|h2|h3=>((try simp only[r2,r13,r15,r5,o2,hip,hxi,hxp,hsi,Int.toNat_natCast,go_sem])<;>rfl)))));refine YR 27 (L:=((l.take i).map (scI A)).map scC) (ys:=[scC (scI A l[i])]) (Z0) ((ho.sw (by rfl)).up (by rfl)).h (by (simp only[src,go_sem]<;>rfl)) (by simp [Qfb]) (by simp) (by omega) ⟨by simp;omega,by omega⟩ (Zj _ ho.c) rfl ?_;(repeat (with_reducible (first|refine Qa ?_|refine Qb ?_|refine X_nx ?_|refine B_nx ?_|(refine U_q (v:=?_) ?h1 ?_;case h1=>((try simp only[r15,hw,go_sem])<;>rfl)))))
  refine⟨r - 1,by omega,i+1,by omega,Z1 r2,Z1 r13,Z1 r14,Z0,Z1 htk,?_,Z1 o2⟩
  rw[htk];exact Own.to (by rw[← htk];exact Qj5 _)
 ·have hi:i=l.length:=by
   have:¬ i < l.length:=by simpa using hc
   omega
  subst hi;rw[List.take_length] at r5 ho;(repeat (with_reducible (first|refine Qa ?_|refine Qc ?_|refine Qb ?_|refine QW ?_|refine Qf ?_|refine X_nx ?_|refine X_ex ?_|refine Qi ?_|((first|refine U_q (v:=?_) ?h1 ?_|refine E_1 (v:=?_) ?h1 ?_);case h1=>((try simp only[r5,go_sem])<;>rfl)))));exact Yh ho (QeX _) 22
theorem Hh {l:List (Int × Int)} {cs:List Int} (hl:l.length≤cs.length) (h4:l.length≤4):Pu F 50 [.sl (l.map scC),.sl (cs.map i1)] (.bo (Zh l cs)):=by
 refine Qr e50 rfl rfl (by simp only[go_sem,Bool.and_true]) ?_;dsimp only[fn50,c50];(repeat (with_reducible (first|refine Qa ?_|refine Qc ?_|refine Qb ?_|refine Ql ?_|refine X_nx ?_|(refine U_q (v:=?_) ?h1 ?_;case h1=>((try simp only[List.length_map,go_sem])<;>rfl)))));refine U_lp (fun r e o=>∃ i:Nat,i+r=l.length∧e 1=.sl (cs.map i1)∧e 7=.sl (l.map scC)∧e 8=.i .i64 l.length∧e 9=.i .i64 i∧∀ j,j < i→low l j≤(cs[j]?).getD 0) (k:=l.length) ?_ (Qh F) ?_
 ·exact⟨0,by omega,Z0,Z0,by simp only[List.length_map,go_sem],Zr0,fun j h=>absurd h (by omega)⟩
 rintro r e o ⟨i,hir,r1,r7,r8,r9,hp⟩;dsimp only[Qkn];(repeat (with_reducible (first|refine Qa ?_|refine Qc ?_|refine Qb ?_|refine X_nx ?_|(refine U_q (v:=?_) ?h1 ?_;case h1=>((try simp only[r8,r9,go_sem])<;>rfl)))));refine Qe (q:=decide ((i:Int) < (l.length:Int))) (Z0) (fun hc=>?_) (fun hc=>?_)
 ·have hi:i < l.length:=by simpa using hc
  have hic:i < cs.length:=by omega
  have hip:(0:Int)≤(i:Int):=by omega
  have hxi:=VO hi;have hci:=Qlm hic;have hw:=Yc (i:=i) (by omega);have hlow:low l i=l[i].1:=by simp [low,List.getElem?_eq_getElem hi]
  have hcs:(cs[i]?).getD 0=cs[i]:=by simp [List.getElem?_eq_getElem hic]
  have hd:=Qf3 l[i] cs[i];(repeat (with_reducible (first|refine Qa ?_|refine Qc ?_|refine Qb ?_|refine Ql ?_|refine Qg ?_|refine X_nx ?_|((first|refine U_q (v:=?_) ?h1 ?_|refine U_ld (v:=?_) ?h1 ?_|refine QK (n:=?_) ?h1 ?_);case h1=>((try simp only[r1,r7,r9,hip,hxi,hci,Int.toNat_natCast,go_sem])<;>rfl))|(refine Qq (id:=?_) (i:=?_) (j:=?_) (q:=?_) (es:=?_) (cs:=?_) (vs:=?_) (es':=?_) ?h1 ?h2 ?h3 ?h4 ?h5 ?h6 ?h7 ?_;case h1|h2|h3|h4|h5|h6|h7=>((try simp only[r1,r7,r9,hip,hxi,hci,Int.toNat_natCast,go_sem])<;>rfl)))))
  (refine ZU (r:=.bo (decide (l[i].1≤cs[i]))) hd ?h1 ?h2 rfl ?_;(case h1=>((try simp only[r1,r7,r9,go_sem])<;>rfl));(case h2=>simp only[r1,r7,r9,List.all_cons,List.all_nil,Bool.and_true,go_sem]))
  (repeat (with_reducible (first|refine Qa ?_|refine X_nx ?_|(refine U_q (v:=?_) ?h1 ?_;case h1=>((try simp only[go_sem])<;>rfl)))));refine Qe (q:=!decide (l[i].1≤cs[i])) (Z0) (fun hc2=>?_) (fun hc2=>?_)
  ·have h2:¬ l[i].1≤cs[i]:=by simpa using hc2
   have h3:Zh l cs=false:=by
    simp only[Zh,decide_eq_false_iff_not];intro h
    have:=h i hi
    rw[hlow,hcs] at this;exact h2 this
   (repeat (with_reducible (first|refine Qa ?_|refine Qc ?_|refine Qb ?_|refine Qf ?_|refine X_nx ?_|refine X_rt ?_|refine B_rt ?_|((first|refine U_q (v:=?_) ?h1 ?_|refine E_1 (v:=?_) ?h1 ?_);case h1=>((try simp only[go_sem])<;>rfl)))));rw[h3];exact QJ (by simp) rfl
  ·have h2:l[i].1≤cs[i]:=by simpa using hc2
   (repeat (with_reducible (first|refine Qa ?_|refine Qb ?_|refine Qg ?_|refine X_nx ?_|refine B_nx ?_|(refine U_q (v:=?_) ?h1 ?_;case h1=>((try simp only[r9,hw,go_sem])<;>rfl)))))
   refine⟨r - 1,by omega,i+1,by omega,Z1 r1,Z1 r7,Z1 r8,Z0,fun j hj=>?_⟩
   by_cases hji:j=i
   ·subst hji;rw[hlow,hcs];exact h2
   ·exact hp j (by omega)
 ·have hi:i=l.length:=by
   have:¬ i < l.length:=by simpa using hc
   omega
  subst hi;have h3:Zh l cs=true:=by
   simp only[Zh,decide_eq_true_eq];exact hp
  (repeat (with_reducible (first|refine Qa ?_|refine Qc ?_|refine Qb ?_|refine QW ?_|refine Qf ?_|refine X_nx ?_|refine X_ex ?_|refine Qi ?_|((first|refine U_q (v:=?_) ?h1 ?_|refine E_1 (v:=?_) ?h1 ?_);case h1=>((try simp only[go_sem])<;>rfl)))));rw[h3];exact QJ (by simp) rfl
def entI (p:Nat) (i:Nat):Cf:=mkCf p fun j=>if j < i then 1 else 0
theorem D1 (p i:Nat) (h:i < 4):(entI p i).setC i 1=entI p (i+1):=by
 refine Hs rfl fun j hj=>?_;rw[Qe9 _ _ _ _ hj,entI,entI,Wo _ _ hj,Wo _ _ hj];split
 ·rename_i h;subst h;rw[if_pos (by omega)]
 ·rename_i h;by_cases h2:j < i
  ·rw[if_pos h2,if_pos (by omega)]
  ·rw[if_neg h2,if_neg (by omega)]
theorem Qd7 (p n:Nat) (kept:List Int) (h:kept.length≤4):splice 1 ((kept.map i1).take 4).flatten (cfC (entI p n))=cfC (mkCf p (entN n kept)):=by
 match kept,h with
 | [],_=>rfl
 | [a],_=>rfl
 | [a,b],_=>rfl
 | [a,b,c],_=>rfl
 | [a,b,c,d],_=>rfl
theorem VP {A:Au} (hW:WF A) {p:Nat} (hp:p < A.around.length) {kept:List Int} (hk:kept.length≤4):Pu F 65 [.ag (auC A),.i .i64 p,.sl (kept.map i1)] (.ag (cfC (Zn A p kept))):=by
 refine Qr e65 rfl rfl (by simp only[go_sem,Bool.and_true]) ?_;dsimp only[fn65,c65];have hra:=Qd5 hp;have hpp:(0:Int)≤(p:Int):=by omega
 have h4:=ar_4 hW hp;unfold Zn;generalize arAt A p=l at hra h4;(repeat (with_reducible (first|refine Qa ?_|refine Qc ?_|refine Qb ?_|refine Ql ?_|refine X_nx ?_|((first|refine U_q (v:=?_) ?h1 ?_|refine U_ld (v:=?_) ?h1 ?_|refine QK (n:=?_) ?h1 ?_);case h1=>((try simp only[hra,hpp,Int.toNat_natCast,List.length_map,go_sem])<;>rfl))|(refine QC (cs:=?_) (cs':=?_) (n:=?_) ?h1 ?h2 ?h3 ?h4 ?_;case h1|h2|h3|h4=>((try simp only[hra,hpp,Int.toNat_natCast,List.length_map,go_sem])<;>rfl))|(refine Qq (id:=?_) (i:=?_) (j:=?_) (q:=?_) (es:=?_) (cs:=?_) (vs:=?_) (es':=?_) ?h1 ?h2 ?h3 ?h4 ?h5 ?h6 ?h7 ?_;case h1|h2|h3|h4|h5|h6|h7=>((try simp only[hra,hpp,Int.toNat_natCast,List.length_map,go_sem])<;>rfl)))));refine J8 (fun e o=>e 2=.sl (kept.map i1)∧e 6=.pt 6 0 0∧e 7=.pt 7 0 0∧o 6=some (.row 5 [cfC noC])∧o 7=some (.row 5 [cfC (entI p l.length)])) ?_ ?_
 ·refine U_lp (fun r e o=>∃ i:Nat,i+r=l.length∧e 2=.sl (kept.map i1)∧e 6=.pt 6 0 0∧e 7=.pt 7 0 0∧e 17=.i .i64 l.length∧e 18=.i .i64 i∧o 6=some (.row 5 [cfC noC])∧o 7=some (.row 5 [cfC (entI p i)])) (k:=l.length) ?_ (Qh F) ?_
  ·exact⟨0,by omega,Z0,Z0,Z0,by simp only[List.length_map,go_sem],Zr0,Zr0,Zr0⟩
  rintro r e o ⟨i,hir,r2,r6,r7,r17,r18,o6,o7⟩;dsimp only[QjU];(repeat (with_reducible (first|refine Qa ?_|refine Qc ?_|refine Qb ?_|refine X_nx ?_|(refine U_q (v:=?_) ?h1 ?_;case h1=>((try simp only[r17,r18,go_sem])<;>rfl)))));refine Qe (q:=decide ((i:Int) < (l.length:Int))) (Z0) (fun hc=>?_) (fun hc=>?_)
  ·have hi:i < l.length:=by simpa using hc
   have hi4:i < 4:=by omega
   have hip:(0:Int)≤(i:Int):=by omega
   have hi4':((i:Int) < 4)=True:=by simp;omega
   have hspl:=DD (entI p i) 1 hi4;rw[D1 p i hi4] at hspl;have hle:1+i+1≤5:=by omega
   have hw:=Yc (i:=i) (by omega);(repeat (with_reducible (first|refine Qa ?_|refine Qc ?_|refine Qb ?_|refine Ql ?_|refine Qg ?_|refine X_nx ?_|refine B_nx ?_|(refine U_q (v:=?_) ?h1 ?_;case h1=>((try simp only[r7,r18,o7,hip,hi4',hspl,hle,Int.toNat_natCast,Nat.mul_one,List.set_cons_zero,hw,List.getElem?_cons_zero,go_sem])<;>rfl))|(refine Qq (id:=?_) (i:=?_) (j:=?_) (q:=?_) (es:=?_) (cs:=?_) (vs:=?_) (es':=?_) ?h1 ?h2 ?h3 ?h4 ?h5 ?h6 ?h7 ?_;case h1|h2|h3|h4|h5|h6|h7=>((try simp only[r7,r18,o7,hip,hi4',hspl,hle,Int.toNat_natCast,Nat.mul_one,List.set_cons_zero,hw,List.getElem?_cons_zero,go_sem])<;>rfl)))))
   refine⟨r - 1,by omega,i+1,by omega,Z1 r2,Z1 r6,Z1 r7,Z1 r17,Z0,Z1 o6,Z0⟩
  ·have hi:i=l.length:=by
    have:¬ i < l.length:=by simpa using hc
    omega
   subst hi;(repeat (with_reducible (first|refine QW ?_|refine X_ex ?_)))
   exact⟨rfl,r2,r6,r7,o6,o7⟩
 rintro e o ⟨r2,r6,r7,o6,o7⟩;have hspl:=Qd7 p l.length kept hk;(repeat (with_reducible (first|refine Qc ?_|refine Qb ?_|refine X_nx ?_|(refine U_q (v:=?_) ?h1 ?_;case h1=>((try simp only[r2,r6,r7,o6,o7,go_sem])<;>rfl)))));refine Qlb (es':=[cfC (mkCf p (entN l.length kept))]) (ys:=kept.map i1) (Zr0) (by simp only[src,go_sem]) (fun c hc=>by obtain⟨x,_,rfl⟩:=List.mem_map.1 hc;rfl) (Zr1 o7) rfl (Z0) rfl (by simp only[List.set_cons_zero,hspl]) ?_;(repeat (with_reducible (first|refine Qa ?_|refine Qc ?_|refine Qb ?_|refine Qf ?_|refine X_nx ?_|((first|refine U_ld (v:=?_) ?h1 ?_|refine E_1 (v:=?_) ?h1 ?_);case h1=>((try simp only[r6,r7,o6,go_sem])<;>rfl))|(refine Qq (id:=?_) (i:=?_) (j:=?_) (q:=?_) (es:=?_) (cs:=?_) (vs:=?_) (es':=?_) ?h1 ?h2 ?h3 ?h4 ?h5 ?h6 ?h7 ?_;case h1|h2|h3|h4|h5|h6|h7=>((try simp only[r6,r7,o6,go_sem])<;>rfl)))));exact QJ (by simp) rfl
theorem Qg8 {l:List (Int × Int)} {x:Cf} {i:Nat} (h:i < l.length):okAt l x i=(decide (1≤x.c i)&&decide (x.c i≤topS l[i])):=by simp [okAt,List.getElem?_eq_getElem h]
theorem QfA {l:List (Int × Int)} {x:Cf} {i:Nat} (h:¬ i < l.length):okAt l x i=(x.c i==0):=by simp [okAt,List.getElem?_eq_none (Nat.le_of_not_lt h)]
end Go.Proofs.YtocmjakchgcioaaGreat
namespace Go.Proofs.YtocmjakchgcioaaGreat
set_option linter.all false
attribute [-go_sem] QE Qn rfOb V.cells
theorem Qgl {A:Au} {x:Cf} {i:Nat} (hi:i < 4) (h:okAt (scAt A x.p.toNat) x i=false):QM A x=false:=by
 rw[Bool.eq_false_iff];intro h2
 have:=(QU.1 h2).2.2 i hi
 rw[h] at this;cases this
set_option maxHeartbeats 1000000 in
theorem D9 {A:Au} (hW:WF A) (x:Cf):Pu F 49 [.ag (auC A),.ag (cfC x)] (.bo (QM A x)):=by
 have hlen:A.around.length≤41:=by rw[hW.la];exact hW.n
 refine Qr e49 rfl rfl (by simp only[go_sem,Bool.and_true]) ?_;dsimp only[fn49,c49];by_cases h1:x.p < 1
 ·have e1:decide (x.p < 1)=true:=by simpa using h1
  have hr:QM A x=false:=by simp [QM];omega
  (repeat (with_reducible (first|refine Qa ?_|refine Qc ?_|refine Qb ?_|refine Qf ?_|refine X_nx ?_|refine X_rt ?_|((first|refine U_q (v:=?_) ?h1 ?_|refine U_ld (v:=?_) ?h1 ?_|refine E_1 (v:=?_) ?h1 ?_|refine Qm ?h1 ?_);case h1=>((try simp only[e1,go_sem])<;>rfl))|(refine QC (cs:=?_) (cs':=?_) (n:=?_) ?h1 ?h2 ?h3 ?h4 ?_;case h1|h2|h3|h4=>((try simp only[e1,go_sem])<;>rfl))|(refine XK ?h1 ?_;case h1=>((try simp only[e1,go_sem])<;>rfl)))));rw[hr];exact QJ (by simp) rfl
 have e1:decide (x.p < 1)=false:=by simpa using h1
 by_cases h2:x.p≥(A.around.length:Int)
 ·have e2:decide (x.p≥(A.around.length:Int))=true:=by simpa using h2
  have hr:QM A x=false:=by simp [QM];omega
  (repeat (with_reducible (first|refine Qa ?_|refine Qc ?_|refine Qb ?_|refine Qf ?_|refine X_nx ?_|refine X_rt ?_|((first|refine U_q (v:=?_) ?h1 ?_|refine U_ld (v:=?_) ?h1 ?_|refine E_1 (v:=?_) ?h1 ?_|refine U_gt ?h1 ?_|refine Qm ?h1 ?_);case h1=>((try simp only[e1,e2,List.length_map,go_sem])<;>rfl))|(refine QC (cs:=?_) (cs':=?_) (n:=?_) ?h1 ?h2 ?h3 ?h4 ?_;case h1|h2|h3|h4=>((try simp only[e1,e2,List.length_map,go_sem])<;>rfl)))));rw[hr];exact QJ (by simp) rfl
 have e2:decide (x.p≥(A.around.length:Int))=false:=by simpa using h2
 obtain⟨p,hp⟩:∃ p:Nat,x.p=p:=⟨x.p.toNat,by omega⟩;have hpl:p < A.around.length:=by omega
 have hpt:x.p.toNat=p:=by omega
 have ha:=Xe hW hpl;have hs4:(scAt A p).length≤4:=by rw[Yj];exact ar_4 hW hpl
 have hso:∀ s∈scAt A p,scOk s:=fun s hs=>Qgh hW hpl hs;rw[hp] at e1 e2;(repeat (with_reducible (first|refine Qa ?_|refine Qc ?_|refine Qb ?_|refine Qg ?_|refine X_nx ?_|((first|refine U_q (v:=?_) ?h1 ?_|refine U_ld (v:=?_) ?h1 ?_|refine U_gt ?h1 ?_);case h1=>((try simp only[hp,e1,e2,List.length_map,go_sem])<;>rfl))|(refine QC (cs:=?_) (cs':=?_) (n:=?_) ?h1 ?h2 ?h3 ?h4 ?_;case h1|h2|h3|h4=>((try simp only[hp,e1,e2,List.length_map,go_sem])<;>rfl))|(refine Qk ?h1 ?_;case h1=>((try simp only[hp,e1,e2,List.length_map,go_sem])<;>rfl)))))
 (refine U_pc (g:=51) (r:=.sl ((scAt A p).map scC)) (vs:=?_) (ws:=?_) ?h1 ?h2 ?h3 ?h4 ?h5 ?_;(case h1=>((try simp only[go_sem])<;>rfl));(case h2=>refine Qj ?_;first|rfl|simp only[List.all_cons,List.all_nil,Bool.and_true,go_sem]);(case h5=>exact ha);(case h3=>first|exact Bool.or_eq_true_iff.2 (.inr rfl)|(refine Bool.or_eq_true_iff.2 (.inl ?_);simp only[clos,List.all_cons,List.all_nil,Bool.and_true,go_sem]));(case h4=>first|rfl|simp only[go_sem,Bool.and_true]))
 (repeat (with_reducible (first|refine Qa ?_|refine Qc ?_|refine Qb ?_|refine Ql ?_|refine X_nx ?_|((first|refine U_q (v:=?_) ?h1 ?_|refine U_ld (v:=?_) ?h1 ?_);case h1=>((try simp only[go_sem])<;>rfl)))));have hrt:QM A x=(List.range 4).all (okAt (scAt A p) x):=by
  simp [QM,hp,hpt];omega
 have hrf:∀ i,i < 4→okAt (scAt A p) x i=false→QM A x=false:=fun i hi h=>Qgl hi (by rw[hpt];exact h);generalize hl:scAt A p=l at hs4 hso hrt hrf;refine U_lp (fun r e o=>∃ i:Nat,i+r=4∧e 5=.sl (l.map scC)∧e 25=.ag ((cl4 x).map (V.i .i64))∧e 26=.i .i64 i∧∀ j,j < i→okAt l x j=true) (k:=4) ?_ (Qh F) ?_
 ·exact⟨0,by omega,Z0,Z0,Zr0,fun j h=>absurd h (by omega)⟩
 rintro r e o ⟨i,hir,r5,r25,r26,hq⟩;dsimp only[QiX];(repeat (with_reducible (first|refine Qa ?_|refine Qc ?_|refine Qb ?_|refine X_nx ?_|(refine U_q (v:=?_) ?h1 ?_;case h1=>((try simp only[r26,go_sem])<;>rfl)))));refine Qe (q:=decide ((i:Int) < 4)) (Z0) (fun hc=>?_) (fun hc=>?_)
 ·have hi:i < 4:=by simp at hc;omega
  have hip:(0:Int)≤(i:Int):=by omega
  have hi4':((i:Int) < 4)=True:=by simp;omega
  have hw:=Yc (i:=i) (by omega);have hxi:((cl4 x).map (V.i .i64))[i]?=some (.i .i64 (x.c i)):=by rw[List.getElem?_map,Wc x hi];rfl
  (repeat (with_reducible (first|refine Qa ?_|refine Qc ?_|refine Qb ?_|refine Ql ?_|refine Qg ?_|refine X_nx ?_|(refine U_q (v:=?_) ?h1 ?_;case h1=>((try simp only[r5,r25,r26,hip,hi4',hxi,Int.toNat_natCast,Nat.mul_one,go_sem])<;>rfl)))));have nxt:okAt l x i=true→∀ j,j < i+1→okAt l x j=true:=fun h j hj=>by
   by_cases hji:j=i
   ·subst hji;exact h
   ·exact hq j (by omega)
  by_cases hil:i < l.length
  ·have c1:decide ((i:Int) < (l.length:Int))=true:=by simp;omega
   have c2:decide ((i:Int)≥(l.length:Int))=false:=by simp;omega
   have hsi:=VO hil;have hf:=Qg4 l[i] (x.c i) (hso _ (List.getElem_mem hil));rw[← Qg8 hil] at hf;(repeat (with_reducible (first|((first|refine U_q (v:=?_) ?h1 ?_|refine U_ld (v:=?_) ?h1 ?_|refine U_gt ?h1 ?_);case h1=>((try simp only[r5,c1,List.length_map,hip,hsi,Int.toNat_natCast,go_sem])<;>rfl)))))
   (refine ZU (r:=.bo (okAt l x i)) hf ?h1 ?h2 rfl ?_;(case h1=>((try simp only[go_sem])<;>rfl));(case h2=>simp only[List.all_cons,List.all_nil,Bool.and_true,go_sem]))
   cases hok:okAt l x i with
   | true =>
    (repeat (with_reducible (first|refine Qa ?_|refine Qb ?_|refine Qg ?_|refine X_nx ?_|refine B_nx ?_|((first|refine U_q (v:=?_) ?h1 ?_|refine U_gt ?h1 ?_);case h1=>((try simp only[r5,r26,c1,c2,List.length_map,hw,go_sem])<;>rfl))|((first|refine Yi ?h1 ?_|refine Qk ?h1 ?_);case h1=>((try simp only[r5,r26,c1,c2,List.length_map,hw,go_sem])<;>rfl))|rw[Qd])))
    exact⟨r - 1,by omega,i+1,by omega,Z1 r5,Z1 r25,Z0,nxt hok⟩
   | false =>
    (repeat (with_reducible (first|refine Qa ?_|refine Qc ?_|refine Qb ?_|refine Qf ?_|refine X_nx ?_|refine X_rt ?_|refine B_rt ?_|((first|refine U_q (v:=?_) ?h1 ?_|refine E_1 (v:=?_) ?h1 ?_|refine U_gt ?h1 ?_|refine Qm ?h1 ?_);case h1=>((try simp only[r5,r26,c1,c2,List.length_map,hw,go_sem])<;>rfl))|(refine XK ?h1 ?_;case h1=>((try simp only[r5,r26,c1,c2,List.length_map,hw,go_sem])<;>rfl))|(refine U_gj (vs:=?_) ?h1 ?_;case h1=>((try simp only[r5,r26,c1,c2,List.length_map,hw,go_sem])<;>rfl)))));rw[hrf i hi hok];exact QJ (by simp) rfl
  ·have c1:decide ((i:Int) < (l.length:Int))=false:=by simp;omega
   have c2:decide ((i:Int)≥(l.length:Int))=true:=by simp;omega
   have hok:=QfA (x:=x) hil;by_cases hz:x.c i=0
   ·have c3:(x.c i != 0)=false:=by simpa using hz
    (repeat (with_reducible (first|refine Qa ?_|refine Qb ?_|refine Qg ?_|refine X_nx ?_|refine B_nx ?_|((first|refine U_q (v:=?_) ?h1 ?_|refine U_gt ?h1 ?_);case h1=>((try simp only[r5,r26,c1,c2,c3,List.length_map,hw,go_sem])<;>rfl))|((first|refine Yi ?h1 ?_|refine Qk ?h1 ?_);case h1=>((try simp only[r5,r26,c1,c2,c3,List.length_map,hw,go_sem])<;>rfl))|rw[Qd])))
    exact⟨r - 1,by omega,i+1,by omega,Z1 r5,Z1 r25,Z0,nxt (by rw[hok];simpa using hz)⟩
   ·have c3:(x.c i != 0)=true:=by simpa using hz
    (repeat (with_reducible (first|refine Qa ?_|refine Qc ?_|refine Qb ?_|refine Qf ?_|refine X_nx ?_|refine X_rt ?_|refine B_rt ?_|((first|refine U_q (v:=?_) ?h1 ?_|refine E_1 (v:=?_) ?h1 ?_|refine U_gt ?h1 ?_|refine Qm ?h1 ?_);case h1=>((try simp only[r5,r26,c1,c2,c3,List.length_map,hw,go_sem])<;>rfl))|(refine Yi ?h1 ?_;case h1=>((try simp only[r5,r26,c1,c2,c3,List.length_map,hw,go_sem])<;>rfl)))));rw[hrf i hi (by rw[hok];simpa using hz)];exact QJ (by simp) rfl
 ·have hi:i=4:=by simp at hc;omega
  subst hi;(repeat (with_reducible (first|refine Qa ?_|refine Qc ?_|refine Qb ?_|refine QW ?_|refine Qf ?_|refine X_nx ?_|refine X_ex ?_|refine Qi ?_|((first|refine U_q (v:=?_) ?h1 ?_|refine E_1 (v:=?_) ?h1 ?_);case h1=>((try simp only[go_sem])<;>rfl)))));rw[hrt,List.all_eq_true.2 fun i hi=>hq i (List.mem_range.1 hi)];exact QJ (by simp) rfl
theorem QlL {A:Au} {p:Nat} (hp:p < A.last.length):(A.last.map boC)[p]?=some [.bo ((A.last[p]?).getD false)]:=by
 rw[List.getElem?_map,List.getElem?_eq_getElem hp];rfl
theorem Qir {A:Au} (hW:WF A) (x:Cf):Pu F 27 [.ag (auC A),.ag (cfC x)] (.bo (accB A x)):=by
 have hr:=D9 hW x;refine Qr e27 rfl rfl (by simp only[go_sem,Bool.and_true]) ?_;dsimp only[fn27,c27];(repeat (with_reducible (first|refine Qa ?_|refine Qc ?_|refine Qb ?_|refine X_nx ?_|((first|refine U_q (v:=?_) ?h1 ?_|refine U_ld (v:=?_) ?h1 ?_);case h1=>((try simp only[go_sem])<;>rfl))|(refine QC (cs:=?_) (cs':=?_) (n:=?_) ?h1 ?h2 ?h3 ?h4 ?_;case h1|h2|h3|h4=>((try simp only[go_sem])<;>rfl)))))
 (refine ZU (r:=.bo (QM A x)) hr ?h1 ?h2 rfl ?_;(case h1=>((try simp only[go_sem])<;>rfl));(case h2=>simp only[List.all_cons,List.all_nil,Bool.and_true,go_sem]))
 cases hrb:QM A x with
 | false =>
  (repeat (with_reducible (first|refine Qa ?_|refine Qf ?_|refine X_nx ?_|((first|refine U_q (v:=?_) ?h1 ?_|refine E_1 (v:=?_) ?h1 ?_);case h1=>((try simp only[go_sem])<;>rfl))|(refine Yi ?h1 ?_;case h1=>((try simp only[go_sem])<;>rfl)))))
  have:accB A x=false:=by simp [accB,hrb]
  rw[this];exact QJ (by simp) rfl
 | true =>
  obtain⟨h1,h2,h3⟩:=QU.1 hrb;obtain⟨p,hp⟩:∃ p:Nat,x.p=p:=⟨x.p.toNat,by omega⟩;have hpl:p < A.around.length:=by omega
  have hpt:x.p.toNat=p:=by omega
  have hpp:(0:Int)≤(p:Int):=by omega
  have hla:=QlL (A:=A) (p:=p) (by rw[hW.ll,← hW.la];exact hpl);have ha:=Xe hW hpl;have hs4:(scAt A p).length≤4:=by rw[Yj];exact ar_4 hW hpl
  have hl:=Hh (l:=scAt A p) (cs:=cl4 x) hs4 hs4;cases hlb:(A.last[p]?).getD false with
  | false =>
   rw[hlb] at hla;(repeat (with_reducible (first|refine Qa ?_|refine Qf ?_|refine X_nx ?_|((first|refine U_q (v:=?_) ?h1 ?_|refine U_ld (v:=?_) ?h1 ?_|refine E_1 (v:=?_) ?h1 ?_|refine U_gt ?h1 ?_);case h1=>((try simp only[hp,hla,hpp,Int.toNat_natCast,go_sem])<;>rfl))|(refine Yi ?h1 ?_;case h1=>((try simp only[hp,hla,hpp,Int.toNat_natCast,go_sem])<;>rfl)))))
   have:accB A x=false:=by simp [accB,hpt,hlb]
   rw[this];exact QJ (by simp) rfl
  | true =>
   rw[hlb] at hla;(repeat (with_reducible (first|((first|refine U_q (v:=?_) ?h1 ?_|refine U_ld (v:=?_) ?h1 ?_|refine U_gt ?h1 ?_);case h1=>((try simp only[hp,hla,hpp,Int.toNat_natCast,go_sem])<;>rfl)))))
   (refine U_pc (g:=51) (r:=.sl ((scAt A p).map scC)) (vs:=?_) (ws:=?_) ?h1 ?h2 ?h3 ?h4 ?h5 ?_;(case h1=>((try simp only[go_sem])<;>rfl));(case h2=>refine Qj ?_;first|rfl|simp only[List.all_cons,List.all_nil,Bool.and_true,go_sem]);(case h5=>exact ha);(case h3=>first|exact Bool.or_eq_true_iff.2 (.inr rfl)|(refine Bool.or_eq_true_iff.2 (.inl ?_);simp only[clos,List.all_cons,List.all_nil,Bool.and_true,go_sem]));(case h4=>first|rfl|simp only[go_sem,Bool.and_true]))
   (repeat (with_reducible (first|(refine U_gt ?h1 ?_;case h1=>((try simp only[go_sem])<;>rfl)))));refine U_pc (vs:=[.sl ((scAt A p).map scC),.ra 3 0 1 4]) (ws:=[.sl ((scAt A p).map scC),.sl ((cl4 x).map i1)]) (r:=.bo (Zh (scAt A p) (cl4 x))) (Z0) rfl (Bool.or_eq_true_iff.2 (.inr rfl)) rfl hl ?_;(repeat (with_reducible (first|refine Qa ?_|refine Qf ?_|refine X_nx ?_|((first|refine U_q (v:=?_) ?h1 ?_|refine E_1 (v:=?_) ?h1 ?_);case h1=>((try simp only[go_sem])<;>rfl)))))
   have:accB A x=Zh (scAt A p) (cl4 x):=by simp [accB,hpt,hlb,hrb]
   rw[this];exact QJ (by simp) rfl
end Go.Proofs.YtocmjakchgcioaaGreat
namespace Go.Proofs.YtocmjakchgcioaaGreat
set_option linter.all false
attribute [-go_sem] QE Qn rfOb V.cells
theorem H8 (x:Cf) (n:Nat) (hn:n≤4):GenO (Call F) 129 [.ra 1000000 0 1 n] [(1000000,.row 5 [cfC x])] [] (ownV 1 1 (((cl4 x).take n).map i1)) [(1000000,.row 5 [cfC x])] [(1,1,((cl4 x).take n).map i1)] [1000000] []:=by
 have hsrc:∀ o:O,o 1000000=some (.row 5 [cfC x])→src o (.ra 1000000 0 1 n)=some (((cl4 x).take n).map i1):=fun o h=>by
  simp only[src,h,List.getElem?_cons_zero];rw[if_pos (by simp only[XB];omega)]
  match n,hn with
  | 0,_=>rfl
  | 1,_=>rfl
  | 2,_=>rfl
  | 3,_=>rfl
  | 4,_=>rfl
 have hcl:∀ D:List Nat,rfOb D (.row 5 [cfC x])=true:=fun D=>YP (by rfl);have hre:∀ f:Nat→Nat,Qn f (.row 5 [cfC x])=.row 5 [cfC x]:=fun f=>QR (by rfl);refine Yw e129 rfl rfl (by simp [domA]) (by simp) (by simp) (by simp [domA]) fun o hb ho=>?_;dsimp only[QiU,c129];have hb:=hb _ (List.mem_singleton.2 rfl);dsimp only at hb;generalize hL:((cl4 x).take n).map i1=L at hsrc;have hLl:L.length=n:=by subst hL;simp [cl4];omega
 have hLc:QT L=true:=by subst hL;exact DE _
 have hLs:∀ d,swpR d L=L:=fun d=>by subst hL;exact VS (fun _=>rfl) d _
 have hL1:∀ c∈L,c.length=1:=fun c hc=>by subst hL;obtain⟨y,_,rfl⟩:=List.mem_map.1 hc;rfl
 have fin:∀ (o1:O),o1 1000000=some (.row 5 [cfC x])→(L≠[]→o1 7=some (.row 1 L))→GenE (domA (obs [(1000000,.row 5 [cfC x])] [(1,1,L)])) (obs [(1000000,.row 5 [cfC x])] [(1,1,L)]) (ownV 1 1 L) (stOf [1000000] []) (ownV 7 1 L) o1:=fun o1 h1 h2 =>
  QL [(1000000,.row 5 [cfC x])] [(7,1,L)] (fun s=>if s=7 then 1 else s) (by rw[Q6];rfl) (by simp [hre]) rfl (by simp [hLc]) (by simpa using h1) (by simpa using h2) (Zm (by simp)) (by simp [hcl]) (by simp [domA]) (by simp)
 have fin0:∀ (o1:O),o1 1000000=some (.row 5 [cfC x])→L=[]→GenE (domA (obs [(1000000,.row 5 [cfC x])] [(1,1,L)])) (obs [(1000000,.row 5 [cfC x])] [(1,1,L)]) (ownV 1 1 L) (stOf [1000000] []) .nil o1:=fun o1 h1 h2=>by
  have:=fin o1 h1 (fun h=>absurd h2 h)
  have e:ownV 7 1 L=.nil:=by rw[h2];rfl
  rw[e] at this;exact this
 by_cases h0:n=0
 ·have hL0:L=[]:=List.eq_nil_of_length_eq_zero (by omega);subst h0;(repeat (with_reducible (first|refine Qa ?_|refine Qc ?_|refine Qb ?_|refine X_nx ?_|(refine U_q (v:=?_) ?h1 ?_;case h1=>((try simp only[go_sem])<;>rfl)))));refine Qe0 (Zr0) fun p=>?_;cases p with
  | true =>
   (repeat (with_reducible (first|refine Qa ?_|refine Qc ?_|refine Qb ?_|refine Qf ?_|refine X_nx ?_|refine X_rt ?_|((first|refine U_q (v:=?_) ?h1 ?_|refine E_1 (v:=?_) ?h1 ?_|refine Qm ?h1 ?_);case h1=>((try simp only[go_sem])<;>rfl)))));exact fin0 _ hb hL0
  | false =>
   (repeat (with_reducible (first|refine Qa ?_|refine Qc ?_|refine Qb ?_|refine Qg ?_|refine X_nx ?_|(refine U_q (v:=?_) ?h1 ?_;case h1=>((try simp only[go_sem])<;>rfl))|refine Dy ?_|(refine Qk ?h1 ?_;case h1=>((try simp only[go_sem])<;>rfl)))));refine Ko (Z0) (by simp only[go_sem];rw[hsrc _ hb,hL0]) (by omega) ?_;(repeat (with_reducible (first|refine Qa ?_|refine Qf ?_|refine X_nx ?_|((first|refine U_q (v:=?_) ?h1 ?_|refine E_1 (v:=?_) ?h1 ?_);case h1=>((try simp only[go_sem])<;>rfl)))));exact fin0 _ hb hL0
 ·have hz:szV (.ra 1000000 0 1 n)=some true:=by simp [szV,h0]
  (repeat (with_reducible (first|refine Qa ?_|refine Qc ?_|refine Qb ?_|refine Qg ?_|refine X_nx ?_|((first|refine U_q (v:=?_) ?h1 ?_|refine QhW ?h1 ?_);case h1=>((try simp only[hz,go_sem])<;>rfl))|refine Dy ?_|(refine Qk ?h1 ?_;case h1=>((try simp only[hz,go_sem])<;>rfl)))));refine Qck 7 (n:=n) (ys:=L) (ys':=L) (Z0) (by simp only[go_sem];rw[hsrc _ hb]) hL1 hLl (by simpa using h0) (by omega) ⟨by omega,by omega⟩ (hLs _) ?_;(repeat (with_reducible (first|refine Qa ?_|refine Qf ?_|refine X_nx ?_|((first|refine U_q (v:=?_) ?h1 ?_|refine E_1 (v:=?_) ?h1 ?_);case h1=>((try simp only[go_sem])<;>rfl)))))
  have:=fin (upd (swpO 7 o) 7 (some (.row 1 L))) (Z1 hb) (fun _=>Z0)
  have e:ownV 7 1 L=.rw 7 1 0 n:=by unfold ownV;rw[if_neg (by intro h;rw[h] at hLl;simp at hLl;omega),hLl]
  rw[e] at this;exact this
theorem Qa5 {e:E} {o:O} {d:Nat} {ods:List Od} (a b:Nat) (x:Cf) (n:Nat) {l:List Stp} {K:E→O→Prop} (hn:n≤4) (hab:(a==b)=false) (hb:b < 1000000) (hargs:ods.map (Od.ev e)=[.ra a 0 1 n]) (ho:o a=some (.row 5 [cfC x]))
  (h:∀ o1,o1 a=some (.row 5 [cfC x])→Own o1 b 1 (((cl4 x).take n).map i1)→(∀ t,t≠a→t≠b→o1 t=ZE [b] o t)→wpRU (Call F) l K (upd (Zt [b] e) d (ownV b 1 (((cl4 x).take n).map i1))) o1):wpRU (Call F) (⟨some d,none,.nc 129 ods,[]⟩::l) K e o:=by
 have hab:a≠b:=by simpa using hab
 have hcl:∀ D:List Nat,rfOb D (.row 5 [cfC x])=true:=fun D=>YP (by rfl);have hre:∀ f:Nat→Nat,Qn f (.row 5 [cfC x])=.row 5 [cfC x]:=fun f=>QR (by rfl);refine ZX (fun s=>if s=1000000 then a else s) (fun s=>if s=1000000 then a else if s=1 then b else s) [b] (H8 x n hn) ?_ ?_ (by simp) ?_ (by simp) (fun q hq=>by rw[List.mem_singleton.1 hq];exact DE _) fun o1 g1 g2 g3=>?_
 ·rw[hargs];simp only[renL,ren,if_true]
 ·intro p hp;rw[List.mem_singleton.1 hp];dsimp only;rw[hre,if_pos rfl];exact ho
 ·refine QI (by simp [domA]) (by simp [domA,hab]) (by simp [domA]) ?_ (by simp [hcl]) (Zm (by simp)) (by simp [hcl]) (by simp) (fun q hq=>by rw[List.mem_singleton.1 hq];exact DE _) (by simp [domA,hab]) (by simp) (by simp [domA]) (by simp) (by simp [domA]) (by simp [hb]);simp only[rfL,Bool.and_true,rfI];exact Zq (by simp [domA])
 ·rw[show ren (fun s=>if s=1000000 then a else if s=1 then b else s) (ownV 1 1 (((cl4 x).take n).map i1))=ownV b 1 (((cl4 x).take n).map i1) from by rw[Q6];rfl];have k1:=g1 _ (List.mem_singleton.2 rfl);dsimp only at k1;rw[hre,if_pos rfl] at k1;refine h o1 k1 ⟨List.all_eq_true.2 fun c hc=>by obtain⟨y,_,rfl⟩:=List.mem_map.1 hc;rfl,g2 (1,1,((cl4 x).take n).map i1) (by simp)⟩ fun t k1 k2=>g3 t fun s hs=>?_;simp [domA] at hs;rcases hs with rfl|rfl
  ·simp [Ne.symm k1]
  ·simp [Ne.symm k2]
def mayV (r:Option Cf):V:=match r with
 | some y=>.tp [.ag (cfC y),.bo true]
 | none=>.tp [.ag (cfC noC),.bo false]
theorem QiR {o:O} {a:Nat} {x:Cf} (h:o a=some (.row 5 [cfC x])) {k:Nat} (hk:k≤4):fzU o (.ra a 0 (1+k) (4 - k))=some (.sl (((cl4 x).drop k).map i1)):=by
 have hs:src o (.ra a 0 (1+k) (4 - k))=some (((cl4 x).drop k).map i1):=by
  simp only[src,h,List.getElem?_cons_zero];rw[if_pos (by simp only[XB];omega)]
  match k,hk with
  | 0,_=>rfl
  | 1,_=>rfl
  | 2,_=>rfl
  | 3,_=>rfl
  | 4,_=>rfl
 show (match src o (.ra a 0 (1+k) (4 - k)) with
   | some es=>(es.mapM fun c:List V=>c.mapM (frzU 23 o)).map V.sl
   | none=>none)=_
 rw[hs];dsimp only;rw[Z7 fun c hc v hv=>by
  obtain⟨y,_,rfl⟩:=List.mem_map.1 hc;simp [i1] at hv;subst hv;rfl]
 rfl
theorem QjE (l:List Int) {o:O}:∀ c∈l.map i1,∀ v∈c,∀ n,frzU (n+1) o v=some v:=fun c hc v hv n=>by
 obtain⟨x,_,rfl⟩:=List.mem_map.1 hc;simp [i1] at hv;subst hv;rfl
theorem Qhn {A:Au} {p:Nat} {o:O} {s:Nat} {K:List Int} (h:Own o s 1 (K.map i1)):fzsU o [.ag (auC A),.i .i64 p,ownV s 1 (K.map i1)]=some [.ag (auC A),.i .i64 p,.sl (K.map i1)]:=by
 have h1:fzU o (.ag (auC A))=some (.ag (auC A)):=Y6 (D6 A);have h2:fzU o (.i .i64 (p:Int))=some (.i .i64 p):=rfl;have h3:fzU o (ownV s 1 (K.map i1))=some (.sl (K.map i1)):=Yh h (QjE K) 22;simp [fzsU,h1,h2,h3]
theorem Qkw {o:O} {a:Nat} {x:Cf} (h:o a=some (.row 5 [cfC x])) {k:Nat} (hk:k≤4) (l:List (Int × Int)):fzsU o [.sl (l.map scC),.ra a 0 (1+k) (4 - k)]=some [.sl (l.map scC),.sl (((cl4 x).drop k).map i1)]:=by
 have h1:fzU o (.sl (l.map scC))=some (.sl (l.map scC)):=rfl;simp [fzsU,h1,QiR h hk]
end Go.Proofs.YtocmjakchgcioaaGreat
