import Derived.Test.YtklbhcjmaeedhaaGreatDoorKd

namespace Go.Proofs.YtklbhcjmaeedhaaGreatDoor
set_option linter.all false
variable {o:O} {e:E} {d:Nat} {ods:List Od} {l:List Stp} {K:E→O→Prop}
attribute [-go_sem] Qy Qj rfOb V.cells
def Qf9 (a:Int):Pu F 85 [.i .i64 a] (.bo false):=by
 refine Qh e85 rfl rfl (by simp only[go_sem,Bool.and_true]) ?_;dsimp only[fn85,c85];refine RN trivial ?_;exact Qp SM rfl
def Wj (a b:Int):Pu F 51 [.i .i64 a,.i .i64 b] (.i .i64 (cmpI a b)):=by
 have h1:=Qf9 a;have h2:=Qf9 b;refine Qh e51 rfl rfl (by simp only[go_sem,Bool.and_true]) ?_;dsimp only[fn51,c51];(repeat' (first|refine RSN trivial ?_|((with_reducible refine PCN trivial (r:=.bo false) ?h ?_);case h=>exact h1)|((with_reducible refine PCN trivial (r:=.bo false) ?h ?_);case h=>exact h2)|with_reducible refine GBN trivial (fun _=>?_) (fun _=>?_)|with_reducible refine GDN trivial (fun _=>?_) (fun _=>?_)));all_goals
  refine Qp ?_ rfl;simp only[decide_eq_true_eq,decide_eq_false_iff_not] at *;congr 1;unfold cmpI;(repeat' split)<;>first|rfl|omega
def Qgd (a b:Int):Pu F 50 [.sl [[.i .i64 a],[.i .i64 b]]] (.i .i64 (orI2 a b)):=by
 have w1:IntKind.i64.wrap 1=1:=by decide
 have w2:IntKind.i64.wrap 2=2:=by decide
 have hc:QQ [[V.i .i64 a],[.i .i64 b]]=true:=rfl;refine Qh e50 rfl rfl (by simp only[go_sem,hc,Bool.and_true]) ?_;dsimp only[fn50,c50];by_cases ha:a=0
 ·subst ha;by_cases hb:b=0
  ·subst hb;refine RN trivial ?_;refine YR (Qa F) ?_;conv in Wc=>unfold Wc
   refine RN w1 ?_;refine YR (Qa F) ?_;conv in Wc=>unfold Wc
   refine RN w2 ?_;refine YR (Qa F) ?_;conv in Wc=>unfold Wc
   refine RN trivial ?_;rfl
  ·have hb1:(b != 0)=true:=by simpa using hb
   refine RN trivial ?_;refine YR (Qa F) ?_;conv in Wc=>unfold Wc
   refine RN w1 ?_;refine YR (Qa F) ?_;conv in Wc=>unfold Wc
   refine RN hb1 ?_;exact Qp (by simp [orI2]) rfl
 ·have ha1:(a != 0)=true:=by simpa using ha
  refine RN trivial ?_;refine YR (Qa F) ?_;conv in Wc=>unfold Wc
  refine RN ha1 ?_;exact Qp (by simp [orI2,ha]) rfl
def Qfd (x y:Mv):(if orI2 (cmpI x.to y.to) (cmpI x.keep y.keep)=0 then (if x.again=y.again then 0 else if y.again then -1 else 1) else orI2 (cmpI x.to y.to) (cmpI x.keep y.keep))=ZL x y:=by
 rcases x with⟨a,b,c⟩;rcases y with⟨a',b',c'⟩;dsimp only;have e1:cmpI a a'=if a < a' then -1 else if a' < a then 1 else 0:=by simp only[cmpI,Int.ofNat_lt]
 have e2:cmpI b b'=if b < b' then -1 else if b' < b then 1 else 0:=by simp only[cmpI,Int.ofNat_lt]
 rw[e1,e2];clear e1 e2;by_cases h1:a < a'<;>by_cases h2:a' < a<;>by_cases h3:b < b'<;>by_cases h4:b' < b<;>simp [orI2,ZL,h1,h2,h3,h4]
def QeN (x y:Mv):Pu F 27 [.ag (mvC x),.ag (mvC y)] (.i .i64 (ZL x y)):=by
 have h1:=Wj x.to y.to;have h2:=Wj x.keep y.keep;have h3:=Qgd (cmpI x.to y.to) (cmpI x.keep y.keep);rw[← Qfd];generalize cmpI x.to y.to=c1 at h1 h3 ⊢;generalize cmpI x.keep y.keep=c2 at h2 h3 ⊢;generalize orI2 c1 c2=c3 at h3 ⊢;rcases x with⟨x1,x2,x3⟩;rcases y with⟨y1,y2,y3⟩;simp only[mvC] at h1 h2 ⊢;refine Qh e27 rfl rfl (by simp only[go_sem,Bool.and_true]) ?_;dsimp only[fn27,c27];(repeat' (first|refine RSN trivial ?_|((with_reducible refine PCN trivial (r:=.i .i64 c1) ?h ?_);case h=>exact h1)|((with_reducible refine PCN trivial (r:=.i .i64 c2) ?h ?_);case h=>exact h2)|((with_reducible refine PCN trivial (r:=.i .i64 c3) ?h ?_);case h=>exact h3)|with_reducible refine GBN trivial (fun _=>?_) (fun _=>?_)|with_reducible refine GDN trivial (fun _=>?_) (fun _=>?_)));refine U_pc (vs:=[.rw 16 1 0 2]) (ws:=[.sl [[.i .i64 c1],[.i .i64 c2]]]) (r:=.i .i64 c3) (Z0) rfl (Bool.or_eq_true_iff.2 (.inr rfl)) rfl h3 ?_;have b1:(true==true)=true:=rfl;have b2:(true==false)=false:=rfl;have b3:(false==true)=false:=rfl;have b4:(false==false)=true:=rfl;by_cases hz:c3=0
 ·subst hz;cases x3<;>cases y3;all_goals
   refine RN (Ad4 b1 b2 b3 b4) ?_
   first|rfl|exact Qp SM rfl
 ·have hz1:(c3==0)=false:=by simpa using hz
  simp only[if_neg hz];refine RN hz1 ?_
  first|rfl|exact Qp SM rfl
def mixed:Tryz.prog.follows .mixedOrders=true:=by kernel_rfl
def Qai {α β:Type} {x:Option α} {f:α→β} {y:β} (hf:∀ a,f a≠y) (h:x.map f=some y):False:=by
 cases x with
 | none=>cases h
 | some a=>injection h with h;exact hf a h
def fz_i {v:V} {k:IntKind} {n:Int} (h:fz o v=some (.i k n)):v=.i k n:=by
 have h:frz (23+1) o v=some (.i k n):=h;cases v<;>rw[frz] at h;all_goals first
  | exact (Qai (fun a h=>by cases h) h).elim
  | (cases h;done)
  | (cases h;rfl)
  | (split at h;exact (Qai (fun a h=>by cases h) h).elim;cases h)
  | (intros;contradiction)
def Hr (x y:Mv):Snd Tryz.prog 27 [.ag (mvC x),.ag (mvC y)] emp (fun v _=>v=.i .i64 (ZL x y)) :=
 QiF mixed Qdb (Qa F _ _ _ _ _ (fun _ _ h=>fz_i h) (QeN x y))
def Qer (l:List Nat):(((l.map fun (n:Nat)=>(n:Int)).mergeSort fun x y=>decide (x≤y)).map fun z=>[V.i .i64 z])=(srtN l).map inC:=by
 have:(srtN l).map (fun (n:Nat)=>(n:Int))=(l.map fun (n:Nat)=>(n:Int)).mergeSort fun x y=>decide (x≤y) :=
  List.map_mergeSort (fun a _ b _=>by simp)
 rw[← this,List.map_map];rfl
def Qhw (s:Nat) {l0:List Nat} (h1:l0.length≤1000) (hargs:ods.map (Od.ev e)=[ownV s 1 (l0.map inC)]) (f1:Own o s 1 (l0.map inC))
  (h:∀ o1,Own o1 s 1 ((srtN l0).map inC)→(∀ t,t≠s→o1 t=o t)→wpRU (Call F) l K (upd e d (.tp [])) o1):wpRU (Call F) (⟨some d,none,.nc 25 ods,[]⟩::l) K e o:=by
 have hF:F 25=none:=rfl;by_cases h0:l0=[]
 ·subst h0;refine U_rd s (L:=[]) (sz:=1) (res:=fun _=>.tp []) (pre:=[]) (post:=[]) hargs rfl rfl rfl (fun hh=>absurd rfl hh) (fun v o' K' hv hK=>?_) (fun m x _=>.tp [] [] rfl (fun j _ _ h1=>by simp at h1)) ?_
  ·rcases hv with⟨_,rfl⟩|⟨hh,_⟩
   ·exact Ym hF (Qjo ⟨rfl,.inl ⟨rfl,hK o' fun i x hx=>hx⟩⟩)
   ·exact absurd rfl hh
  ·exact h o ⟨by simp [srtN],fun hh=>by simp [srtN] at hh⟩ fun _ _=>rfl
 ·have hl:(l0.map inC)≠[]:=W9 h0;have ho:=f1.h hl;rw[QC h0] at hargs;refine U_nc (s:=s) (q:=1) (es:=l0.map inC) (es':=(srtN l0).map inC) (r:=.tp []) hargs ho ?_ ?_ rfl (by simp [Wz]) (fun id o' K' ho' hK=>?_) ?_
  ·rw[okLL,List.all_eq_true];intro c hc;obtain⟨x,_,rfl⟩:=List.mem_map.1 hc;rfl
  ·rw[okLL,List.all_eq_true];intro c hc;obtain⟨x,_,rfl⟩:=List.mem_map.1 hc;rfl
  ·simp only[List.map_cons,List.map_nil,refV,beq_self_eq_true,if_true];refine Ym hF (Qjo ⟨rfl,.inr ⟨id,l0.map fun (n:Nat)=>(n:Int),SM,?_,by simp;omega,?_⟩⟩)
   ·rw[ho',List.map_map];rfl
   ·rw[Qer];exact hK _ (by simp [upd]) fun i x hi hx=>by simp [upd,hi,hx]
  ·exact h _ (.to (Zk (fun _=>rfl) _)) fun t ht=>by simp [upd,ht]
def QhQ (s:Nat) {l0:List Mv} (h1:l0.length < 4611686018427387904) (hargs:ods.map (Od.ev e)=[ownV s 3 (l0.map mvC),.fn 27 []]) (f1:Own o s 3 (l0.map mvC))
  (h:∀ o1,Own o1 s 3 ((srtM l0).map mvC)→(∀ t,t≠s→o1 t=o t)→wpRU (Call F) l K (upd e d (.tp [])) o1):wpRU (Call F) (⟨some d,none,.nc 26 ods,[]⟩::l) K e o:=by
 have hF:F 26=none:=rfl;by_cases h0:l0=[]
 ·subst h0;refine U_rd s (L:=[]) (sz:=3) (res:=fun _=>.tp []) (pre:=[]) (post:=[.fn 27 []]) hargs rfl rfl rfl (fun hh=>absurd rfl hh) (fun v o' K' hv hK=>?_) (fun m x _=>.tp [] [] rfl (fun j _ _ h1=>by simp at h1)) ?_
  ·rcases hv with⟨_,rfl⟩|⟨hh,_⟩
   ·exact Ym hF (Qje ⟨rfl,_,Hr,.inl ⟨rfl,hK o' fun i x hx=>hx⟩⟩)
   ·exact absurd rfl hh
  ·exact h o ⟨by simp [srtM],fun hh=>by simp [srtM] at hh⟩ fun _ _=>rfl
 ·have hl:(l0.map mvC)≠[]:=by simpa using h0
  have ho:=f1.h hl;rw[QC h0] at hargs;refine U_nc (s:=s) (q:=3) (es:=l0.map mvC) (es':=(srtM l0).map mvC) (r:=.tp []) hargs ho ?_ ?_ rfl (by simp only[List.all_cons,List.all_nil,Wz,beq_self_eq_true];rfl) (fun id o' K' ho' hK=>?_) ?_
  ·rw[okLL,List.all_eq_true];intro c hc;obtain⟨x,_,rfl⟩:=List.mem_map.1 hc;rfl
  ·rw[okLL,List.all_eq_true];intro c hc;obtain⟨x,_,rfl⟩:=List.mem_map.1 hc;rfl
  ·simp only[List.map_cons,List.map_nil,refV,beq_self_eq_true,if_true];refine Ym hF (Qje ⟨rfl,_,Hr,.inr ⟨id,l0,rfl,ho',OM,?_⟩⟩);exact hK _ (by simp [upd];rfl) fun i x hi hx=>by simp [upd,hi,hx]
  ·exact h _ (.to (Zk (fun _=>rfl) _)) fun t ht=>by simp [upd,ht]
end Go.Proofs.YtklbhcjmaeedhaaGreatDoor
