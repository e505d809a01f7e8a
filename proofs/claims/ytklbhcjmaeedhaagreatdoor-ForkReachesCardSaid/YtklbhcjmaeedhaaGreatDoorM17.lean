import Derived.Test.YtklbhcjmaeedhaaGreatDoorM16

namespace Go.Proofs.YtklbhcjmaeedhaaGreatDoor
set_option linter.all false
variable {e:E} {o:O} {d n:Nat} {l:List Stp} {K:E→O→Prop}
attribute [-go_sem] Qy Qj rfOb V.cells
def QhK {g:Nat} {ods:List Od} {a:V} {q:Nds} (hW:GWk g a 0 0 [] q) (hargs:ods.map (Od.ev e)=[.pt 25 0 0,a,.i .i64 0]) (ha:cld a=true) (m0:o 25=some (.row 2 [[.i .i64 0,.mp 23]])) (m1:o 23=some (egM []))
  (h:∀ o1,o1 25=some (.row 2 [[.i .i64 (q.next:Int),.mp 23]])→o1 23=some (egM q.L)→Own o1 2000 1 (q.first.map inC)→Own o1 2001 1 (q.last.map inC)→(∀ t,t≠25→t≠23→t≠2000→t≠2001→o1 t=ZH [2000,2001] o t)→wpRU (Call F) l K (upd (Zx [2000,2001] e) d (.ag [ownV 2000 1 (q.first.map inC),ownV 2001 1 (q.last.map inC),.bo q.empty])) o1):wpRU (Call F) (⟨some d,none,.nc g ods,[]⟩::l) K e o:=by
 have hra:∀ D,rfI D a=true:=fun D=>XF D a ha;have hre:∀ f,ren f a=a:=fun f=>Kr f a ha;refine Yp (fun s=>if s=1000000 then 25 else if s=1000001 then 23 else s) (fun s=>if s=1000000 then 25 else if s=1000001 then 23 else if s=20 then 2000 else if s=21 then 2001 else s) [2000,2001] hW ?_ ?_ SM ?_ SM (by simp [Qs]) fun o1 g1 g2 g3=>?_
 ·rw[hargs];simp only[renL,hre,ren];rfl
 ·intro p hp;rcases List.mem_cons.1 hp with rfl|hp
  ·simpa [rcM,Qj,renL,ren] using m0
  ·rw[List.mem_singleton.1 hp];simpa [Jt] using m1
 ·refine Q1 (by simp [domA]) (by simp [domA]) (by simp [domA]) ?_ (W1 _ _ _) (Qf6 _ _) (W1 _ _ _) SM (by simp [Qs]) ?_ SM ?_ SM ?_ ?_
  ·simp only[rfL,rfI,hra,Bool.and_true];exact JA (base:=[(1000000,rcM 0),(1000001,egM [])]) (s:=1000000) (by simp [domA])
  ·simp [domA]
  ·simp [domA]
  ·simp [domA]
  ·simp
 ·refine (?_:wpRU (Call F) l K (upd (Zx [2000,2001] e) d (ren _ _)) o1);rw[show ren (fun s=>if s=1000000 then 25 else if s=1000001 then 23 else if s=20 then 2000 else if s=21 then 2001 else s) (.ag [ownV 20 1 (q.first.map inC),ownV 21 1 (q.last.map inC),.bo q.empty])=.ag [ownV 2000 1 (q.first.map inC),ownV 2001 1 (q.last.map inC),.bo q.empty] from by simp only[ren,renL,QY];rfl];refine h o1 ?_ ?_ ⟨Zk (fun _=>rfl) _,g2 (20,1,q.first.map inC) SM⟩ ⟨Zk (fun _=>rfl) _,g2 (21,1,q.last.map inC) SM⟩ fun t h1 h2 h3 h4=>g3 t ?_
  ·have:=g1 _ (List.mem_cons_self ..)
   simpa [rcM,Qj,renL,ren] using this
  ·have:=g1 (1000001,egM q.L) SM
   simpa [Jt] using this
  ·intro s hs;simp [domA] at hs;rcases hs with rfl|rfl|rfl|rfl<;>simp [Ne.symm h1,Ne.symm h2,Ne.symm h3,Ne.symm h4]
def mvR (f:Nat→List Mv):Nat→Nat→List (List V)
 | _,0=>[]
 | k,n+1=>[ownV (6000+k) 3 ((f k).map mvC)]::mvR f (k+1) n
theorem Wf (f:Nat→List Mv):∀ (n k:Nat),(mvR f k n).length=n
 | 0,k=>rfl
 | n+1,k=>by simp [mvR,Wf f n (k+1)]
theorem Xu (f:Nat→List Mv):∀ (n k i:Nat),i < n→(mvR f k n)[i]?=some [ownV (6000+(k+i)) 3 ((f (k+i)).map mvC)]
 | 0,k,i,h=>by omega
 | n+1,k,0,h=>by simp [mvR]
 | n+1,k,i+1,h=>by
  simp only[mvR,List.getElem?_cons_succ];rw[Xu f n (k+1) i OM,show k+1+i=k+(i+1) from by omega]
theorem K3 (f:Nat→List Mv) (d:Nat):∀ (n k:Nat),(d < 6000+k∨6000+(k+n)≤d)→(mvR f k n).map (swpL d)=mvR f k n
 | 0,k,_=>rfl
 | n+1,k,h=>by
  have hd:((6000+k)==d)=false:=by simp;omega
  simp only[mvR,List.map_cons,K3 f d n (k+1) OM,swpL,Xe _ _ _ _ hd]
theorem Qcb:∀ (n k:Nat),mvR (fun _=>[]) k n=List.replicate n [V.nil]
 | 0,k=>rfl
 | n+1,k=>by simp [mvR,Qcb n (k+1),List.replicate_succ,Q5]
def Qgl (f:Nat→List Mv) (n i:Nat) (l:List Mv) (h:i < n):((mvR f 0 n).map (swpL (6000+i))).set i [ownV (6000+i) 3 (l.map mvC)]=mvR (fun p=>if p=i then l else f p) 0 n:=by
 apply List.ext_getElem?;intro j;by_cases hj:j < n
 ·rw[List.getElem?_set,Xu _ n 0 j hj,Nat.zero_add];by_cases hij:i=j
  ·subst hij;rw[if_pos rfl,if_pos (by rw[List.length_map,Wf];exact hj),if_pos rfl]
  ·have hne:((6000+j)==(6000+i))=false:=by simp;omega
   rw[if_neg hij,List.getElem?_map,Xu _ n 0 j hj,Nat.zero_add,if_neg (Ne.symm hij)];simp only[Option.map_some,swpL,Xe _ _ _ _ hne]
 ·rw[List.getElem?_eq_none (by simp [Wf];omega),List.getElem?_eq_none (by simp [Wf];omega)]
def MO (o:O) (f:Nat→List Mv) (n:Nat):Prop:=∀ p,p < n→Own o (6000+p) 3 ((f p).map mvC)
theorem MO.up {o:O} {t:Nat} {f:Nat→List Mv} {n:Nat} {x:Option Ob} (hn:t < 6000∨6000+n≤t) (h:MO o f n):MO (upd o t x) f n:=fun p hp=>(h p hp).up (by simp;omega)
theorem MO.sw {o:O} {d:Nat} {f:Nat→List Mv} {n:Nat} (hn:d < 6000∨6000+n≤d) (h:MO o f n):MO (swpO d o) f n:=fun p hp=>(h p hp).sw (by simp;omega)
def MO.nil:MO o (fun _=>[]) n:=fun p hp=>⟨rfl,fun hh=>absurd rfl hh⟩
def MO.set {f:Nat→List Mv} {i:Nat} {l:List Mv} (h:MO o f n) (hi:i < n):MO (upd (swpO (6000+i) o) (6000+i) (some (.row 3 (l.map mvC)))) (fun p=>if p=i then l else f p) n:=fun p hp=>by
 by_cases hpi:p=i
 ·subst hpi;simp only[if_true];exact .to (Zk (fun _=>rfl) _)
 ·simp only[if_neg hpi];exact ((h p hp).sw (by simp;omega)).up (by simp;omega)
def QgD {cl:Qg} (s:Nat) {sz byt:Nat} {x y:Od} {L ys:List (List V)} {st:List I} (hx:x.ev e=ownV s sz L) (ho:L≠[]→o s=some (.row sz L)) (hs:src o (y.ev e)=some ys) (hsz:∀ c∈ys,c.length=sz) (hne:ys≠[]) (hp:s < 1000000)
  (hso:Zl (L.length+ys.length) byt) (hL:swpR s L=L) (hy:swpR s ys=ys) (hst:stbU (some d) e o (upd (swpE s e) d (ownV s sz (L++ys))) (upd (swpO s o) s (some (.row sz (L++ys)))) st) (h:wpRU cl l K (upd (swpE s e) d (ownV s sz (L++ys))) (upd (swpO s o) s (some (.row sz (L++ys))))):wpRU cl (⟨some d,none,.app sz byt x y,st⟩::l) K e o:=by
 refine U_st ?_;by_cases h0:L=[]
 ·subst h0;have hx:x.ev e=.nil:=hx;simp only[UW,hs,hx]
  refine⟨hsz,by simpa using hso,fun hh=>absurd hh hne,fun _=>⟨s,hp,?_⟩⟩
  rw[hy];have e1:ownV s sz ([]++ys)=.rw s sz 0 ys.length:=by simp [ownV,hne]
  rw[e1] at hst h
  exact⟨hst,h⟩
 ·have hx:x.ev e=.rw s sz 0 L.length:=by rw[hx,ownV,if_neg h0]
  simp only[UW,hs,hx,ho h0]
  refine⟨hsz,trivial,trivial,Nat.le_refl _,hso,fun hh=>absurd hh hne,fun _=>?_⟩
  rw[if_pos hp,List.take_length];have e1:ownV s sz (L++ys)=.rw s sz 0 (L.length+ys.length):=by simp [ownV,h0]
  have e2:swpR s (L++ys)=L++ys:=by
   simp only[swpR,List.map_append] at hL hy ⊢;rw[hL,hy]
  rw[e1] at hst h;rw[e2]
  exact⟨hst,h⟩
end Go.Proofs.YtklbhcjmaeedhaaGreatDoor
