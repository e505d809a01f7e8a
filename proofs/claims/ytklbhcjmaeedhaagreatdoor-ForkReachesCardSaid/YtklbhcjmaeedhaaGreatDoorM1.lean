import Derived.Test.YtklbhcjmaeedhaaGreatDoorKa
import Derived.Test.YtklbhcjmaeedhaaGreatDoorMu

namespace Go.Proofs.YtklbhcjmaeedhaaGreatDoor
set_option linter.all false
variable {o:O} {e:E} {d g:Nat} {ods:List Od} {vs:List V} {r:V} {l:List Stp} {K:E→O→Prop}
attribute [go_sem] List.take_succ_cons List.take_zero List.drop_succ_cons List.drop_zero
def Qp {v w:V} (h:v=w) (hk:okf FZ v=true):fzU o v=some w:=by rw[← h];exact JM hk
set_option maxHeartbeats 1000000 in
def Vf (k:Int) (s:Nat→Nat) (ps:List Nd) (lo hi:Int):Pu F 61 [.ag (cel (.mk k s ps lo hi))] (.tp [.ag (scC (low1 lo,hi)),.bo (cnts k lo hi)]):=by
 refine Qh e61 rfl rfl (by simp only[go_sem,Bool.and_true]) ?_;dsimp only[fn61,c61];rw[QZ];(repeat' (first|refine RST nd8.eq_1 ?_|with_reducible refine GBT nd8.eq_1 (fun _=>?_) (fun _=>?_)|with_reducible refine GDT nd8.eq_1 (fun _=>?_) (fun _=>?_)));all_goals
  refine Qp ?_ RM;simp only[scC,low1,cnts];simp_all
mutual
theorem DR:∀ (n:Nat) (v:V),flat n v=true→cld v=true
 | 0,_,h=>by cases h
 | n+1,.ag cs,h=>WT n cs (by simpa [flat,List.all_eq_true] using h)
 | n+1,.tp cs,h=>WT n cs (by simpa [flat,List.all_eq_true] using h)
 | _+1,.jk,_=>rfl
 | _+1,.bo _,_=>rfl
 | _+1,.i _ _,_=>rfl
 | _+1,.s _,_=>rfl
 | _+1,.np,_=>rfl
 | _+1,.nm,_=>rfl
 | _+1,.nf,_=>rfl
theorem WT:∀ (n:Nat) (cs:List V),(∀ v∈cs,flat n v=true)→cldL cs=true
 | _,[],_=>rfl
 | n,v::cs,h=>by
  rw[cldL,DR n v (h v SM),WT n cs fun w hw=>h w (by simp [hw])];rfl
end
def QiS (hcall:Pu F g vs r) (hvs:ods.map (Od.ev e)=vs) (hok:vs.all (okf FZ)=true) (hfl:flat FZ r=true) (h:wpRU (Call F) l K (upd e d r) o):wpRU (Call F) (⟨some d,none,.pc g ods,[]⟩::l) K e o :=
 U_pc hvs (Zp hok) (Bool.or_eq_true_iff.2 (.inr hfl)) (DR _ _ hfl) hcall h
def PRN {c:Prop} (a:c) (hcall:Pu F g vs r) (h:wpRU (Call F) l K (upd e d r) o) (h1:c→ods.map (Od.ev e)=vs:=by intro H;((try simp only[H,go_sem])<;>rfl)) (h2:c→vs.all (okf FZ)=true:=by intro H;simp only[H,List.all_cons,List.all_nil,Bool.and_true,go_sem]) (h3:flat FZ r=true:=by rfl):wpRU (Call F) (⟨some d,none,.pc g ods,[]⟩::l) K e o:=QiS hcall (h1 a) (h2 a) h3 h
def PRT {c:Prop} (a:c) (hcall:Pu F g vs r) (h:wpRU (Call F) l K (upd e d r) o) (h1:c→ods.map (Od.ev e)=vs:=by intro H;((try simp only[H,beq_self_eq_true,List.take_succ_cons,List.take_zero,List.drop_succ_cons,List.drop_zero,Int.toNat_natCast,List.length_map,go_sem])<;>rfl)) (h2:c→vs.all (okf FZ)=true:=by intro H;simp only[H,beq_self_eq_true,List.take_succ_cons,List.take_zero,List.drop_succ_cons,List.drop_zero,Int.toNat_natCast,List.length_map,List.all_cons,List.all_nil,Bool.and_true,go_sem]) (h3:flat FZ r=true:=by rfl):wpRU (Call F) (⟨some d,none,.pc g ods,[]⟩::l) K e o:=QiS hcall (h1 a) (h2 a) h3 h
end Go.Proofs.YtklbhcjmaeedhaaGreatDoor
