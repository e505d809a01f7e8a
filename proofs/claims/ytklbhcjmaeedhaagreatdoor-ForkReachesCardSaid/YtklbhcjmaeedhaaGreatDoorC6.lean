import Derived.Test.YtklbhcjmaeedhaaGreatDoorC5
import Derived.Test.YtklbhcjmaeedhaaGreatDoorT1

namespace Go.Proofs.YtklbhcjmaeedhaaGreatDoor
set_option linter.all false
variable {l:List Cf} {n:Nat} {y:Cf}
attribute [-go_sem] Qy Qj rfOb V.cells
def cp (l:List Cf):Nat→List Cf
 | 0=>[]
 | n+1=>match l[n]? with
  | none=>cp l n
  | some y=>if 0 < n∧l[n - 1]?=some y then cp l n else cp l n++[y]
def cmpC (l:List Cf):List Cf:=cp l l.length
def padC (l:List Cf):List Cf:=cmpC l++List.replicate (l.length - (cmpC l).length) noC
theorem Qcq (l:List Cf):∀ n,(cp l n).length≤n
 | 0=>by simp [cp]
 | n+1=>by
  have:=Qcq l n
  simp only[cp];split
  ·omega
  ·split
   ·omega
   ·simp;omega
def Hh (l:List Cf):(cmpC l).length≤l.length:=Qcq l _
def Qh6 (h:l[n]?=some y) (h0:0 < n) (h1:l[n - 1]?=some y):cp l (n+1)=cp l n:=by
 simp only[cp,h];rw[if_pos ⟨h0,h1⟩]
def QiN {z:Cf} (h:l[n]?=some y) (h1:l[n - 1]?=some z) (hn:y≠z):cp l (n+1)=cp l n++[y]:=by
 simp only[cp,h];rw[if_neg (fun hh=>hn (by rw[h1] at hh;exact (Option.some.inj hh.2).symm))]
def QfK (h:0 < l.length):cp l 1=l.take 1:=by
 cases l with
 | nil=>simp at h
 | cons a l=>simp [cp]
def QbF (x y:Cf):eqps [.i .i64,.i .i64,.i .i64,.i .i64,.i .i64] (cfC x) (cfC y)=some (decide (x=y)):=by
 obtain⟨p,a,b,c,d⟩:=x;obtain⟨p',a',b',c',d'⟩:=y;simp only[cfC,eqps,lfEq,and_self,if_true,Bool.and_true];congr 1;rw[Bool.eq_iff_iff];simp [and_assoc]
def Qkg (x y:Cf):eqV true [.i .i64,.i .i64,.i .i64,.i .i64,.i .i64] (.ag (cfC x)) (.ag (cfC y))=some (decide (x=y)):=QbF x y
def QmO (b:Bool):(b != false)=b:=by cases b<;>rfl
def QmZ (b:Bool):(b != true)=!b:=by cases b<;>rfl
attribute [go_sem] QbF Qkg QmO QmZ
def HH {i:Nat} (hi:i < l.length):(l.map cfC)[i]?=some (cfC l[i]):=by
 rw[List.getElem?_map,List.getElem?_eq_getElem hi];rfl
def XW (l:List Cf) (f:Nat→Nat):Qj f (.row 5 (l.map cfC))=.row 5 (l.map cfC):=Q2 (DC l)
def Ka (l:List Cf) (D:List Nat):rfOb D (.row 5 (l.map cfC))=true:=YD (DC l)
def VA:GenO (Call F) 30 [.nil] [] [] .nil [] [] [] []:=by
 refine YS e30 rfl rfl (by simp [domA]) SM SM (by simp [domA]) fun o hb ho=>?_;dsimp only[fn30,c30];refine RN trivial ?_;exact Zg [] [] (fun s=>s) (by rw[ren]) rfl rfl SM SM SM (by rw[rfI]) rfl SM SM
set_option maxHeartbeats 2000000 in
def VC (l:List Cf) (h0:0 < l.length) (hb:l.length≤2147483647):GenO (Call F) 30 [.rw 1000000 5 0 l.length] [(1000000,.row 5 (l.map cfC))] [] (.rw 1000000 5 0 (cmpC l).length) [(1000000,.row 5 ((padC l).map cfC))] [] [1000000] []:=by
 refine YS e30 rfl rfl (by simp [domA]) SM SM (by simp [domA]) fun o hbo ho=>?_;dsimp only[fn30,c30];have o1:=hbo _ (List.mem_singleton.2 rfl);clear hbo ho;dsimp only at o1;have fin:∀ (o1:O) (m:Nat),o1 1000000=some (.row 5 ((padC l).map cfC))→m=(cmpC l).length→GenE (domA (obs [(1000000,.row 5 ((padC l).map cfC))] [])) (obs [(1000000,.row 5 ((padC l).map cfC))] []) (.rw 1000000 5 0 (cmpC l).length) (stOf [1000000] []) (.rw 1000000 5 0 m) o1:=fun o1 m h1 hm=>by
  subst hm;exact Zg [(1000000,.row 5 ((padC l).map cfC))] [] (fun s=>s) (by rw[ren]) (by simp [XW]) rfl SM (by simpa using h1) SM (ZW _ _ _ _ _) (by simp [Ka]) (by simp [domA]) SM
 have whole:cp l l.length=l.take l.length→padC l=l∧(cmpC l).length=l.length:=fun h=>by
  have h2:cmpC l=l:=by rw[cmpC,h,List.take_length]
  exact⟨by rw[padC,h2];simp,by rw[h2]⟩
 by_cases h2:l.length < 2
 ·have c1:decide ((l.length:Int) < 2)=true:=by simp;omega
  obtain⟨w1,w2⟩:=whole (by have:l.length=1:=by omega
                           rw[this];exact QfK h0)
  refine RN c1 ?_;exact fin _ _ (by rw[w1];exact o1) w2.symm
 have c1:decide ((l.length:Int) < 2)=false:=by simp;omega
 refine RN c1 ?_;refine U_lp (fun r e o=>∃ k:Nat,1≤k∧k+r=l.length∧e 0=.rw 1000000 5 0 l.length∧e 3=.i .i64 k∧o 1000000=some (.row 5 (l.map cfC))∧cp l k=l.take k) (k:=l.length - 1) ?_ (Qa F) ?_
 ·exact⟨1,OM,OM,Z0,Zr0,o1,QfK h0⟩
 clear o1 c1;rintro r e o ⟨k,hk1,hkr,r0,r3,o1,hcp⟩;dsimp only[Qln];refine RN (Ad2 r0 r3) ?_;refine Qv (q:=decide ((k:Int) < (l.length:Int))) (Z0) (fun hc=>?_) (fun hc=>?_)
 ·have hk:k < l.length:=by simpa using hc
  have hkp:(0:Int)≤(k:Int):=by omega
  have hkl:((k:Int) < (l.length:Int))=True:=by simp;omega
  have hk1':(0:Int)≤((k - 1:Nat):Int):=by omega
  have hkl1:(((k - 1:Nat):Int) < (l.length:Int))=True:=by simp;omega
  have hw:=Zu (i:=k) OM;have hw2:IntKind.i64.wrap ((k:Int) - 1)=((k - 1:Nat):Int):=by rw[Qi OM OM];omega
  have hx:=HH hk;have hy:=HH (l:=l) (i:=k - 1) OM;refine RT (Ad2 r0 (Ad5 r3 o1 hkp hkl (Ad5 hk1' hkl1 hw2 hx hy))) ?_;refine Qv (q:=decide (l[k]=l[k - 1])) (Z0) (fun hc2=>?_) (fun hc2=>?_)
  ·have he:l[k]=l[k - 1]:=by simpa using hc2
   have hcut:(k≤l.length)=True:=by simp;omega
   (repeat (with_reducible (first|refine YK ?_|refine ZM ?_|refine Y3 ?_|refine K8 ?_|refine X_nx ?_|(refine U_q (v:=?_) ?h1 ?_;case h1=>((try simp only[r0,r3,cutV,hcut,hkp,Nat.le_refl,Nat.zero_add,Int.toNat_natCast,go_sem])<;>rfl)))));refine Z4 (fun e o=>∃ (k':Nat) (X:List Cf),e 0=.rw 1000000 5 0 l.length∧e 3=.i .i64 k'∧o 1000000=some (.row 5 (X.map cfC))∧X.length=l.length∧X.take k'=cmpC l∧k'=(cmpC l).length) ?_ ?_
   ·refine U_lp (fun r e o=>∃ (j k':Nat) (X:List Cf),1≤j∧k+j+r=l.length∧e 0=.rw 1000000 5 0 l.length∧e 3=.i .i64 k'∧e 4=.rw 1000000 5 k (l.length - k)∧e 5=.i .i64 j∧o 1000000=some (.row 5 (X.map cfC))∧X.length=l.length∧k'+1≤k+j∧X.take k'=cp l (k+j)∧k'=(cp l (k+j)).length∧∀ i,k+j≤i+1→X[i]?=l[i]?) (k:=l.length - k - 1) ?_ (Qa F) ?_
    ·have e1:cp l (k+1)=l.take k:=by
      rw[Qh6 (List.getElem?_eq_getElem hk) OM (by rw[List.getElem?_eq_getElem OM,he]),hcp]
     exact⟨1,k,l,OM,OM,Z1 r0,Z1 r3,Z0,Zr0,Z1 o1,rfl,OM,e1.symm,by rw[e1];simp;omega,fun _ _=>rfl⟩
    clear r0 r3 o1 hx hy hcp;rintro r e o ⟨j,k',X,hj1,hjr,r0,r3,r4,r5,o1,hXl,hkk,hXt,hkc,hXe⟩;dsimp only[Qkw];refine RN (Ad2 r4 r5) ?_;refine Qv (q:=decide ((j:Int) < ((l.length - k:Nat):Int))) (Z0) (fun hc3=>?_) (fun hc3=>?_)
    ·have hj:j < l.length - k:=by
      have:=of_decide_eq_true hc3;omega
     have hjp:(0:Int)≤(j:Int):=by omega
     have hjl:((j:Int) < ((l.length - k:Nat):Int))=True:=by simp only[eq_iff_iff,iff_true];omega
     have hj1':(0:Int)≤((j - 1:Nat):Int):=by omega
     have hjl1:(((j - 1:Nat):Int) < ((l.length - k:Nat):Int))=True:=by simp only[eq_iff_iff,iff_true];omega
     have hwj:=Zu (i:=j) OM;have hwj2:IntKind.i64.wrap ((j:Int) - 1)=((j - 1:Nat):Int):=by rw[Qi OM OM];omega
     have hwk:=Zu (i:=k') OM;have g1:l[k+j]?=some l[k+j]:=List.getElem?_eq_getElem OM;have g2:l[k+(j - 1)]?=some l[k+(j - 1)]:=List.getElem?_eq_getElem OM;have hx:(X.map cfC)[k+j]?=some (cfC l[k+j]):=by rw[List.getElem?_map,hXe _ OM,g1];rfl
     have hy:(X.map cfC)[k+(j - 1)]?=some (cfC l[k+(j - 1)]):=by rw[List.getElem?_map,hXe _ OM,g2];rfl
     have g3:l[k+j - 1]?=some l[k+(j - 1)]:=by rw[show k+j - 1=k+(j - 1) by omega];exact g2
     generalize l[k+j]=a at g1 hx;generalize l[k+(j - 1)]=b at g2 g3 hy;refine RT (Ad2 r4 (Ad5 r5 o1 hjp hjl (Ad5 hj1' hjl1 hwj2 hx hy))) ?_;refine Qv (q:=!decide (a=b)) (Z0) (fun hc4=>?_) (fun hc4=>?_)
     ·have hab:a≠b:=by simpa using hc4
      have hkl':k' < X.length:=by omega
      have hkp':(0:Int)≤(k':Int):=by omega
      have hkl2:((k':Int) < (l.length:Int))=True:=by simp;omega
      have hz:=HH hkl';have hset:(X.map cfC).set k' (cfC a)=(X.set k' a).map cfC:=by simp [List.map_set]
      have hcp2:cp l (k+j+1)=cp l (k+j)++[a]:=QiN g1 g3 hab;refine RT (Ad2 r0 (Ad5 r3 r4 r5 o1 (Ad5 hjp hjl hx hkp' (Ad5 hkl2 hz hset hwj hwk)))) ?_
      refine⟨r - 1,OM,j+1,k'+1,X.set k' a,OM,OM,Z1 r0,Z0,Z1 r4,Z0,Z0,by simpa using hXl,OM,?_,?_,fun i hi=>?_⟩
      ·rw[show k+(j+1)=k+j+1 by omega,hcp2,List.take_add_one,List.take_set_of_le (Nat.le_refl _),hXt];simp [hkl']
      ·rw[show k+(j+1)=k+j+1 by omega,hcp2,List.length_append,← hkc];rfl
      ·rw[List.getElem?_set_ne OM];exact hXe i OM
     ·have hab:a=b:=by simpa using hc4
      have hcp2:cp l (k+j+1)=cp l (k+j):=Qh6 g1 OM (by rw[g3,hab]);refine RN (Ad2 r5 hwj) ?_
      refine⟨r - 1,OM,j+1,k',X,OM,OM,Z1 r0,Z1 r3,Z1 r4,Z0,Z1 o1,hXl,OM,by rw[show k+(j+1)=k+j+1 by omega,hcp2];exact hXt,by rw[show k+(j+1)=k+j+1 by omega,hcp2];exact hkc,fun i hi=>hXe i OM⟩
    ·have hj:k+j=l.length:=by
      have:=of_decide_eq_false hc3;omega
     rw[hj] at hXt hkc;refine RN trivial ?_
     exact⟨rfl,k',X,Z1 r0,Z1 r3,Z1 o1,hXl,hXt,hkc⟩
   clear r0 r3 o1 hx hy hcp;rintro e o ⟨k',X,r0,r3,o1,hXl,hXt,hkc⟩;have hkle:k'≤l.length:=by rw[hkc];exact Hh l
   have hkp':(0:Int)≤(k':Int):=by omega
   have hcut2:(k'≤l.length)=True:=by simp;omega
   have hzero:List.take k' (X.map cfC)++List.replicate (l.length - k') [V.i .i64 0,.i .i64 0,.i .i64 0,.i .i64 0,.i .i64 0]++List.drop (k'+(l.length - k')) (X.map cfC)=(padC l).map cfC:=by
    rw[show k'+(l.length - k')=(X.map cfC).length by simp;omega,List.drop_length,List.append_nil,← List.map_take,hXt,Qiq,← List.map_replicate,← List.map_append,padC,hkc]
   (repeat (with_reducible (first|refine ZM ?_|refine Y3 ?_|refine X_nx ?_|(refine U_q (v:=?_) ?h1 ?_;case h1=>((try simp only[r0,r3,cutV,hcut2,hkp',Nat.le_refl,Nat.zero_add,Int.toNat_natCast,go_sem])<;>rfl)))));refine Qmz (z:=[V.i .i64 0,.i .i64 0,.i .i64 0,.i .i64 0,.i .i64 0]) (Zr0) (Zr1 o1) (by simp;omega) hzero ?_;(repeat (with_reducible (first|refine YK ?_|refine ZM ?_|refine Y3 ?_|refine WB ?_|refine X_nx ?_|refine X_rt ?_|refine B_rt ?_|((first|refine U_q (v:=?_) ?h1 ?_|refine E_1 (v:=?_) ?h1 ?_);case h1=>((try simp only[r0,r3,cutV,hcut2,hkp',Nat.zero_le,Nat.zero_add,Nat.sub_zero,Int.toNat_natCast,go_sem])<;>rfl)))));exact fin _ _ (Z0) hkc
  ·have he:l[k]≠l[k - 1]:=by simpa using hc2
   have e1:cp l (k+1)=l.take (k+1):=by
    rw[QiN (List.getElem?_eq_getElem hk) (List.getElem?_eq_getElem OM) he,hcp,List.take_add_one,List.getElem?_eq_getElem hk];rfl
   refine RN (Ad2 r3 hw) ?_
   exact⟨r - 1,OM,k+1,OM,OM,Z1 r0,Z0,Z1 o1,e1⟩
 ·have hk:k=l.length:=by
   have:¬ k < l.length:=by simpa using hc
   omega
  subst hk;obtain⟨w1,w2⟩:=whole hcp;refine RN r0 ?_;exact fin _ _ (by rw[w1];exact o1) w2.symm
end Go.Proofs.YtklbhcjmaeedhaaGreatDoor
