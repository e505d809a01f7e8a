import Derived.Test.YtocmjakchgcioaaGreatJ3
import Derived.Test.YtocmjakchgcioaaGreatKq

namespace Go.Proofs.YtocmjakchgcioaaGreat
set_option linter.all false
def QkW {n:Nat} {vs:List V} (h:isv Tryz.prog n 28 vs):∃ w:List Nat,vs=[wdV w]∧(∀ b∈w,b < 256)∧w.length < 9223372036854775808:=by
 obtain⟨es,rfl,hl,m,_,hm⟩:=Vc Tryz.underlying28 h;have hl':es.length < 9223372036854775808:=by simp [maxLen] at hl;omega
 clear h hl
 have:∃ w:List Nat,es=w.map (fun b:Nat=>[V.i .u8 (b:Int)])∧(∀ b∈w,b < 256):=by
  clear hl';induction es with
  | nil=>exact⟨[],rfl,SM⟩
  | cons c es ih =>
   obtain⟨z,rfl,hz⟩:=Xz Tryz.underlying5 (hm c SM);obtain⟨w,h1,h2⟩:=ih fun c hc=>hm c (by simp [hc])
   have:=QmN hz
   refine⟨z.toNat::w,?_,fun b hb=>?_⟩
   ·rw[h1,List.map_cons,Int.toNat_of_nonneg this.1]
   ·rcases List.mem_cons.1 hb with rfl|hb;omega;exact h2 b hb
 obtain⟨w,rfl,hw⟩:=this
 exact⟨w,rfl,hw,by simpa using hl'⟩
def QlS:isA Tryz.prog 28=false:=by kernel_rfl
end Go.Proofs.YtocmjakchgcioaaGreat
