import Derived.Test.YtpkmfoinpdnifaaDoorJ2
import Derived.Test.YtpkmfoinpdnifaaDoorKh

namespace Go.Proofs.YtpkmfoinpdnifaaDoor
set_option linter.all false
theorem isv_wb {n:Nat} {vs:List V} (h:isv Tryd.prog n 53 vs):∃ w:List Nat,vs=[wbV w]∧(∀ b∈w,b < 256)∧w.length < 9223372036854775808:=by
 obtain⟨es,rfl,hl,m,_,hm⟩:=isv_slice Tryd.underlying53 h;have hl':es.length < 9223372036854775808:=by simp [maxLen] at hl;omega
 clear h hl
 have:∃ w:List Nat,es=w.map (fun b:Nat=>[V.i .u8 (b:Int)])∧(∀ b∈w,b < 256):=by
  clear hl';induction es with
  | nil=>exact⟨[],rfl,by simp⟩
  | cons c es ih =>
   obtain⟨z,rfl,hz⟩:=isv_int Tryd.underlying5 (hm c (by simp));obtain⟨w,h1,h2⟩:=ih fun c hc=>hm c (by simp [hc])
   have:=wf_u8 hz
   refine⟨z.toNat::w,?_,fun b hb=>?_⟩
   ·rw[h1,List.map_cons,Int.toNat_of_nonneg this.1]
   ·rcases List.mem_cons.1 hb with rfl|hb;omega;exact h2 b hb
 obtain⟨w,rfl,hw⟩:=this
 exact⟨w,rfl,hw,by simpa using hl'⟩
theorem isA_wb:isA Tryd.prog 53=false:=by kernel_rfl
theorem fz_bo {o:O} {v:V} (h:fz o v=some (.bo true)):v=.bo true:=by
 have h:frz (23+1) o v=some (.bo true):=h;cases v<;>rw[frz] at h;all_goals first
  | exact (map_ne (fun a h=>by cases h) h).elim
  | (cases h;done)
  | (injection h;done)
  | (split at h;exact (map_ne (fun a h=>by cases h) h).elim;cases h)
  | (intros;contradiction)
end Go.Proofs.YtpkmfoinpdnifaaDoor
