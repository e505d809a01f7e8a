import Derived.Test.YtkmanhmdppfaiaaGreatDoorJ2
import Derived.Test.YtkmanhmdppfaiaaGreatDoorA6

namespace Go.Proofs.YtkmanhmdppfaiaaGreatDoor
set_option linter.all false
theorem wf_i64 {z:Int} (h:(Lit.int .i64 z).wf=true):i64 z:=by
 simp [Lit.wf,IntKind.min,IntKind.max,IntKind.signed,IntKind.bits] at h;unfold i64;omega
set_option maxRecDepth 100000 in
theorem isv_config {n:Nat} {vs:List V} (h:isv Tryz.prog n 43 vs):∃ c:Cf,vs=cfC c∧CfOk c:=by
 obtain⟨ls,rfl,hl,m,rfl,hm⟩:=isv_struct Tryz.underlying43 h;have hl2:ls.length=2:=hl.trans (by rfl);clear hl
 match ls,hl2 with
 | [l0,l1],_ =>
  obtain⟨p,rfl,hp⟩:=isv_int Tryz.underlying3 (hm 0 _ l0 rfl rfl);obtain⟨zs,rfl,hzl,hz⟩:=isv_ints Tryz.underlying41 Tryz.underlying2 (hm 1 _ l1 rfl rfl);obtain⟨z0,z1,z2,z3,rfl⟩:=len4 hzl
  refine⟨⟨p,z0,z1,z2,z3⟩,rfl,wf_i64 hp,fun i=>?_⟩
  match i with
  | 0=>exact wf_i64 (hz z0 (by simp))
  | 1=>exact wf_i64 (hz z1 (by simp))
  | 2=>exact wf_i64 (hz z2 (by simp))
  | 3=>exact wf_i64 (hz z3 (by simp))
  | i+4=>exact⟨by simp [Cf.c],by simp [Cf.c]⟩
theorem isA_config:isA Tryz.prog 43=true:=by kernel_rfl
theorem fz_bo {o:O} {v:V} (h:fz o v=some (.bo true)):v=.bo true:=by
 have h:frz (23+1) o v=some (.bo true):=h;cases v<;>rw[frz] at h;all_goals first
  | exact (map_ne (fun a h=>by cases h) h).elim
  | (cases h;done)
  | (injection h;done)
  | (split at h;exact (map_ne (fun a h=>by cases h) h).elim;cases h)
  | (intros;contradiction)
end Go.Proofs.YtkmanhmdppfaiaaGreatDoor
