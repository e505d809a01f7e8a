import Derived.Test.YtgiedknghbpdfaaM20

namespace Go.Proofs.Ytgiedknghbpdfaa
set_option linter.all false
attribute [-go_sem] swpOb renOb rfOb V.cells
theorem awake_pu:Pu F 8 [] (.bo true):=by
 have hM:=make_ok oneT one_ok (by decide) rfl;rw[one_simple,one_make] at hM;simp only[oneT,cel_mk,nd8,List.map_nil,List.cons_append,List.nil_append] at hM;have s0:oneS 0=1:=rfl;have s1:oneS 1=0:=rfl;have s2:oneS 2=0:=rfl;have s3:oneS 3=0:=rfl;simp only[s0,s1,s2,s3,u4,zSet,lsC,mlC,inC,boC,List.map_nil] at hM;have b1:(false==true)=false:=rfl;refine U_pure e8 rfl rfl (by simp only[go_sem,Bool.and_true]) ?_;dsimp only[fn8,c8];(repeat (with_reducible (first|refine U_nil ?_|refine UC_sq ?_|refine UC_rg ?_|refine X_nx ?_|(refine U_q (v:=?_) ?h1 ?_;case h1=>((try simp only[go_sem])<;>rfl)))));refine U_pc (Zr0) rfl (Bool.or_eq_true_iff.2 (.inl rfl)) ?_ hM ?_
 ·rfl
 (repeat (with_reducible (first|refine U_nil ?_|refine UC_sq ?_|refine UC_rg ?_|refine UC_rt ?_|refine X_nx ?_|((first|refine U_q (v:=?_) ?h1 ?_|refine U_ld (v:=?_) ?h1 ?_|refine E_1 (v:=?_) ?h1 ?_|refine U_alc (n:=?_) ?h1 ?_|refine U_gt ?h1 ?_);case h1=>((try simp only[go_sem])<;>rfl))|(refine U_sto (id:=?_) (i:=?_) (j:=?_) (q:=?_) (es:=?_) (cs:=?_) (vs:=?_) (es':=?_) ?h1 ?h2 ?h3 ?h4 ?h5 ?h6 ?h7 ?_;case h1|h2|h3|h4|h5|h6|h7=>((try simp only[go_sem])<;>rfl)))));rfl
end Go.Proofs.Ytgiedknghbpdfaa
