import Derived.Test.YtgiedknghbpdfaaR9
import Derived.Test.YtgiedknghbpdfaaA9
import Derived.Test.YtgiedknghbpdfaaM20b

namespace Go.Proofs.Ytgiedknghbpdfaa
set_option linter.all false
theorem make_cases (n:Nd) (hs:small n) (hc:cntN n≤900) :
  (formed n=false∧Pu F 10 [.ag (cel n)] (.tp [.ag (auC noA),.i .i64 1])) ∨
  (formed n=true∧plOk (plT (simpleN n))=false∧Pu F 10 [.ag (cel n)] (.tp [.ag (auC noA),.i .i64 3])) ∨
  (formed n=true∧plOk (plT (simpleN n))=true∧okN (simpleN n)∧cntN (simpleN n)≤cntN n∧Pu F 10 [.ag (cel n)] (.tp [.ag (auC (makeT (simpleN n))),.i .i64 0])∧WF (makeT (simpleN n))∧∀ l∈(makeT (simpleN n)).moves,l.length < 2147483648):=by
 cases hf:formed n with
 | false=>exact .inl ⟨rfl,make_err n 1 (by decide) (of_no n hs hf)⟩
 | true =>
  have ho:=of_ok n ⟨hs,hf⟩ hc
  obtain⟨h1,h2⟩:=simpleN_ok n ⟨hs,hf⟩ (by omega)
  cases hp:plOk (plT (simpleN n)) with
  | false =>
   rw[hp,if_neg (by decide)] at ho
   exact .inr (.inl ⟨rfl,rfl,make_err n 3 (by decide) ho⟩)
  | true=>exact .inr (.inr ⟨rfl,rfl,h1,h2,make_ok n ⟨hs,hf⟩ hc hp,makeT_wf _ h1.2 h1.1 hp,makeT_len _ (by omega)⟩)
theorem sets_lc (t:Nd) (hf:formed t=true):(plT t).sets.length=lcN t+1:=by
 have h:=(wk_ok t 0 [] [] ⟨[zSet],[],[[]]⟩ hf rfl rfl).ls
 have h2:=(wk_en t 0 0 [] hf).1.c
 rw[enN_c] at h2
 rw[plT,h]
 show (wk t 0 0 []).next+1=_
 rw[h2];omega
theorem first_eq (t:Nd) (hf:formed t=true):(makeT t).first=(List.range (lcN t+1)).filter (enN t 0).f:=by
 have hfo:=wk_fo t 0 0 []
 have hen:=(wk_en t 0 0 [] hf).1
 have hnx:=hen.c
 rw[enN_c] at hnx
 have hperm:((makeT t).first).Perm ((List.range (lcN t+1)).filter (enN t 0).f):=by
  refine (List.perm_ext_iff_of_nodup (first_nodup t) (List.nodup_range.filter _)).2 fun p=>?_
  have h1:p∈(makeT t).first↔p∈(wk t 0 0 []).first:=List.mem_mergeSort
  rw[h1,List.mem_filter,List.mem_range,← hen.f p,List.contains_iff_mem]
  constructor
  ·intro h
   have:=hfo.rg p h
   exact⟨by omega,h⟩
  ·exact fun h=>h.2
 refine List.Perm.eq_of_pairwise (le:=fun x y=>x≤y) (fun a b _ _ h1 h2=>by omega) ?_ ?_ hperm
 ·have:=List.pairwise_mergeSort (le:=fun (x y:Nat)=>decide (x≤y)) (fun a b c h1 h2=>by simp at *;omega) (fun a b=>by simp;omega) (wk t 0 0 []).first
  exact this.imp (by simp)
 ·exact (List.pairwise_lt_range.imp (fun h=>by omega)).filter _
theorem filt_at (f:Nat→Bool) (k p:Nat) (h:p < k) (hf:f p=true):((List.range k).filter f)[((List.range p).filter f).length]?=some p:=by
 obtain⟨d,rfl⟩:∃ d,k=p+1+d:=⟨k - (p+1),by omega⟩
 rw[List.range_add,List.range_succ,List.filter_append,List.filter_append,List.append_assoc,List.getElem?_append_right (Nat.le_refl _),Nat.sub_self]
 simp [hf]
theorem filt_succ (f:Nat→Bool) (p:Nat):((List.range (p+1)).filter f).length=((List.range p).filter f).length+(if f p then 1 else 0):=by
 rw[List.range_succ,List.filter_append,List.length_append]
 cases h:f p<;>simp [h]
end Go.Proofs.Ytgiedknghbpdfaa
