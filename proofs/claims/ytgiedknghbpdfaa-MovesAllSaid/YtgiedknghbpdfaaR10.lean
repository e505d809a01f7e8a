import Derived.Test.YtgiedknghbpdfaaR9
import Derived.Test.YtgiedknghbpdfaaA9
import Derived.Test.YtgiedknghbpdfaaM20b

namespace Go.Proofs.Ytgiedknghbpdfaa
set_option linter.all false
theorem make_cases (n:Nd) (hs:small n) (hc:cntN n≤900) :
  (formed n=false∧Pu F 10 [.ag (cel n)] (.tp [.ag (auC noA),.i .i64 1])) ∨
  (formed n=true∧plOk (plT (simpleN n))=false∧Pu F 10 [.ag (cel n)] (.tp [.ag (auC noA),.i .i64 3])) ∨
  (formed n=true∧plOk (plT (simpleN n))=true∧okN (simpleN n)∧cntN (simpleN n)≤cntN n∧Pu F 10 [.ag (cel n)] (.tp [.ag (auC (makeT (simpleN n))),.i .i64 0])∧WF (makeT (simpleN n))∧∀ l∈(makeT (simpleN n)).moves,l.length < 2147483648):=by
 cases hf:formed n with
 | false=>exact .inl ⟨rfl,make_err n 1 (by decide) (of_no n hs hf)⟩
 | true =>
  have ho:=of_ok n ⟨hs,hf⟩ hc;obtain⟨h1,h2⟩:=simpleN_ok n ⟨hs,hf⟩ (by omega);cases hp:plOk (plT (simpleN n)) with
  | false =>
   rw[hp,if_neg (by decide)] at ho;exact .inr (.inl ⟨rfl,rfl,make_err n 3 (by decide) ho⟩)
  | true=>exact .inr (.inr ⟨rfl,rfl,h1,h2,make_ok n ⟨hs,hf⟩ hc hp,makeT_wf _ h1.2 h1.1 hp,makeT_len _ (by omega)⟩)
theorem sets_lc (t:Nd) (hf:formed t=true):(plT t).sets.length=lcN t+1:=by
 have h:=(wk_ok t 0 [] [] ⟨[zSet],[],[[]]⟩ hf rfl rfl).ls;have h2:=(wk_en t 0 0 [] hf).1.c;rw[enN_c] at h2;rw[plT,h];show (wk t 0 0 []).next+1=_;rw[h2];omega
end Go.Proofs.Ytgiedknghbpdfaa
