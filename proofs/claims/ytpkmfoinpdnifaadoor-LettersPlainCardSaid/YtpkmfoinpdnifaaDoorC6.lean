import Derived.Test.YtpkmfoinpdnifaaDoorC5
import Derived.Test.YtpkmfoinpdnifaaDoorT1

namespace Go.Proofs.YtpkmfoinpdnifaaDoor
set_option linter.all false
attribute [-go_sem] swpOb renOb rfOb V.cells
def cp (l:List Cf):Nat→List Cf
 | 0=>[]
 | n+1=>match l[n]? with
  | none=>cp l n
  | some y=>if 0 < n∧l[n - 1]?=some y then cp l n else cp l n++[y]
def cmpC (l:List Cf):List Cf:=cp l l.length
def padC (l:List Cf):List Cf:=cmpC l++List.replicate (l.length - (cmpC l).length) noC
theorem cf_eqps (x y:Cf):eqps [.i .i64,.i .i64,.i .i64,.i .i64,.i .i64] (cfC x) (cfC y)=some (decide (x=y)):=by
 obtain⟨p,a,b,c,d⟩:=x;obtain⟨p',a',b',c',d'⟩:=y;simp only[cfC,eqps,lfEq,and_self,if_true,Bool.and_true];congr 1;rw[Bool.eq_iff_iff];simp [and_assoc]
theorem cf_eqV (x y:Cf):eqV true [.i .i64,.i .i64,.i .i64,.i .i64,.i .i64] (.ag (cfC x)) (.ag (cfC y))=some (decide (x=y)):=cf_eqps x y
theorem bne_f (b:Bool):(b != false)=b:=by cases b<;>rfl
theorem bne_t (b:Bool):(b != true)=!b:=by cases b<;>rfl
attribute [go_sem] cf_eqps cf_eqV bne_f bne_t
end Go.Proofs.YtpkmfoinpdnifaaDoor
