import Derived.Test.YtpkmfoinpdnifaaDoorM20
import Derived.Test.YtpkmfoinpdnifaaDoorA6

namespace Go.Proofs.YtpkmfoinpdnifaaDoor
set_option linter.all false
attribute [-go_sem] swpOb renOb rfOb V.cells
theorem mls_cld (l:List (List Mv)):cldLL (l.map mlC)=true:=cldLL_map (fun x=>by
 rw[mlC,cldL,cld,cldLL_map (fun _=>rfl)];rfl) l
theorem bos_cld (l:List Bool):cldLL (l.map boC)=true:=cldLL_map (fun _=>rfl) l
theorem au_cld (A:Au):cldL (auC A)=true:=by
 obtain⟨⟨ak,as_,ap,al,ah⟩,S,Cs,R,Fi,Mo,La,Em⟩:=A;simp only[auC,mpC,cel_mk,nd8,List.cons_append,List.nil_append];simp only[go_sem,u4_cld,sc_cld,ls_cld,cldLL_in,mls_cld,bos_cld,Bool.and_true]
theorem au_len (A:Au):(auC A).length=15:=by simp [auC,mpC,cel_len]
theorem au_tk (A:Au):List.take 15 (auC A)=auC A:=List.take_of_length_le (by rw[au_len];exact Nat.le_refl _)
theorem au_sw (A:Au) (d:Nat):swpL d (auC A)=auC A:=swpL_cls d (by obtain⟨⟨ak,as_,ap,al,ah⟩,S,Cs,R,Fi,Mo,La,Em⟩:=A;rfl)
theorem au_8 (A:Au):(auC A)[8]?=some (.sl (A.sets.map u4)):=by obtain⟨⟨ak,as_,ap,al,ah⟩,S,Cs,R,Fi,Mo,La,Em⟩:=A;rfl
theorem au_9 (A:Au):(auC A)[9]?=some (.sl (A.scopes.map scC)):=by obtain⟨⟨ak,as_,ap,al,ah⟩,S,Cs,R,Fi,Mo,La,Em⟩:=A;rfl
theorem au_10 (A:Au):(auC A)[10]?=some (.sl (A.around.map lsC)):=by obtain⟨⟨ak,as_,ap,al,ah⟩,S,Cs,R,Fi,Mo,La,Em⟩:=A;rfl
theorem au_11 (A:Au):(auC A)[11]?=some (.sl (A.first.map inC)):=by obtain⟨⟨ak,as_,ap,al,ah⟩,S,Cs,R,Fi,Mo,La,Em⟩:=A;rfl
theorem au_12 (A:Au):(auC A)[12]?=some (.sl (A.moves.map mlC)):=by obtain⟨⟨ak,as_,ap,al,ah⟩,S,Cs,R,Fi,Mo,La,Em⟩:=A;rfl
theorem au_13 (A:Au):(auC A)[13]?=some (.sl (A.last.map boC)):=by obtain⟨⟨ak,as_,ap,al,ah⟩,S,Cs,R,Fi,Mo,La,Em⟩:=A;rfl
theorem au_14 (A:Au):(auC A)[14]?=some (.bo A.empty):=by obtain⟨⟨ak,as_,ap,al,ah⟩,S,Cs,R,Fi,Mo,La,Em⟩:=A;rfl
theorem okf_au (A:Au):okf FZ (.ag (auC A))=true:=by obtain⟨⟨ak,as_,ap,al,ah⟩,S,Cs,R,Fi,Mo,La,Em⟩:=A;rfl
theorem clo_au (A:Au):clo FZ (.ag (auC A))=true:=by obtain⟨⟨ak,as_,ap,al,ah⟩,S,Cs,R,Fi,Mo,La,Em⟩:=A;rfl
theorem sc_len (s:Int × Int):(scC s).length=2:=rfl
theorem sc_tk (s:Int × Int):List.take 2 (scC s)=scC s:=rfl
theorem sc_sw (s:Int × Int) (d:Nat):swpL d (scC s)=scC s:=rfl
theorem sc_0 (s:Int × Int):(scC s)[0]?=some (.i .i64 s.1):=rfl
theorem sc_1 (s:Int × Int):(scC s)[1]?=some (.i .i64 s.2):=rfl
theorem sc_cl (s:Int × Int):cldL (scC s)=true:=rfl
theorem okf_sc (s:Int × Int):okf FZ (.ag (scC s))=true:=rfl
theorem clo_sc (s:Int × Int):clo FZ (.ag (scC s))=true:=rfl
theorem mv_len (s:Mv):(mvC s).length=3:=rfl
theorem mv_tk (s:Mv):List.take 3 (mvC s)=mvC s:=rfl
theorem mv_sw (s:Mv) (d:Nat):swpL d (mvC s)=mvC s:=rfl
theorem mv_0 (s:Mv):(mvC s)[0]?=some (.i .i64 s.to):=rfl
theorem mv_1 (s:Mv):(mvC s)[1]?=some (.i .i64 s.keep):=rfl
theorem mv_2 (s:Mv):(mvC s)[2]?=some (.bo s.again):=rfl
theorem mv_cl (s:Mv):cldL (mvC s)=true:=rfl
theorem okf_mv (s:Mv):okf FZ (.ag (mvC s))=true:=rfl
theorem clo_mv (s:Mv):clo FZ (.ag (mvC s))=true:=rfl
theorem cf_len (s:Cf):(cfC s).length=5:=rfl
theorem cf_tk (s:Cf):List.take 5 (cfC s)=cfC s:=rfl
theorem cf_sw (s:Cf) (d:Nat):swpL d (cfC s)=cfC s:=rfl
theorem cf_0 (s:Cf):(cfC s)[0]?=some (.i .i64 s.p):=rfl
theorem cf_1 (s:Cf):(cfC s)[1]?=some (.i .i64 s.c0):=rfl
theorem cf_2 (s:Cf):(cfC s)[2]?=some (.i .i64 s.c1):=rfl
theorem cf_3 (s:Cf):(cfC s)[3]?=some (.i .i64 s.c2):=rfl
theorem cf_4 (s:Cf):(cfC s)[4]?=some (.i .i64 s.c3):=rfl
theorem cf_cl (s:Cf):cldL (cfC s)=true:=rfl
theorem okf_cf (s:Cf):okf FZ (.ag (cfC s))=true:=rfl
theorem clo_cf (s:Cf):clo FZ (.ag (cfC s))=true:=rfl
def i1 (n:Int):List V:=[.i .i64 n]
theorem cf_d4 (s:Cf):List.take 4 (List.drop 1 (cfC s))=(cl4 s).map (V.i .i64):=rfl
def Cf.setC (x:Cf) (i:Nat) (n:Int):Cf:=mkCf x.p fun j=>if j=i then n else x.c j
theorem spl_cf (a b:Cf):splice 0 (cfC b) (cfC a)=cfC b:=rfl
theorem spl_cf5 (x:Cf) (a b c d e:V):splice 0 (cfC x) [a,b,c,d,e]=cfC x:=rfl
theorem spl_sc (x:Int × Int) (a b:V):splice 0 (scC x) [a,b]=scC x:=rfl
theorem spl_mv (x:Mv) (a b c:V):splice 0 (mvC x) [a,b,c]=mvC x:=rfl
theorem spl_au (A:Au) (a1 a2 a3 a4 a5 a6 a7 a8 a9 b1 b2 b3 b4 b5 b6:V):splice 0 (auC A) [a1,a2,a3,a4,a5,a6,a7,a8,a9,b1,b2,b3,b4,b5,b6]=auC A:=by obtain⟨⟨ak,as_,ap,al,ah⟩,S,Cs,R,Fi,Mo,La,Em⟩:=A;rfl
theorem ag_cells (l:List V):V.cells (.ag l)=l:=rfl
theorem i_cells (k:IntKind) (n:Int):V.cells (.i k n)=[.i k n]:=rfl
theorem b_cells (n:Bool):V.cells (.bo n)=[.bo n]:=rfl
attribute [go_sem] Nat.reduceSub slaV spl_cf spl_cf5 spl_sc spl_mv spl_au ag_cells i_cells b_cells au_cld au_len au_tk au_sw au_8 au_9 au_10 au_11 au_12 au_13 au_14 okf_au clo_au sc_len sc_tk sc_sw sc_0 sc_1 sc_cl okf_sc clo_sc mv_len mv_tk mv_sw mv_0 mv_1 mv_2 mv_cl okf_mv clo_mv cf_len cf_tk cf_sw cf_0 cf_1 cf_2 cf_3 cf_4 cf_cl okf_cf clo_cf cf_d4
theorem cfs_cl (l:List Cf):cldLL (l.map cfC)=true:=cldLL_map cf_cl l
theorem scs_cl (l:List (Int × Int)):cldLL (l.map scC)=true:=cldLL_map sc_cl l
theorem i1s_cl (l:List Int):cldLL (l.map i1)=true:=cldLL_map (fun _=>rfl) l
theorem mvs_cl (l:List Mv):cldLL (l.map mvC)=true:=cldLL_map mv_cl l
attribute [go_sem] cfs_cl scs_cl i1s_cl mvs_cl
def nextV (s:Int × Int) (n:Int):V:=match nextS s n with
 | some k=>.tp [.i .i64 k,.bo true]
 | none=>.tp [.i .i64 0,.bo false]
end Go.Proofs.YtpkmfoinpdnifaaDoor
namespace Go.Proofs.YtpkmfoinpdnifaaDoor
set_option linter.all false
theorem wrap1 {i:Nat} (h:i < 4294967296):IntKind.i64.wrap ((i:Int)+1)=((i+1:Nat):Int):=by rw[wrap_i64 (by omega) (by omega)];rfl
def entI (p:Nat) (i:Nat):Cf:=mkCf p fun j=>if j < i then 1 else 0
end Go.Proofs.YtpkmfoinpdnifaaDoor
namespace Go.Proofs.YtpkmfoinpdnifaaDoor
set_option linter.all false
end Go.Proofs.YtpkmfoinpdnifaaDoor
namespace Go.Proofs.YtpkmfoinpdnifaaDoor
set_option linter.all false
def mayV (r:Option Cf):V:=match r with
 | some y=>.tp [.ag (cfC y),.bo true]
 | none=>.tp [.ag (cfC noC),.bo false]
end Go.Proofs.YtpkmfoinpdnifaaDoor
