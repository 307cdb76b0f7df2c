/- Ex1 Ex3. No condition. -/
import Derived.Test.YtgmpdplpodemaaaGreatDoorTy
import Derived.Test.YtgmpdplpodemaaaGreatDoorBpG1
set_option linter.all false
set_option maxHeartbeats 1000000
set_option maxRecDepth 20000
namespace Go.Proofs.YtgmpdplpodemaaaGreatDoor
open Go Go.Sy Go.Bp
attribute [local irreducible] AO AL AC OpT ACall Ends DGo aN Thn Blk Nxt
instance:aa Nd 5:=⟨fun n=>[.val (.int .i64 n.kind),.val (.int .i64 n.server),.val (.int .i64 n.need),.isl n.wz (cI .i64 n.w) n.w.length,.isl n.kz (cI .i64 n.k) n.k.length],fun _=>rfl,fun _=>rfl,fun _=>rfl⟩
instance:aa Ex 2:=⟨fun x=>[.isl x.nz (cR x.nodes) x.nodes.length,.val (.int .i64 x.root)],fun _=>rfl,fun _=>rfl,fun _=>rfl⟩
theorem aeR(n:Nd):aa.cells n=[.val (.int .i64 n.kind),.val (.int .i64 n.server),.val (.int .i64 n.need),.isl n.wz (cI .i64 n.w) n.w.length,.isl n.kz (cI .i64 n.k) n.k.length]:=rfl
theorem VA(x:Ex):aa.cells x=[.isl x.nz (cR x.nodes) x.nodes.length,.val (.int .i64 x.root)]:=rfl
theorem ex_0(x:Ex):(aa.cells x)[0]? =some (.isl x.nz (cR x.nodes) x.nodes.length):=rfl
theorem ex_1(x:Ex):(aa.cells x)[1]? =some (.val (.int .i64 x.root)):=rfl
theorem afI{l:List Nd} {a b c:Int} {wz kz:Bool} {w k:List Int} {n m:Nat}(hn:n=w.length)(hm:m=k.length):
 cR l++[.val (.int .i64 a),.val (.int .i64 b),.val (.int .i64 c),.isl wz (cI .i64 w) n,.isl kz (cI .i64 k) m]=cR (l++[⟨a,b,c,wz,w,kz,k⟩]):=by
 subst hn;subst hm;exact Nl (a:=(⟨a,b,c,wz,w,kz,k⟩:Nd))
theorem af3{l:List Nd} {a b c:Int} {wz kz:Bool} {k:List Int} {n:Nat}(hn:n=k.length):
 cR l++[.val (.int .i64 a),.val (.int .i64 b),.val (.int .i64 c),.isl wz [] 0,.isl kz (cI .i64 k) n]=cR (l++[⟨a,b,c,wz,[],kz,k⟩]):=by
 subst hn;exact Nl (a:=(⟨a,b,c,wz,[],kz,k⟩:Nd))
theorem aeS{l:List Nd} {a b c:Int} {wz kz:Bool}:
 cR l++[.val (.int .i64 a),.val (.int .i64 b),.val (.int .i64 c),.isl wz [] 0,.isl kz [] 0]=cR (l++[⟨a,b,c,wz,[],kz,[]⟩]):=Nl (a:=(⟨a,b,c,wz,[],kz,[]⟩:Nd))
attribute [push_cast] aeR ex_0 ex_1 afI
end Go.Proofs.YtgmpdplpodemaaaGreatDoor
namespace Go.Proofs.YtgmpdplpodemaaaGreatDoor
open Go Go.Sy Go.Bp
def afp(x:Ex):Prop:=x.nodes.length<2^42∧∀j,j<x.nodes.length→(x.nodes.getD j default).w.length<2^47∧(x.nodes.getD j default).k.length<2^47
