/- Ec1. No condition. -/
import Derived.Test.YtgmpdplpodemaaaGreatDoorExG1
set_option linter.all false
set_option maxHeartbeats 1000000
set_option maxRecDepth 20000
namespace Go.Proofs.YtgmpdplpodemaaaGreatDoor
open Go Go.Sy Go.Bp
attribute [local irreducible] AO AL AC OpT ACall Ends DGo aN Thn Blk Nxt
variable {l k w:List Int} {z zk wz:Bool} {n K i j m b c:Nat} {a x:Int}
def dmy:Nat:=0
theorem ae:dmy=0:=rfl
theorem iR{α:Type} {l:List α} {d:α} {i:Nat}(h:i<l.length):l.getD i d∈l:=by rw[List.getD_eq_getElem?_getD,List.getElem?_eq_getElem h,Option.getD_some];exact List.getElem_mem h
theorem zB(h:0<n):(n==0)=false:=by simp;omega
def ifI(z:Bool)(F:Nat)(p:Int→Bool)(l:List Int)(n:Nat)(j:{j:Nat // j≤n∧∀i,i<j→p (l.getD i default)=false}):St:=
 ⟨19,0,[(0,.isl z (cI .i64 l) n),(1,.fn F []),(7,.val (.int .i64 n)),(8,.val (.int .i64 j.val))],[]⟩
theorem ahp{F:FuncId} [gV Tryz.prog F](p:Int→Bool)(hl:l.length=n)(hn:n<2^47)(hf:∀t:Int,ACall Tryz.prog F [.val (.int .i64 t)] [] 0 (.val (.bool (p t))) []):
 ACall Tryz.prog 164 [.isl z (cI .i64 l) n,.fn F []] [] 0 (.val (.int .i64 (ix p l))) []:=by
 refine az Tryz.func164 Tryz.ntmps164 rfl ?_
 repeat' (first|(refine ai ?_;refine au [] ([].length) (ifI z F p l n) (fun j=>n-j.val) (⟨0,by omega,fun i hi=>absurd hi (by omega)⟩) rfl (by unfold ifI;exact nU) ?_;(rintro⟨j,hj,hnb⟩;(simp-dsimp only[ifI];refine zqS ?_)))|(refine aj ?_;refine Nxt.mk [] (⟨j+1,by omega,nV hnb (by assumption)⟩) rfl (by unfold ifI;exact nU) zqO)|refine zqN ?_|((first|refine ax rfl (fun K hK=>?_)|refine ak (fun K hK=>?_));(first|refine jG (f:=F) [] 0 false ?_);refine nG ?_;(first|refine⟨_,_,hf (l.getD j default),?_⟩);refine j5 ?_;apply hK;clear hK K)|refine bA ?_|refine bB ?_|(refine bC ?_ ?_<;>intro hc<;>try exact zqM))
 all_goals first
  |(have e:ix p l=j:=um (by omega) hnb (by assumption);(refine Ends.mk2 zqI [] ?_;simp-dsimp(disch:=try exact vD) only[push_cast,simprocAttr,Tryz.f164,e];try exact zqF))
  |(have ej:j=n:=(by omega);subst ej;subst hl;have e:ix p l= -1:=oV hnb;(refine Ends.mk2 zqI [] ?_;simp-dsimp(disch:=try exact vD) only[push_cast,simprocAttr,Tryz.f164,e];try exact zqF))
theorem agz{F:FuncId} [gV Tryz.prog F](p:Int→Bool)(hl:l.length=n)(hn:n<2^47)(hf:∀t:Int,ACall Tryz.prog F [.val (.int .i64 t)] [] 0 (.val (.bool (p t))) []):
 ACall Tryz.prog 124 [.isl z (cI .i64 l) n,.fn F []] [] 0 (.val (.bool (l.any p))) []:=by
 refine az Tryz.func124 Tryz.ntmps124 rfl ?_
 have zx1:= @lV;have zx2:=aD;have zx3:=aD;repeat' (first|refine zqN ?_|refine eG (ahp p hl hn hf) ?_|refine dx ?_|refine dz ?_|(refine dA ?_ ?_<;>intro hc<;>try exact zqM))
 all_goals(refine Ends.mk2 zqI [] ?_;simp-dsimp(disch:=try exact vD) only[push_cast,simprocAttr,Tryz.f124,lV];try exact zqF)
