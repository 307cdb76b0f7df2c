/- La3 La5 La4 La6. No condition. -/
import Derived.Test.YtgmpdplpodemaaaGreatDoorLaG1
set_option linter.all false
set_option maxHeartbeats 4000000
set_option maxRecDepth 20000
namespace Go.Proofs.YtgmpdplpodemaaaGreatDoor
section
open Go Go.Sy Go.Bp Go.Lm Go.Rt
attribute [local irreducible] AO AL AC OpT ACall Ends DGo aN Thn Blk Nxt
variable {n N M k i m j r s a sr sw:Nat} {z z' cz:Bool} {v c e c0 c1:Int} {X Y W V V2 F R ZERO ONE:RV} {wr:List Nat} {cap xs:List RV} {p:RV→Bool} {K:List AV}
def VV(z:Bool)(F:Nat)(p:RV→Bool)(xs:List RV)(n:Nat)(j:{j:Nat // j≤n∧∀i,i<j→p (xs.getD i default)=false}):St:=
 ⟨19,0,[(0,.isl z (cR xs) n),(1,.fn F []),(7,.val (.int .i64 n)),(8,.val (.int .i64 j.val))],[]⟩
theorem D9{F:FuncId} [gV Tryz.prog F](p:RV→Bool)(hl:xs.length=n)(hn:n≤10000)(hf:∀j,j<n→ACall Tryz.prog F [.agg (aa.cells (xs.getD j default))] [] 0 (.val (.bool (p (xs.getD j default)))) []):
 ACall Tryz.prog 177 [.isl z (cR xs) n,.fn F []] [] 0 (.val (.int .i64 (ix p xs))) []:=by
 have hq:=fun(j:Nat) (h:j<n)=>PLift.up (hf j h)
 clear hf
 refine az Tryz.func177 Tryz.ntmps177 rfl ?_
 repeat' (first|(refine ai ?_;refine au [] ([].length) (VV z F p xs n) (fun j=>n-j.val) (⟨0,by omega,fun i hi=>absurd hi (by omega)⟩) rfl (by unfold VV;exact nU) ?_;(rintro⟨j,hj,hnb⟩;(simp-dsimp only[VV];refine zqS ?_)))|(refine aj ?_;refine Nxt.mk [] (⟨j+1,by omega,nV hnb (by assumption)⟩) rfl (by unfold VV;exact nU) zqO)|refine zqN ?_|((first|refine ax rfl (fun K hK=>?_)|refine ak (fun K hK=>?_));(first|refine jG (f:=F) [] 0 false ?_);refine nG ?_;(first|refine⟨_,_,(hq j (by omega)).down,?_⟩);refine j5 ?_;apply hK;clear hK K)|refine bA ?_|refine bB ?_|(refine bC ?_ ?_<;>intro hc<;>try exact zqM))
 all_goals first
  |(have e:ix p xs=j:=um (by omega) hnb (by assumption);(refine Ends.mk2 zqI [] ?_;simp-dsimp(disch:=try exact vD) only[push_cast,simprocAttr,Tryz.f177,e];try exact zqF);done)
  |(have ej:j=n:=(by omega);subst ej;subst hl;have e:ix p xs= -1:=oV hnb;(refine Ends.mk2 zqI [] ?_;simp-dsimp(disch:=try exact vD) only[push_cast,simprocAttr,Tryz.f177,e];try exact zqF);done)
  |skip
theorem uG{F:FuncId} [gV Tryz.prog F](p:RV→Bool)(hl:xs.length=n)(hn:n≤10000)(hf:∀j,j<n→ACall Tryz.prog F [.agg (aa.cells (xs.getD j default))] [] 0 (.val (.bool (p (xs.getD j default)))) []):
 ACall Tryz.prog 134 [.isl z (cR xs) n,.fn F []] [] 0 (.val (.bool (xs.any p))) []:=by
 refine az Tryz.func134 Tryz.ntmps134 rfl ?_
 have zx1:= @lV;have zx2:=aD;have zx3:=aD;repeat' (first|refine zqN ?_|refine eG (D9 p hl hn hf) ?_|refine dx ?_|refine dz ?_|(refine dA ?_ ?_<;>intro hc<;>try exact zqM))
 all_goals first
  |((refine Ends.mk2 zqI [] ?_;simp-dsimp(disch:=try exact vD) only[push_cast,simprocAttr,Tryz.f134,lV];try exact zqF);done)
  |skip
def VW(z:Bool)(F:Nat)(K:List AV)(p:RV→Bool)(xs:List RV)(n:Nat)(j:{j:Nat // j≤n∧∀i,i<j→p (xs.getD i default)=false}):St:=
 ⟨19,0,[(0,.isl z (cR xs) n),(1,.fn F [.ipt K 0]),(7,.val (.int .i64 n)),(8,.val (.int .i64 j.val))],[]⟩
theorem P7{F:FuncId} [gV Tryz.prog F](p:RV→Bool)(hl:xs.length=n)(hn:n≤10000)(hf:∀j,j<n→ACall Tryz.prog F [.agg (aa.cells (xs.getD j default)),.ipt K 0] [] 0 (.val (.bool (p (xs.getD j default)))) []):
 ACall Tryz.prog 177 [.isl z (cR xs) n,.fn F [.ipt K 0]] [] 0 (.val (.int .i64 (ix p xs))) []:=by
 have hq:=fun(j:Nat) (h:j<n)=>PLift.up (hf j h)
 clear hf
 refine az Tryz.func177 Tryz.ntmps177 rfl ?_
 repeat' (first|(refine ai ?_;refine au [] ([].length) (VW z F K p xs n) (fun j=>n-j.val) (⟨0,by omega,fun i hi=>absurd hi (by omega)⟩) rfl (by unfold VW;exact nU) ?_;(rintro⟨j,hj,hnb⟩;(simp-dsimp only[VW];refine zqS ?_)))|(refine aj ?_;refine Nxt.mk [] (⟨j+1,by omega,nV hnb (by assumption)⟩) rfl (by unfold VW;exact nU) zqO)|refine zqN ?_|((first|refine ax rfl (fun K hK=>?_)|refine ak (fun K hK=>?_));(first|refine jG (f:=F) [] 0 false ?_);refine nG ?_;(first|refine⟨_,_,(hq j (by omega)).down,?_⟩);refine j5 ?_;apply hK;clear hK K)|refine bA ?_|refine bB ?_|(refine bC ?_ ?_<;>intro hc<;>try exact zqM))
 all_goals first
  |(have e:ix p xs=j:=um (by omega) hnb (by assumption);(refine Ends.mk2 zqI [] ?_;simp-dsimp(disch:=try exact vD) only[push_cast,simprocAttr,Tryz.f177,e];try exact zqF);done)
  |(have ej:j=n:=(by omega);subst ej;subst hl;have e:ix p xs= -1:=oV hnb;(refine Ends.mk2 zqI [] ?_;simp-dsimp(disch:=try exact vD) only[push_cast,simprocAttr,Tryz.f177,e];try exact zqF);done)
  |skip
theorem Li{F:FuncId} [gV Tryz.prog F](p:RV→Bool)(hl:xs.length=n)(hn:n≤10000)(hf:∀j,j<n→ACall Tryz.prog F [.agg (aa.cells (xs.getD j default)),.ipt K 0] [] 0 (.val (.bool (p (xs.getD j default)))) []):
 ACall Tryz.prog 134 [.isl z (cR xs) n,.fn F [.ipt K 0]] [] 0 (.val (.bool (xs.any p))) []:=by
 refine az Tryz.func134 Tryz.ntmps134 rfl ?_
 have zx1:= @lV;have zx2:=aD;have zx3:=aD;repeat' (first|refine zqN ?_|refine eG (P7 p hl hn hf) ?_|refine dx ?_|refine dz ?_|(refine dA ?_ ?_<;>intro hc<;>try exact zqM))
 all_goals first
  |((refine Ends.mk2 zqI [] ?_;simp-dsimp(disch:=try exact vD) only[push_cast,simprocAttr,Tryz.f134,lV];try exact zqF);done)
  |skip
def stI(a:Nat)(wr:List Nat)(n:Nat)(i:{i:Nat // i≤2}):St:=
 ⟨36,0,[(0,.isl false [.isl false [.val (.int .u16 (U a))] 1,.isl false (cX wr) n] 2),(8,.isl false [.isl false [.val (.int .u16 (U a))] 1,.isl false (cX wr) n] 2),(9,.val (.int .i64 2)),(10,.val (.int .i64 i.val))],[]⟩
def stJ(a:Nat)(wr:List Nat)(n:Nat)(i:{i:Nat // i≤2}):St:=
 ⟨36,0,[(20,.isl false [.isl false [.val (.int .u16 (U a))] 1,.isl false (cX wr) n] 2),(21,.val (.int .i64 2)),(22,.val (.int .i64 i.val))],[]⟩
theorem Lj(hl:wr.length=n)(h0:0<n)(hn:n≤1000)(ha:¬a%65536=0)(hw:¬wr.getD 0 default%65536=0)(h1:ACall Tryz.prog 33 [.isl false [.val (.int .u16 (U a))] 1] [] 0 (.val (.int .i64 0)) [])(h2:ACall Tryz.prog 33 [.isl false (cX wr) n] [] 0 (.val (.int .i64 0)) []):
 ACall Tryz.prog 133 [.isl false [.isl false [.val (.int .u16 (U a))] 1,.isl false (cX wr) n] 2] [] 0 (.val (.int .i64 0)) []:=by
 have h1:=PLift.up h1;have h2:=PLift.up h2
 have zx1:¬n=0:=by omega
 have hu:U a=((a%65536:Nat):Int):=rfl
 have zx2:¬U a=0:=by rw[hu];omega
 have zx3:¬U (wr.getD 0 default)=0:=by show¬((wr.getD 0 default%65536:Nat):Int)=0;omega
 clear hu
 refine az Tryz.func133 Tryz.ntmps133 rfl ?_
 have zx4:= @bg;have zx5:=aD;have zx6:=aD;repeat' (first|(refine ai ?_;refine au [] ([].length) (stI a wr n) (fun i=>2-i.val) (⟨0,by omega⟩) rfl (by unfold stI;exact gG) ?_;(rintro⟨i,hi⟩;have hi2:i=0∨i=1∨i=2:=(by omega);rcases hi2 with hi2|hi2|hi2<;>subst hi2<;>(simp-dsimp only[stI];refine zqS ?_)))|(refine aj ?_;refine Nxt.mk [] (⟨1,by omega⟩) rfl (by unfold stI;exact gG) zqO)|(refine aj ?_;refine Nxt.mk [] (⟨2,by omega⟩) rfl (by unfold stI;exact gG) zqO)|(refine ai ?_;refine au [] ([].length) (stJ a wr n) (fun i=>2-i.val) (⟨0,by omega⟩) rfl (by unfold stJ;exact gG) ?_;(rintro⟨i,hi⟩;have hi2:i=0∨i=1∨i=2:=(by omega);rcases hi2 with hi2|hi2|hi2<;>subst hi2<;>(simp-dsimp only[stJ];refine zqS ?_)))|(refine aj ?_;refine Nxt.mk [] (⟨1,by omega⟩) rfl (by unfold stJ;exact gG) zqO)|(refine aj ?_;refine Nxt.mk [] (⟨2,by omega⟩) rfl (by unfold stJ;exact gG) zqO)|refine zqN ?_|((first|refine ax rfl (fun K hK=>?_)|refine ak (fun K hK=>?_));(first|(refine ah (f:=33) [] 0 false ?_;refine CR ?_;refine⟨_,_,h1.down,?_⟩;refine rH ?_;apply hK;clear hK K)|(refine ah (f:=33) [] 0 false ?_;refine CR ?_;refine⟨_,_,h2.down,?_⟩;refine rH ?_;apply hK;clear hK K)))|refine adH ?_|refine l7 ?_|(refine l8 ?_ ?_<;>intro hc<;>try exact zqM))
 all_goals first
  |((refine Ends.mk2 zqI [] ?_;simp-dsimp(disch:=try exact vD) only[push_cast,simprocAttr,Tryz.f133];try exact zqF);done)
  |skip
theorem abg(h:ACall Tryz.prog 102 [.agg (aa.cells X)] [] 0 (.val (.bool true)) []):ACall Tryz.prog 135 [.agg (aa.cells X)] [] 0 (.val (.bool false)) []:=by
 have h:=PLift.up h
 rw[ay X]
 refine az Tryz.func135 Tryz.ntmps135 rfl ?_
 repeat' (first|refine zqN ?_|refine aT h.down ?_|refine bA ?_|refine bB ?_|(refine bC ?_ ?_<;>intro hc<;>try exact zqM))
 all_goals first
  |((refine Ends.mk2 zqI [] ?_;simp-dsimp(disch:=try exact vD) only[push_cast,simprocAttr,Tryz.f135];try exact zqF);done)
  |skip
theorem abh(hc:0<c)(h:ACall Tryz.prog 100 [.agg (aa.cells X),.agg (aa.cells ZERO)] [] 0 (.val (.int .i64 c)) []):ACall Tryz.prog 136 [.agg (aa.cells X),.ipt (aa.cells ZERO) 0] [] 0 (.val (.bool false)) []:=by
 have h:=PLift.up h
 have zx1:¬c≤0:=by omega
 rw[ay X,ay ZERO]
 refine az Tryz.func136 Tryz.ntmps136 rfl ?_
 have zx2:=aD;have zx3:=aD;repeat' (first|refine zqN ?_|refine eG h.down ?_|refine dx ?_|refine dz ?_|(refine dA ?_ ?_<;>intro hc<;>try exact zqM))
 all_goals first
  |((refine Ends.mk2 zqI [] ?_;simp-dsimp(disch:=try exact vD) only[push_cast,simprocAttr,Tryz.f136];try exact zqF);done)
  |skip
theorem Bu(hm:1≤m)(hm2:m≤12)(hc0:¬c0<0)(hc1:¬0<c1)(hsup:U (sor sr sw%65536/2^m)=0)(hs:ACall Tryz.prog 133 [.isl false [.isl false [.val (.int .u16 (U a))] 1,.isl false (cX wr) n] 2] [] 0 (.val (.int .i64 0)) [])
 (hv:ACall Tryz.prog 102 [.agg (aa.cells F)] [] 0 (.val (.bool true)) []) (hc:ACall Tryz.prog 134 [.isl cz (cR cap) m,.fn 135 []] [] 0 (.val (.bool false)) []) (w0:ACall Tryz.prog 97 [.val (.int .i64 0)] [] 0 (.agg (aa.cells ZERO)) []) (w1:ACall Tryz.prog 97 [.val (.int .i64 1)] [] 0 (.agg (aa.cells ONE)) [])
 (k0:ACall Tryz.prog 100 [.agg (aa.cells F),.agg (aa.cells ZERO)] [] 0 (.val (.int .i64 c0)) []) (k1:ACall Tryz.prog 100 [.agg (aa.cells F),.agg (aa.cells ONE)] [] 0 (.val (.int .i64 c1)) [])
 (s1:ACall Tryz.prog 35 [.isl false [.val (.int .u16 (U a))] 1] [] 0 (.val (.int .u16 (U sr))) []) (s2:ACall Tryz.prog 35 [.isl false (cX wr) n] [] 0 (.val (.int .u16 (U sw))) []) (hc2:ACall Tryz.prog 134 [.isl cz (cR cap) m,.fn 136 [.ipt (aa.cells ZERO) 0]] [] 0 (.val (.bool false)) [])
 (hsub:ACall Tryz.prog 137 [.agg (aa.cells ONE),.agg (aa.cells F)] [] 0 (.tup [.agg (aa.cells R),.val (.int .i64 0)]) []):
 ACall Tryz.prog 95 [.isl false [.val (.int .u16 (U a))] 1,.isl false (cX wr) n,.agg (aa.cells F),.isl cz (cR cap) m] [] 0 (.tup [.pt 0 0,.val (.int .i64 0)]) [.cells (wkA cz a wr n F R cap m) 202]:=by
 have hs:=PLift.up hs;have hv:=PLift.up hv;have hc:=PLift.up hc;have w0:=PLift.up w0;have w1:=PLift.up w1;have k0:=PLift.up k0;have k1:=PLift.up k1;have s1:=PLift.up s1;have s2:=PLift.up s2;have hc2:=PLift.up hc2;have hsub:=PLift.up hsub
 have zx1:¬m<1:=by omega
 have zx2:¬12<m:=by omega
 rw[ay F] at hv k0 k1 hsub
 rw[ay ZERO] at w0 k0 hc2
 rw[ay ONE] at w1 k1 hsub
 rw[ay R] at hsub
 rw[ay F]
 unfold wkA
 refine az Tryz.func95 Tryz.ntmps95 rfl ?_
 have zx3:= @hc0;have zx4:= @hc1;have zx5:= @hsup;have zx6:=aD;repeat' (first|refine zqN ?_|((first|refine ax rfl (fun K hK=>?_)|refine ak (fun K hK=>?_)|refine aJ (fun K hK=>?_));(first|refine ah (f:=133) [] 0 true ?_|refine ah (f:=102) [] 0 false ?_|refine ah (f:=134) (dst:=some 27) [] 0 false ?_|refine ah (f:=97) (dst:=some 37) [] 0 false ?_|refine ah (f:=97) (dst:=some 44) [] 0 false ?_|refine ah (f:=97) (dst:=some 64) [] 0 false ?_|refine ah (f:=100) (dst:=some 40) [] 0 false ?_|refine ah (f:=100) (dst:=some 45) [] 0 false ?_|refine ah (f:=35) (dst:=some 50) [] 0 false ?_|refine ah (f:=35) (dst:=some 52) [] 0 false ?_|refine ah (f:=134) (dst:=some 61) [] 0 true ?_|refine ah (f:=137) [] 0 false ?_);refine CR ?_;(first|refine⟨_,_,hs.down,?_⟩|refine⟨_,_,hv.down,?_⟩|refine⟨_,_,hc.down,?_⟩|refine⟨_,_,w0.down,?_⟩|refine⟨_,_,w1.down,?_⟩|refine⟨_,_,w1.down,?_⟩|refine⟨_,_,k0.down,?_⟩|refine⟨_,_,k1.down,?_⟩|refine⟨_,_,s1.down,?_⟩|refine⟨_,_,s2.down,?_⟩|refine⟨_,_,hc2.down,?_⟩|refine⟨_,_,hsub.down,?_⟩);refine rH ?_;apply hK;clear hK K)|refine adH ?_|refine l7 ?_|(refine l8 ?_ ?_<;>intro hc<;>try exact zqM)|refine zqR 10 [⟨0,[],[39],[],[],0⟩,⟨1,[],[38],[],[],0⟩,⟨2,[0,1],[],[],[],0⟩,⟨3,[0,1,2],[],[],[],0⟩,⟨4,[0,1,2,3],[],[],[],0⟩,⟨5,[0,1,2,3,4],[44],[],[],0⟩,⟨6,[0,1,2,3,4],[43],[],[],0⟩,⟨7,[0,1,2,3,4,5,6],[],[],[],0⟩,⟨8,[0,1,2,3,4,5,6,7],[],[],[],0⟩,⟨9,[0,1,2,3,4,5,6,7,8],[],[],[],0⟩,⟨10,[0,1,2,3,4,5,6,7,8,9],[],[],[],0⟩,⟨11,[0,1,2,3,4,5,6,7,8,9,10],[51,54],[],[],0⟩,⟨12,[0,1,2,3,4,5,6,7,8,9,10,11],[51,54],[],[],0⟩,⟨13,[0,1,2,3,4,5,6,7,8,9,10],[49,50,54],[],[],0⟩,⟨14,[0,1,2,3,4,5,6,7,8,9,10,11,12,13],[54],[],[],0⟩,⟨15,[0,1,2,3,4,5,6,7,8,9,10,11,12,13,14],[54],[],[],0⟩,⟨16,[0,1,2,3,4,5,6,7,8,9,10],[49,50,51,52,53],[],[],0⟩,⟨17,[0,1,2,3,4,5,6,7,8,9,10,11,12,13,14,15,16],[],[],[],0⟩,⟨18,[0,1,2,3,4,5,6,7,8,9,10,11,12,13,14,15,16,17],[],[],[],0⟩,⟨19,[0,1,2,3,4,5,6,7,8,9,10,11,12,13,14,15,16,17,18],[],[],[],0⟩,⟨20,[0,1,2,3,4,5,6,7,8,9,10,11,12,13,14,15,16,17,18,19],[],[],[],0⟩,⟨21,[0,1,2,3,4,5,6,7,8,9,10,11,12,13,14,15,16,17,18,19,20],[60],[],[],0⟩,⟨22,[0,1,2,3,4,5,6,7,8,9,10,11,12,13,14,15,16,17,18,19,20],[59],[],[],0⟩,⟨23,[0,1,2,3,4,5,6,7,8,9,10,11,12,13,14,15,16,17,18,19,20,21,22],[],[],[],0⟩,⟨24,[0,1,2,3,4,5,6,7,8,9,10,11,12,13,14,15,16,17,18,19,20,21,22,23],[],[],[],0⟩] ?_|refine zqR 12 [⟨0,[],[13,65],[],[],0⟩,⟨1,[],[13,64],[],[],0⟩,⟨2,[0,1],[13],[],[],0⟩,⟨3,[0,1,2],[13],[],[],0⟩,⟨4,[0,1,2,3],[13,68],[],[],0⟩,⟨5,[0,1,2,3],[13,67],[2],[],0⟩,⟨6,[],[63,64,65,66,67,68],[],[],1⟩,⟨7,[0,1,2,3,4,6],[68],[],[2],0⟩,⟨8,[0,1,2,3,4,5,6,7],[],[],[],0⟩] ?_|refine zqD ?_|fail)
 all_goals first
  |((refine Ends.mk2 zqI [4] ?_;simp-dsimp(disch:=try exact vD) only[push_cast,simprocAttr,Tryz.f95];try exact zqF);done)
  |skip
end
section
open Go Go.Sy Go.Bp Go.Lm Go.Rt
attribute [local irreducible] AO AL AC OpT ACall Ends DGo aN Thn Blk Nxt
variable {n N M k i m j r s w:Nat} {z z':Bool} {v c e:Int} {X Y W:RV} {xs:List RV} {rs:List RL} {b:List Int} {C:List AV} {A1 A2 A3:AV}
theorem VX:ACall Tryz.prog 203 [.ipt C 0,.agg (aa.cells X),.val (.int .i64 0)] [] 0 (.agg (aa.cells X)) []:=by
 rw[ay X]
 refine az Tryz.func203 Tryz.ntmps203 rfl ?_
 repeat' (first|refine zqN ?_|refine bA ?_|refine bB ?_|(refine bC ?_ ?_<;>intro hc<;>try exact zqM))
 all_goals first
  |((refine Ends.mk2 zqI [] ?_;simp-dsimp(disch:=try exact vD) only[push_cast,simprocAttr,Tryz.f203];try exact zqF);done)
  |skip
theorem gN:ACall Tryz.prog 203 [.any,.agg (aa.cells X),.val (.int .i64 0)] [] 0 (.agg (aa.cells X)) []:=by
 rw[ay X]
 refine az Tryz.func203 Tryz.ntmps203 rfl ?_
 repeat' (first|refine zqN ?_|refine bA ?_|refine bB ?_|(refine bC ?_ ?_<;>intro hc<;>try exact zqM))
 all_goals first
  |((refine Ends.mk2 zqI [] ?_;simp-dsimp(disch:=try exact vD) only[push_cast,simprocAttr,Tryz.f203];try exact zqF);done)
  |skip
theorem yj(hm:m≤1000)(hn:n≤1000):ACall Tryz.prog 130 [.ipt [.val (.int .i64 m),.val (.int .i64 n),A1,A2,A3] 0] [] 0 (.val (.int .i64 ((n+m:Nat):Int))) []:=by
 refine az Tryz.func130 Tryz.ntmps130 rfl ?_
 repeat' (first|refine zqN ?_|refine bA ?_|refine bB ?_|(refine bC ?_ ?_<;>intro hc<;>try exact zqM)|refine zqR 1 [⟨0,[],[7,8,9,10],[],[],0⟩,⟨1,[0],[7,8,9,10],[],[],0⟩,⟨2,[0,1],[7,8,9,10],[],[],0⟩,⟨3,[0,1,2],[7,8,9,10],[],[],0⟩,⟨4,[],[3,4,5,6],[],[],0⟩,⟨5,[4],[3,4,5,6],[],[],0⟩,⟨6,[4,5],[3,4,5,6],[],[],0⟩,⟨7,[4,5,6],[3,4,5,6],[],[],0⟩,⟨8,[0,1,2,3,4,5,6,7],[],[],[],0⟩,⟨9,[0,1,2,3,4,5,6,7,8],[],[],[],0⟩] ?_|refine zqD ?_|fail)
 all_goals first
  |((refine Ends.mk2 zqI [] ?_;simp-dsimp(disch:=try exact vD) only[push_cast,simprocAttr,Tryz.f130];try exact zqF);done)
  |skip
theorem VY(h:ACall Tryz.prog 170 [.agg (aa.cells X)] [] 0 (.val (.int .i64 c)) []):ACall Tryz.prog 202 [.agg (aa.cells X)] [] 0 (.val (.bool (decide (c<0)))) []:=by
 have h:=PLift.up h
 rw[ay X]
 refine az Tryz.func202 Tryz.ntmps202 rfl ?_
 repeat' (first|refine zqN ?_|refine aT h.down ?_|refine bA ?_|refine bB ?_|(refine bC ?_ ?_<;>intro hc<;>try exact zqM))
 all_goals first
  |((refine Ends.mk2 zqI [] ?_;simp-dsimp(disch:=try exact vD) only[push_cast,simprocAttr,Tryz.f202];try exact zqF);done)
  |skip
abbrev tbV(m n:Nat)(rs:List RL)(b:List Int):List AV:=[.val (.int .i64 m),.val (.int .i64 n),.isl false (cX rs) (m+1),.isl false (cI .i64 b) m,.val (.int .i64 0)]
theorem GG(hm:m≤14)(hn:n≤400)(hw:n+m=w)(hrs:rs.length=m+1)(hrow:rs.getD m default=⟨false,xs⟩)(hxs:xs.length=w+1)
 (hi:ACall Tryz.prog 177 [.isl false (cR (xs.take w)) w,.fn 202 []] [] 0 (.val (.int .i64 e)) []):ACall Tryz.prog 173 [.ipt (tbV m n rs b) 0] [] 0 (.val (.int .i64 e)) []:=by
 have hwd:=PLift.up (yj (m:=m) (n:=n) (A1:= .isl false (cX rs) (m+1)) (A2:= .isl false (cI .i64 b) m) (A3:= .val (.int .i64 0)) (by omega) (by omega))
 rw[hw] at hwd
 have hi:=PLift.up hi
 unfold tbV
 refine az Tryz.func173 Tryz.ntmps173 rfl ?_
 have zx1:= @hrow;have zx2:= @hxs;have zx3:= @fE;repeat' (first|refine zqN ?_|refine eG hwd.down ?_|refine eG hi.down ?_|refine dx ?_|refine p8 ?_|refine p9 ?_|refine qa ?_|refine dz ?_|(refine dA ?_ ?_<;>intro hc<;>try exact zqM)|refine zqR 1 [⟨0,[],[7,8,9,10,13,14],[],[],0⟩,⟨1,[0],[7,8,9,10,13,14],[],[],0⟩,⟨2,[0,1],[7,8,9,10,13,14],[],[],0⟩,⟨3,[0,1,2],[7,8,9,10,13,14],[],[],0⟩,⟨4,[],[3,4,5,6,13,14],[],[],0⟩,⟨5,[4],[3,4,5,6,13,14],[],[],0⟩,⟨6,[4,5],[3,4,5,6,13,14],[],[],0⟩,⟨7,[4,5,6],[3,4,5,6,13,14],[],[],0⟩,⟨8,[0,1,2,3,4,5,6,7],[13,14],[],[],0⟩,⟨9,[0,1,2,3,4,5,6,7,8],[13,14],[],[],0⟩,⟨10,[],[3,4,5,6,7,8,9,10,11,12],[],[],0⟩,⟨11,[10],[3,4,5,6,7,8,9,10,11,12],[],[],0⟩,⟨12,[0,1,2,3,4,5,6,7,8,9,10,11],[],[],[],0⟩,⟨13,[0,1,2,3,4,5,6,7,8,9,10,11,12],[],[],[],0⟩,⟨14,[0,1,2,3,4,5,6,7,8,9,10,11,12,13],[],[],[],0⟩] ?_|refine zqD ?_|fail)
 all_goals first
  |((refine Ends.mk2 zqI [] ?_;simp-dsimp(disch:=try exact vD) only[push_cast,simprocAttr,Tryz.f173];try exact zqF);done)
  |skip
def dvL(R:List RV)(d:Nat→RV):Nat→List RV
 |0=>R
 |j+1=>(dvL R d j).set j (d j)
theorem ku{R:List RV} {d:Nat→RV}:(dvL R d j).length=R.length:=by
 induction j with
 |zero=>rfl
 |succ j ih=>rw[dvL,List.length_set,ih]
theorem GH{R:List RV} {d:Nat→RV}(h:j≤i):(dvL R d j).getD i default=R.getD i default:=by
 induction j with
 |zero=>rfl
 |succ j ih=>
  rw[dvL,List.getD_eq_getElem?_getD,List.getElem?_set,if_neg (by omega),←List.getD_eq_getElem?_getD]
  exact ih (by omega)
theorem Bv{R:List RV} {d:Nat→RV}(h:i<j)(hj:j≤R.length):(dvL R d j).getD i default=d i:=by
 induction j with
 |zero=>omega
 |succ j ih=>
  rw[dvL,List.getD_eq_getElem?_getD,List.getElem?_set]
  by_cases e:j=i
  ·subst e;rw[if_pos rfl,ku,if_pos (by omega)];rfl
  ·rw[if_neg e,←List.getD_eq_getElem?_getD];exact ih (by omega) (by omega)
def sbR(R:List RV)(p:Nat→Prop) [DecidablePred p](d:Nat→RV):Nat→List RV
 |0=>R
 |j+1=>if p j then sbR R p d j else(sbR R p d j).set j (d j)
section
variable {R:List RV} {p:Nat→Prop} [DecidablePred p]{d:Nat→RV}
theorem gI:(sbR R p d j).length=R.length:=by
 induction j with
 |zero=>rfl
 |succ j ih=>rw[sbR];split<;>simp[ih]
theorem lY(h:j≤i):(sbR R p d j).getD i default=R.getD i default:=by
 induction j with
 |zero=>rfl
 |succ j ih=>
  rw[sbR]
  split
  ·exact ih (by omega)
  ·rw[List.getD_eq_getElem?_getD,List.getElem?_set,if_neg (by omega),←List.getD_eq_getElem?_getD]
   exact ih (by omega)
theorem qi(h:p j):sbR R p d (j+1)=sbR R p d j:=if_pos h
theorem qj(h:¬p j):sbR R p d (j+1)=(sbR R p d j).set j (d j):=if_neg h
theorem GI(h:i<j)(hj:j≤R.length):(sbR R p d j).getD i default=if p i then R.getD i default else d i:=by
 induction j with
 |zero=>omega
 |succ j ih=>
  by_cases e:j=i
  ·subst e
   by_cases hp:p j
   ·rw[qi hp,if_pos hp];exact lY (Nat.le_refl _)
   ·rw[qj hp,if_neg hp,List.getD_eq_getElem?_getD,List.getElem?_set,if_pos rfl,gI,if_pos (by omega)];rfl
  ·have:=ih (by omega) (by omega)
   rw[sbR]
   split
   ·exact this
   ·rw[List.getD_eq_getElem?_getD,List.getElem?_set,if_neg e,←List.getD_eq_getElem?_getD];exact this
end
end
section
open Go Go.Sy Go.Bp Go.Lm Go.Rt
attribute [local irreducible] AO AL AC OpT ACall Ends DGo aN Thn Blk Nxt
variable {n N M k i m j r s a:Nat} {z z' cz:Bool} {v c e:Int} {X Y W V F R ZERO ONE:RV} {wr:List Nat} {cap xs:List RV} {P:List Pr} {K:List AV} {wv:Nat→Nat→RV}
def rwv(wv:Nat→Nat→RV)(i:Nat):Nat→List RV
 |0=>[]
 |k+1=>rwv wv i k++[wv i k]
def rws(wv:Nat→Nat→RV)(n:Nat):Nat→List RL
 |0=>[]
 |i+1=>rws wv n i++[⟨false,rwv wv i n⟩]
theorem Wl:(rwv wv i k).length=k:=by
 induction k with
 |zero=>rfl
 |succ k ih=>simp[rwv,ih]
theorem Wm:(rws wv n i).length=i:=by
 induction i with
 |zero=>rfl
 |succ i ih=>simp[rws,ih]
def gX(ONE:RV):Nat→List RV
 |0=>[]
 |j+1=>gX ONE j++[ONE]
theorem zQ:(gX ONE j).length=j:=by
 induction j with
 |zero=>rfl
 |succ j ih=>simp[gX,ih]
theorem jY(l:List RV)(X:RV):cR l++[.val (.bool X.num.neg),.isl X.num.z (cI .u32 X.num.l) X.num.l.length,.val (.bool X.den.neg),.isl X.den.z (cI .u32 X.den.l) X.den.l.length]=cR (l++[X]):=by rw[←uk];rfl
def pgI(K:List AV)(cz:Bool)(cap:List RV)(m:Nat)(ONE:RV)(P:List Pr)(n:Nat)(j:{j:Nat // j≤n}):St:=
 ⟨61,0,[(0,.ipt K 0),(2,.pt 0 0),(3,.isl false (cR P) n),(4,.pt 1 0),(18,.val (.int .i64 n)),(19,.val (.int .i64 j.val))],
   [(0,some (.cells [.isl true [] 0,.isl true [] 0,.isl true [] 0] 150)),(1,some (.cells [.isl true [] 0,.isl cz (cR cap) m,gL j.val 2 4] 150))]++gM j.val 2 (cR (gX ONE j.val)) 60⟩
def pgA(K:List AV)(cz:Bool)(cap:List RV)(m:Nat)(ONE:RV)(P:List Pr)(n:Nat)(wv:Nat→Nat→RV)(i:{i:Nat // i≤m}):St:=
 ⟨61,0,[(0,.ipt K 0),(2,.pt 0 0),(3,.isl false (cR P) n),(4,.pt 1 0),(32,.val (.int .i64 m)),(33,.val (.int .i64 i.val))],
   [(0,some (.cells [.isl true [] 0,.isl true [] 0,.isl true [] 0] 150)),(1,some (.cells [gL i.val 3 1,.isl cz (cR cap) m,.sl 2 0 n 4] 150)),(2,some (.cells (cR (gX ONE n)) 60))]++gM i.val 3 (cX (rws wv n i.val)) 103⟩
def pgR(K:List AV)(cz:Bool)(cap:List RV)(m:Nat)(ONE:RV)(P:List Pr)(n:Nat)(wv:Nat→Nat→RV)(i:Nat)(k:{k:Nat // k≤n}):St:=
 ⟨61,0,[(0,.ipt K 0),(2,.pt 0 0),(3,.isl false (cR P) n),(4,.pt 1 0),(5,.val (.int .i64 i)),(6,gL k.val 4 4),(32,.val (.int .i64 m)),(33,.val (.int .i64 i)),(36,.isl false (cR P) n),(37,.val (.int .i64 n)),(38,.val (.int .i64 k.val))],
   [(0,some (.cells [.isl true [] 0,.isl true [] 0,.isl true [] 0] 150)),(1,some (.cells [gL i 3 1,.isl cz (cR cap) m,.sl 2 0 n 4] 150)),(2,some (.cells (cR (gX ONE n)) 60))]++gM i 3 (cX (rws wv n i)) 103++gM k.val 4 (cR (rwv wv i k.val)) 60⟩
theorem BF(hP:P.length=n)(h0:0<n)(hn:n≤1000)(hcl:cap.length=m)(hm0:0<m)(hm:m≤1000)(g4:K[10]? =some (.isl cz (cR cap) m))(hpr:ACall Tryz.prog 98 [.ipt K 0] [] 0 (.sl 0 0 n 2) [.cells (cR P) 164])(hco:ACall Tryz.prog 132 [.isl cz (cR cap) m] [] 0 (.isl cz (cR cap) m) [])
 (h1:ACall Tryz.prog 97 [.val (.int .i64 1)] [] 0 (.agg (aa.cells ONE)) []) (hw:∀i k,i<m→k<n→ACall Tryz.prog 153 [.ipt K 0,.val (.int .u16 (U (P.getD k default).a)),.val (.int .u16 (U (P.getD k default).b)),.val (.int .i64 i)] [] 0 (.agg (aa.cells (wv i k))) []):
 ACall Tryz.prog 126 [.ipt K 0] [] 0 (.agg [.isl false (cX (rws wv n m)) m,.isl cz (cR cap) m,.isl false (cR (gX ONE n)) n]) []:=by
 have hpr:=PLift.up hpr;have hco:=PLift.up hco;have h1:=PLift.up h1
 have hwq:=fun(i k:Nat) (h:i<m) (h2:k<n)=>PLift.up (hw i k h h2)
 clear hw
 rw[ay ONE] at h1
 have l1:=fun(j:Nat)=>zQ (ONE:=ONE) (j:=j)
 have l2:=fun(i k:Nat)=>Wl (wv:=wv) (i:=i) (k:=k)
 have l3:=fun(i:Nat)=>Wm (wv:=wv) (n:=n) (i:=i)
 have zx2:(cR P).take (n*2)=cR P:=List.take_of_length_le (by rw[fT,hP];exact Nat.le_refl _)
 have o1:cR (gX ONE 1)=[.val (.bool ONE.num.neg),.isl ONE.num.z (cI .u32 ONE.num.l) ONE.num.l.length,.val (.bool ONE.den.neg),.isl ONE.den.z (cI .u32 ONE.den.l) ONE.den.l.length]:=rfl
 have os:=fun(j:Nat)=>(jY (gX ONE j) ONE:_=cR (gX ONE (j+1)))
 have zx3:(cR (gX ONE n)).take (n*4)=cR (gX ONE n):=List.take_of_length_le (by rw[fT,l1];exact Nat.le_refl _)
 have zx4:(cX (rws wv n m)).take m=cX (rws wv n m):=List.take_of_length_le (by rw[xH,l3];exact Nat.le_refl _)
 have tk3:∀i,(cR (rwv wv i n)).take (n*4)=cR (rwv wv i n):=fun i=>List.take_of_length_le (by rw[fT,l2];exact Nat.le_refl _)
 have rs0:cX (rws wv n 1)=[.isl false (cR (rwv wv 0 n)) n]:=by show [AV.isl false (cR (rwv wv 0 n)) (rwv wv 0 n).length]=_;rw[l2]
 have rs1:∀i,cX (rws wv n i)++[.isl false (cR (rwv wv i n)) n]=cX (rws wv n (i+1)):=fun i=>by
  rw[rws,←Ak];show _=cX (rws wv n i)++[AV.isl false (cR (rwv wv i n)) (rwv wv i n).length];rw[l2]
 have zx5:=ae;have hrw:=ae;have hwk:=ae;have zx6:=ae;have zx7:=ae
 refine az Tryz.func126 Tryz.ntmps126 rfl ?_
 have zx1:= @g4;have zx8:= @fE;have zx9:=aD;repeat' (first|((first|refine dP (r:=2) 1 ?_|refine dO (r:=2) 1 ?_);refine qD ?_;intro K hK;refine hK _ _ ?_;clear hK K)|(refine ai ?_;refine au [0,2,9] ([0,2,9].length) (pgI K cz cap m ONE P n) (fun j=>n-j.val) (⟨0,by omega⟩) rfl (by unfold pgI;exact dM) ?_;(rintro⟨j,hj⟩;have hlj:=l1 j;rcases Nat.lt_or_eq_of_le hj with hjl|hjl<;>first|(have eQ:=hjl.symm;subst eQ;(simp-dsimp only[pgI];refine zqS ?_))|(rcases Nat.eq_zero_or_pos j with j0|j0<;>first|(subst j0;have zx5:=o1;(simp-dsimp only[pgI];refine zqS ?_))|(have zx5:gX ONE j++[ONE]=gX ONE (j+1):=rfl;(simp-dsimp only[pgI];refine zqS ?_)))))|(refine aj ?_;refine Nxt.mk [0,1,4] (⟨j+1,by omega⟩) rfl (by unfold pgI;(try simp only[List.cons_append,List.nil_append]);refine Sub.mk2 ?_;(simp-dsimp(disch:=try exact vD) only[push_cast,simprocAttr,g4,zx2,zx3,zx4,zx5,zx6,zx7,fE,zx5]);(repeat refine aI ?_);first|done|exact vI) zqO)|(refine aj ?_;refine Nxt.mk [0,1,3] (⟨j+1,by omega⟩) rfl (by unfold pgI;(try simp only[List.cons_append,List.nil_append]);refine Sub.mk2 ?_;(simp-dsimp(disch:=try exact vD) only[push_cast,simprocAttr,g4,zx2,zx3,zx4,zx5,zx6,zx7,fE,zx5]);(repeat refine aI ?_);first|done|exact vI) zqO)|(refine aj ?_;refine Nxt.mk [0,1,5] (⟨j+1,by omega⟩) rfl (by unfold pgI;(try simp only[List.cons_append,List.nil_append]);refine Sub.mk2 ?_;(simp-dsimp(disch:=try exact vD) only[push_cast,simprocAttr,g4,zx2,zx3,zx4,zx5,zx6,zx7,fE,zx5]);(repeat refine aI ?_);first|done|exact vI) zqO)|(refine aj ?_;refine Nxt.mk [0,1,4] (⟨1,by omega⟩) rfl (by unfold pgI;(try simp only[List.cons_append,List.nil_append]);refine Sub.mk2 ?_;(simp-dsimp(disch:=try exact vD) only[push_cast,simprocAttr,g4,zx2,zx3,zx4,zx5,zx6,zx7,fE,zx5]);(repeat refine aI ?_);first|done|exact vI) zqO)|(refine aj ?_;refine Nxt.mk [0,1,3] (⟨1,by omega⟩) rfl (by unfold pgI;(try simp only[List.cons_append,List.nil_append]);refine Sub.mk2 ?_;(simp-dsimp(disch:=try exact vD) only[push_cast,simprocAttr,g4,zx2,zx3,zx4,zx5,zx6,zx7,fE,zx5]);(repeat refine aI ?_);first|done|exact vI) zqO)|(refine aj ?_;refine Nxt.mk [0,1,5] (⟨1,by omega⟩) rfl (by unfold pgI;(try simp only[List.cons_append,List.nil_append]);refine Sub.mk2 ?_;(simp-dsimp(disch:=try exact vD) only[push_cast,simprocAttr,g4,zx2,zx3,zx4,zx5,zx6,zx7,fE,zx5]);(repeat refine aI ?_);first|done|exact vI) zqO)|(refine ai ?_;refine au [0,1,2,3,9] ([0,1,2,3,9].length) (pgR K cz cap m ONE P n wv i) (fun k=>n-k.val) (⟨0,by omega⟩) rfl (by unfold pgR;exact dM) ?_;(rintro⟨k,hk⟩;have hlk:=l2 i k;rcases Nat.lt_or_eq_of_le hk with hkl|hkl<;>first|(have eQ:=hkl.symm;subst eQ;(simp-dsimp only[pgR];refine zqS ?_))|(have hwk:=hwq i k hil hkl;rcases Nat.eq_zero_or_pos k with j0|j0<;>first|(subst j0;have hrw:[AV.val (.bool (wv i 0).num.neg),.isl (wv i 0).num.z (cI .u32 (wv i 0).num.l) (wv i 0).num.l.length,.val (.bool (wv i 0).den.neg),.isl (wv i 0).den.z (cI .u32 (wv i 0).den.l) (wv i 0).den.l.length]=cR (rwv wv i 1):=rfl;(simp-dsimp only[pgR];refine zqS ?_))|(have hrw:cR (rwv wv i k)++[AV.val (.bool (wv i k).num.neg),.isl (wv i k).num.z (cI .u32 (wv i k).num.l) (wv i k).num.l.length,.val (.bool (wv i k).den.neg),.isl (wv i k).den.z (cI .u32 (wv i k).den.l) (wv i k).den.l.length]=cR (rwv wv i (k+1)):=jY _ _;(simp-dsimp only[pgR];refine zqS ?_)))))|(refine aj ?_;refine Nxt.mk [0,1,2,3,4] (⟨k+1,by omega⟩) rfl (by unfold pgR;(try simp only[List.cons_append,List.nil_append]);refine Sub.mk2 ?_;(simp-dsimp(disch:=try exact vD) only[push_cast,simprocAttr,g4,zx2,zx3,zx4,zx5,zx6,zx7,fE,hrw]);(repeat refine aI ?_);first|done|exact vI) zqO)|(refine aj ?_;refine Nxt.mk [0,1,2,3,5] (⟨k+1,by omega⟩) rfl (by unfold pgR;(try simp only[List.cons_append,List.nil_append]);refine Sub.mk2 ?_;(simp-dsimp(disch:=try exact vD) only[push_cast,simprocAttr,g4,zx2,zx3,zx4,zx5,zx6,zx7,fE,hrw]);(repeat refine aI ?_);first|done|exact vI) zqO)|(refine aj ?_;refine Nxt.mk [0,1,2,3,6] (⟨k+1,by omega⟩) rfl (by unfold pgR;(try simp only[List.cons_append,List.nil_append]);refine Sub.mk2 ?_;(simp-dsimp(disch:=try exact vD) only[push_cast,simprocAttr,g4,zx2,zx3,zx4,zx5,zx6,zx7,fE,hrw]);(repeat refine aI ?_);first|done|exact vI) zqO)|(refine aj ?_;refine Nxt.mk [0,1,2,3,7] (⟨k+1,by omega⟩) rfl (by unfold pgR;(try simp only[List.cons_append,List.nil_append]);refine Sub.mk2 ?_;(simp-dsimp(disch:=try exact vD) only[push_cast,simprocAttr,g4,zx2,zx3,zx4,zx5,zx6,zx7,fE,hrw]);(repeat refine aI ?_);first|done|exact vI) zqO)|(refine aj ?_;refine Nxt.mk [0,1,2,3,4] (⟨1,by omega⟩) rfl (by unfold pgR;(try simp only[List.cons_append,List.nil_append]);refine Sub.mk2 ?_;(simp-dsimp(disch:=try exact vD) only[push_cast,simprocAttr,g4,zx2,zx3,zx4,zx5,zx6,zx7,fE,hrw]);(repeat refine aI ?_);first|done|exact vI) zqO)|(refine aj ?_;refine Nxt.mk [0,1,2,3,5] (⟨1,by omega⟩) rfl (by unfold pgR;(try simp only[List.cons_append,List.nil_append]);refine Sub.mk2 ?_;(simp-dsimp(disch:=try exact vD) only[push_cast,simprocAttr,g4,zx2,zx3,zx4,zx5,zx6,zx7,fE,hrw]);(repeat refine aI ?_);first|done|exact vI) zqO)|(refine aj ?_;refine Nxt.mk [0,1,2,3,6] (⟨1,by omega⟩) rfl (by unfold pgR;(try simp only[List.cons_append,List.nil_append]);refine Sub.mk2 ?_;(simp-dsimp(disch:=try exact vD) only[push_cast,simprocAttr,g4,zx2,zx3,zx4,zx5,zx6,zx7,fE,hrw]);(repeat refine aI ?_);first|done|exact vI) zqO)|(refine aj ?_;refine Nxt.mk [0,1,2,3,7] (⟨1,by omega⟩) rfl (by unfold pgR;(try simp only[List.cons_append,List.nil_append]);refine Sub.mk2 ?_;(simp-dsimp(disch:=try exact vD) only[push_cast,simprocAttr,g4,zx2,zx3,zx4,zx5,zx6,zx7,fE,hrw]);(repeat refine aI ?_);first|done|exact vI) zqO)|(refine ai ?_;refine au [0,1,2,9,8] ([0,1,2,9,8].length) (pgR K cz cap m ONE P n wv 0) (fun k=>n-k.val) (⟨0,by omega⟩) rfl (by unfold pgR;exact dM) ?_;(rintro⟨k,hk⟩;have hlk:=l2 0 k;rcases Nat.lt_or_eq_of_le hk with hkl|hkl<;>first|(have eQ:=hkl.symm;subst eQ;(simp-dsimp only[pgR];refine zqS ?_))|(have hwk:=hwq 0 k hil hkl;rcases Nat.eq_zero_or_pos k with j0|j0<;>first|(subst j0;have hrw:[AV.val (.bool (wv 0 0).num.neg),.isl (wv 0 0).num.z (cI .u32 (wv 0 0).num.l) (wv 0 0).num.l.length,.val (.bool (wv 0 0).den.neg),.isl (wv 0 0).den.z (cI .u32 (wv 0 0).den.l) (wv 0 0).den.l.length]=cR (rwv wv 0 1):=rfl;(simp-dsimp only[pgR];refine zqS ?_))|(have hrw:cR (rwv wv 0 k)++[AV.val (.bool (wv 0 k).num.neg),.isl (wv 0 k).num.z (cI .u32 (wv 0 k).num.l) (wv 0 k).num.l.length,.val (.bool (wv 0 k).den.neg),.isl (wv 0 k).den.z (cI .u32 (wv 0 k).den.l) (wv 0 k).den.l.length]=cR (rwv wv 0 (k+1)):=jY _ _;(simp-dsimp only[pgR];refine zqS ?_)))))|(refine aj ?_;refine Nxt.mk [0,1,2,9,4] (⟨k+1,by omega⟩) rfl (by unfold pgR;(try simp only[List.cons_append,List.nil_append]);refine Sub.mk2 ?_;(simp-dsimp(disch:=try exact vD) only[push_cast,simprocAttr,g4,zx2,zx3,zx4,zx5,zx6,zx7,fE,hrw]);(repeat refine aI ?_);first|done|exact vI) zqO)|(refine aj ?_;refine Nxt.mk [0,1,2,9,5] (⟨k+1,by omega⟩) rfl (by unfold pgR;(try simp only[List.cons_append,List.nil_append]);refine Sub.mk2 ?_;(simp-dsimp(disch:=try exact vD) only[push_cast,simprocAttr,g4,zx2,zx3,zx4,zx5,zx6,zx7,fE,hrw]);(repeat refine aI ?_);first|done|exact vI) zqO)|(refine aj ?_;refine Nxt.mk [0,1,2,9,6] (⟨k+1,by omega⟩) rfl (by unfold pgR;(try simp only[List.cons_append,List.nil_append]);refine Sub.mk2 ?_;(simp-dsimp(disch:=try exact vD) only[push_cast,simprocAttr,g4,zx2,zx3,zx4,zx5,zx6,zx7,fE,hrw]);(repeat refine aI ?_);first|done|exact vI) zqO)|(refine aj ?_;refine Nxt.mk [0,1,2,9,7] (⟨k+1,by omega⟩) rfl (by unfold pgR;(try simp only[List.cons_append,List.nil_append]);refine Sub.mk2 ?_;(simp-dsimp(disch:=try exact vD) only[push_cast,simprocAttr,g4,zx2,zx3,zx4,zx5,zx6,zx7,fE,hrw]);(repeat refine aI ?_);first|done|exact vI) zqO)|(refine aj ?_;refine Nxt.mk [0,1,2,9,4] (⟨1,by omega⟩) rfl (by unfold pgR;(try simp only[List.cons_append,List.nil_append]);refine Sub.mk2 ?_;(simp-dsimp(disch:=try exact vD) only[push_cast,simprocAttr,g4,zx2,zx3,zx4,zx5,zx6,zx7,fE,hrw]);(repeat refine aI ?_);first|done|exact vI) zqO)|(refine aj ?_;refine Nxt.mk [0,1,2,9,5] (⟨1,by omega⟩) rfl (by unfold pgR;(try simp only[List.cons_append,List.nil_append]);refine Sub.mk2 ?_;(simp-dsimp(disch:=try exact vD) only[push_cast,simprocAttr,g4,zx2,zx3,zx4,zx5,zx6,zx7,fE,hrw]);(repeat refine aI ?_);first|done|exact vI) zqO)|(refine aj ?_;refine Nxt.mk [0,1,2,9,6] (⟨1,by omega⟩) rfl (by unfold pgR;(try simp only[List.cons_append,List.nil_append]);refine Sub.mk2 ?_;(simp-dsimp(disch:=try exact vD) only[push_cast,simprocAttr,g4,zx2,zx3,zx4,zx5,zx6,zx7,fE,hrw]);(repeat refine aI ?_);first|done|exact vI) zqO)|(refine aj ?_;refine Nxt.mk [0,1,2,9,7] (⟨1,by omega⟩) rfl (by unfold pgR;(try simp only[List.cons_append,List.nil_append]);refine Sub.mk2 ?_;(simp-dsimp(disch:=try exact vD) only[push_cast,simprocAttr,g4,zx2,zx3,zx4,zx5,zx6,zx7,fE,hrw]);(repeat refine aI ?_);first|done|exact vI) zqO)|((first|refine dP (r:=16) 4 ?_|refine dO (r:=16) 4 ?_);refine qD ?_;intro K hK;refine hK _ _ ?_;clear hK K)|(refine ai ?_;refine au [0,1,2,9] ([0,1,2,9].length) (pgA K cz cap m ONE P n wv) (fun i=>m-i.val) (⟨0,by omega⟩) rfl (by unfold pgA;exact dM) ?_;(rintro⟨i,hi⟩;have hli:=l3 i;have zx7:=tk3 i;rcases Nat.lt_or_eq_of_le hi with hil|hil<;>first|(have eQ:=hil.symm;subst eQ;(simp-dsimp only[pgA];refine zqS ?_))|(rcases Nat.eq_zero_or_pos i with i0|i0<;>first|(subst i0;have zx6:=rs0;(simp-dsimp only[pgA];refine zqS ?_))|(have zx6:=rs1 i;(simp-dsimp only[pgA];refine zqS ?_)))))|(refine aj ?_;refine Nxt.mk [0,1,2,6] (⟨i+1,by omega⟩) rfl (by unfold pgA;(try simp only[List.cons_append,List.nil_append]);refine Sub.mk2 ?_;(simp-dsimp(disch:=try exact vD) only[push_cast,simprocAttr,g4,zx2,zx3,zx4,zx5,zx6,zx7,fE,zx6]);(repeat refine aI ?_);first|done|exact vI) zqO)|(refine aj ?_;refine Nxt.mk [0,1,2,5] (⟨i+1,by omega⟩) rfl (by unfold pgA;(try simp only[List.cons_append,List.nil_append]);refine Sub.mk2 ?_;(simp-dsimp(disch:=try exact vD) only[push_cast,simprocAttr,g4,zx2,zx3,zx4,zx5,zx6,zx7,fE,zx6]);(repeat refine aI ?_);first|done|exact vI) zqO)|(refine aj ?_;refine Nxt.mk [0,1,2,7] (⟨i+1,by omega⟩) rfl (by unfold pgA;(try simp only[List.cons_append,List.nil_append]);refine Sub.mk2 ?_;(simp-dsimp(disch:=try exact vD) only[push_cast,simprocAttr,g4,zx2,zx3,zx4,zx5,zx6,zx7,fE,zx6]);(repeat refine aI ?_);first|done|exact vI) zqO)|(refine aj ?_;refine Nxt.mk [0,1,2,6] (⟨1,by omega⟩) rfl (by unfold pgA;(try simp only[List.cons_append,List.nil_append]);refine Sub.mk2 ?_;(simp-dsimp(disch:=try exact vD) only[push_cast,simprocAttr,g4,zx2,zx3,zx4,zx5,zx6,zx7,fE,zx6]);(repeat refine aI ?_);first|done|exact vI) zqO)|(refine aj ?_;refine Nxt.mk [0,1,2,5] (⟨1,by omega⟩) rfl (by unfold pgA;(try simp only[List.cons_append,List.nil_append]);refine Sub.mk2 ?_;(simp-dsimp(disch:=try exact vD) only[push_cast,simprocAttr,g4,zx2,zx3,zx4,zx5,zx6,zx7,fE,zx6]);(repeat refine aI ?_);first|done|exact vI) zqO)|(refine aj ?_;refine Nxt.mk [0,1,2,7] (⟨1,by omega⟩) rfl (by unfold pgA;(try simp only[List.cons_append,List.nil_append]);refine Sub.mk2 ?_;(simp-dsimp(disch:=try exact vD) only[push_cast,simprocAttr,g4,zx2,zx3,zx4,zx5,zx6,zx7,fE,zx6]);(repeat refine aI ?_);first|done|exact vI) zqO)|refine zqN ?_|refine kY hpr.down ?_|refine kY hco.down ?_|refine kY h1.down ?_|refine kY hwk.down ?_|refine rJ ?_|refine rM ?_|refine rO ?_|refine rP ?_|refine rT ?_|(refine rU ?_ ?_<;>intro hc<;>try exact zqM)|refine zqR 5 [⟨0,[],[23,24],[],[],0⟩,⟨1,[0],[23,24],[],[],0⟩,⟨2,[],[21,22],[],[],0⟩,⟨3,[2],[21,22],[],[],1⟩,⟨4,[0,1,2,3],[],[],[2],1⟩,⟨5,[0,1,2,3,4],[],[],[],0⟩,⟨6,[0,1,2,3,4,5],[],[],[4],0⟩] ?_|refine zqD ?_|fail)
 all_goals first
  |(((refine Ends.frz 3 ?_;simp-dsimp(disch:=try exact vD) only[push_cast,simprocAttr,Tryz.f126,zx3,zx4];(repeat refine aI ?_);intro K hK;refine hK _ _ ?_;clear hK K);(refine Ends.frz 2 ?_;simp-dsimp(disch:=try exact vD) only[push_cast,simprocAttr,Tryz.f126,zx3,zx4];(repeat refine aI ?_);intro K hK;refine hK _ _ ?_;clear hK K);refine Ends.mk2 zqI [] ?_;simp-dsimp(disch:=try exact vD) only[push_cast,simprocAttr,Tryz.f126,zx3,zx4];try exact zqF);done)
  |skip
theorem yV{PA:List RL} {PC:List RV}(hwl:n≤400)(h0:0<n)(hg:ACall Tryz.prog 95 [.isl false [.val (.int .u16 (U a))] 1,.isl false (cX wr) n,.agg (aa.cells F),.isl cz (cR cap) m] [] 0 (.tup [.pt 0 0,.val (.int .i64 0)]) [.cells (wkA cz a wr n F R cap m) 202])
 (hp:ACall Tryz.prog 126 [.ipt (wkA cz a wr n F R cap m) 0] [] 0 (.agg [.isl false (cX PA) m,.isl cz (cR cap) m,.isl false (cR PC) n]) []) (hv:ACall Tryz.prog 127 [.agg [.isl false (cX PA) m,.isl cz (cR cap) m,.isl false (cR PC) n]] [] 0 (.val (.int .i64 0)) []):
 ACall Tryz.prog 93 [.isl false [.val (.int .u16 (U a))] 1,.isl false (cX wr) n,.agg (aa.cells F),.isl cz (cR cap) m] [] 0 (.tup [.agg [.isl false (cX PA) m,.isl cz (cR cap) m,.isl false (cR PC) n],.val (.int .i64 0)]) []:=by
 have hg:=PLift.up hg;have hp:=PLift.up hp;have hv:=PLift.up hv
 have zx1:¬(400:Int)<n:=by omega
 have zx2:¬400<n:=by omega
 rw[ay F] at hg⊢
 unfold wkA at*
 refine az Tryz.func93 Tryz.ntmps93 rfl ?_
 have zx3:=aD;repeat' (first|((first|refine dP (r:=6) 2 ?_|refine dO (r:=6) 2 ?_);refine rG ?_;intro K hK;refine hK _ _ ?_;clear hK K)|refine zqN ?_|refine eG hg.down ?_|refine eG hp.down ?_|refine eG hv.down ?_|refine dx ?_|refine dz ?_|(refine dA ?_ ?_<;>intro hc<;>try exact zqM))
 all_goals first
  |((refine Ends.mk2 zqI [] ?_;simp-dsimp(disch:=try exact vD) only[push_cast,simprocAttr,Tryz.f93];try exact zqF);done)
  |skip
end
section
open Go Go.Sy Go.Bp Go.Lm Go.Rt
instance:Er Tryz.prog 255 257:=⟨Tryz.underlying255⟩
instance:Er Tryz.prog 270 5:=⟨Tryz.underlying270⟩
instance:abI Tryz.prog 276:=⟨Tryz.underlying276⟩
instance:BU Tryz.prog 257 2:=⟨by kernel_rfl⟩
instance:BU Tryz.prog 5 1:=⟨by kernel_rfl⟩
instance:Xn Tryz.prog 233:=⟨⟨_,Tryz.func233,by kernel_rfl,by kernel_rfl,by kernel_rfl,by kernel_rfl⟩⟩
attribute [local irreducible] AO AL AC OpT ACall Ends DGo aN Thn Blk Nxt
variable {n N M k i m j r w:Nat} {z z':Bool} {v c e:Int} {X Y W:RV} {s s2:ByteArray}
theorem yY:ACall Tryz.prog 224 [.pt 0 0] [.cells [.val (.pointer none),.isl true [] 0] 257] 1 (.tup []) [.cells [.pt 0 0,.isl true [] 0] 257]:=by
 refine az Tryz.func224 Tryz.ntmps224 rfl ?_
 repeat' (first|(((first|refine ax rfl (fun K hK=>?_)|refine ak (fun K hK=>?_));(first|apply GD|apply Br|apply abd);(simp-dsimp(disch:=try exact vD) only[push_cast,simprocAttr,]);(repeat refine aI ?_);apply hK;clear hK K))|refine zqN ?_|refine bA ?_|refine l5 ?_|refine bB ?_|(refine bC ?_ ?_<;>intro hc<;>try exact zqM))
 all_goals first
  |((refine Ends.mk2 zqI [0] ?_;simp-dsimp(disch:=try exact vD) only[push_cast,simprocAttr,Tryz.f224];try exact zqF);done)
  |skip
theorem Qf(hs:0<s.size)(hs2:s.size≤1000):ACall Tryz.prog 220 [.pt 0 0,.val (.string s)] [.cells [.val (.pointer none),.isl true [] 0] 257] 1 (.tup [.val (.int .i64 s.size),.val .nilIface]) [.cells [.pt 0 0,.sl 1 0 s.size 1] 257,.cells (cI .u8 (byL s)) 5]:=by
 have hc:=PLift.up yY
 have zx3:ofV Value.nilIface= .val .nilIface:=rfl
 have zx2:s.size≤140737488355328:=by omega
 refine az Tryz.func220 Tryz.ntmps220 rfl ?_
 have zx1:= @hs;repeat' (first|(((first|refine ax rfl (fun K hK=>?_)|refine ak (fun K hK=>?_));apply DY;(simp-dsimp(disch:=try exact vD) only[push_cast,simprocAttr,hs,zx2]);(repeat refine aI ?_);apply hK;clear hK K))|refine zqN ?_|((first|refine ax rfl (fun K hK=>?_)|refine ak (fun K hK=>?_));(first|refine ah (f:=224) [0] 1 false ?_);refine Am ?_;(first|refine⟨_,_,hc.down,?_⟩);refine rG ?_;apply hK;clear hK K)|refine dx ?_|refine p8 ?_|refine p9 ?_|refine qa ?_|refine dz ?_|(refine dA ?_ ?_<;>intro hc<;>try exact zqM))
 all_goals first
  |((refine Ends.mk2 zqI [0,1] ?_;simp-dsimp(disch:=try exact vD) only[push_cast,simprocAttr,Tryz.f220,zx3];try exact zqF);done)
  |skip
theorem Wo(hs:0<s.size)(hs2:s.size≤1000):ACall Tryz.prog 222 [.pt 0 0] [.cells [.pt 0 0,.sl 1 0 s.size 1] 257,.cells (cI .u8 (byL s)) 5] 0 (.val (.string s)) []:=by
 have zx2:s.size≤140737488355328:=by omega
 refine az Tryz.func222 Tryz.ntmps222 rfl ?_
 have zx1:= @hs;have zx3:=aD;repeat' (first|((refine aJ (fun K hK=>?_);(first|apply Bt|refine D5 s _ _ _ _ ?_);(simp-dsimp(disch:=try exact vD) only[push_cast,simprocAttr,hs,zx2]);(repeat refine aI ?_);apply hK;clear hK K))|refine zqN ?_|refine dx ?_|refine dz ?_|(refine dA ?_ ?_<;>intro hc<;>try exact zqM)|refine zqR 1 [⟨0,[],[8,9,10,11,12],[],[],0⟩,⟨1,[0],[8,9,10,11,12],[],[],0⟩,⟨2,[0,1],[8,9,10,11,12],[],[],0⟩,⟨3,[0,1,2],[8,9,10,11,12],[],[],0⟩,⟨4,[0,1,2,3],[8,9,10,11,12],[],[],0⟩,⟨5,[],[3,4,5,6,7],[],[],0⟩,⟨6,[5],[3,4,5,6,7],[],[],0⟩,⟨7,[5,6],[3,4,5,6,7],[],[],0⟩,⟨8,[5,6,7],[3,4,5,6,7],[],[],0⟩,⟨9,[5,6,7,8],[3,4,5,6,7],[],[],0⟩,⟨10,[0,1,2,3,4,5,6,7,8,9],[],[],[4],0⟩,⟨11,[0,1,2,3,4,5,6,7,8,9,10],[],[],[],0⟩] ?_|refine zqD ?_|fail)
 all_goals first
  |((refine Ends.mk2 zqI [] ?_;simp-dsimp(disch:=try exact vD) only[push_cast,simprocAttr,Tryz.f222];try exact zqF);done)
  |skip
theorem Qg(hc:ACall Tryz.prog 188 [.isl false [.val (.bool false),.isl z [] 0] 1] [] 0 (.val (.int .i64 0)) []):ACall Tryz.prog 215 [.agg [.val (.bool false),.isl z [] 0]] [] 0 (.tup [.val (.string ⟨#[48]⟩),.val (.int .i64 0)]) []:=by
 have hc:=PLift.up hc
 refine az Tryz.func215 Tryz.ntmps215 rfl ?_
 repeat' (first|refine zqN ?_|((first|refine ax rfl (fun K hK=>?_)|refine ak (fun K hK=>?_));(first|refine ah (f:=188) [] 0 true ?_);refine nG ?_;(first|refine⟨_,_,hc.down,?_⟩);refine j5 ?_;apply hK;clear hK K)|refine bA ?_|refine bB ?_|(refine bC ?_ ?_<;>intro hc<;>try exact zqM))
 all_goals first
  |((refine Ends.mk2 zqI [] ?_;simp-dsimp(disch:=try exact vD) only[push_cast,simprocAttr,Tryz.f215];try exact zqF);done)
  |skip
def fmI(x:Int)(s:ByteArray)(q:{q:Nat // q≤1}):St:=match q.val with
 |0=>⟨50,0,[(1,.pt 0 0),(5,.pt 1 0),(6,.val (.int .i64 0))],[(0,some (.cells [.val (.bool false),.isl false [.val (.int .u32 x)] 1] 58)),(1,some (.cells [.val (.pointer none),.isl true [] 0] 257))]⟩
 |_=>⟨50,0,[(1,.pt 0 0),(5,.pt 1 0),(6,.val (.int .i64 (-1)))],[(0,some (.cells [.val (.bool false),.isl false [.val (.int .u32 x)] 1] 58)),(1,some (.cells [.pt 1 0,.sl 2 0 s.size 1] 257)),(2,some (.cells (cI .u8 (byL s)) 5))]⟩
theorem Qh{x:Int}(hs:0<s.size)(hs2:s.size≤1000)(hx:0≤x)(hx2:x<1000000000)(hc:ACall Tryz.prog 188 [.isl false [.val (.bool false),.isl false [.val (.int .u32 x)] 1] 1] [] 0 (.val (.int .i64 0)) [])(hi:ACall Tryz.prog 208 [.val (.int .i64 x)] [] 0 (.val (.string s)) []):
 ACall Tryz.prog 215 [.agg [.val (.bool false),.isl false [.val (.int .u32 x)] 1]] [] 0 (.tup [.val (.string s),.val (.int .i64 0)]) []:=by
 have hc:=PLift.up hc;have hi:=PLift.up hi;have hw:=PLift.up (Qf hs hs2);have hb:=PLift.up (Wo hs hs2)
 refine az Tryz.func215 Tryz.ntmps215 rfl ?_
 repeat' (first|(refine ai ?_;refine au [0,2,9] ([0,2,9].length) (fmI x s) (fun q=>1-q.val) (⟨0,by omega⟩) rfl (by unfold fmI;exact nU) ?_;(rintro⟨q,hq⟩;have hq2:q=0∨q=1:=(by omega);rcases hq2 with hq2|hq2<;>subst hq2<;>(simp-dsimp only[fmI];refine zqS ?_)))|(refine aj ?_;refine Nxt.mk [0,1,2] (⟨1,by omega⟩) rfl (by unfold fmI;exact nU) zqO)|(refine ai ?_;refine au [0,1,9] ([0,1,9].length) (fmI x s) (fun q=>1-q.val) (⟨0,by omega⟩) rfl (by unfold fmI;exact nU) ?_;(rintro⟨q,hq⟩;have hq2:q=0∨q=1:=(by omega);rcases hq2 with hq2|hq2<;>subst hq2<;>(simp-dsimp only[fmI];refine zqS ?_)))|(refine aj ?_;refine Nxt.mk [0,1,2] (⟨1,by omega⟩) rfl (by unfold fmI;exact nU) zqO)|(refine aj ?_;refine Nxt.mk [0,1,3] (⟨1,by omega⟩) rfl (by unfold fmI;exact nU) zqO)|refine zqN ?_|((first|refine ax rfl (fun K hK=>?_)|refine ak (fun K hK=>?_));(first|refine ah (f:=188) [] 0 true ?_|refine ah (f:=208) [] 0 false ?_|refine ah (f:=222) [1,2] 0 false ?_);refine nG ?_;(first|refine⟨_,_,hc.down,?_⟩|refine⟨_,_,hi.down,?_⟩|refine⟨_,_,hb.down,?_⟩);refine j5 ?_;apply hK;clear hK K)|((first|refine ax rfl (fun K hK=>?_)|refine ak (fun K hK=>?_));(first|(refine ah (f:=220) [1] 1 false ?_;refine nG ?_;refine⟨_,_,hw.down,?_⟩;refine j5 ?_;apply hK;clear hK K)|(refine ah (f:=220) [2] 1 false ?_;refine nG ?_;refine⟨_,_,hw.down,?_⟩;refine j5 ?_;apply hK;clear hK K)))|refine bA ?_|refine bB ?_|(refine bC ?_ ?_<;>intro hc<;>try exact zqM))
 all_goals first
  |((refine Ends.mk2 zqI [] ?_;simp-dsimp(disch:=try exact vD) only[push_cast,simprocAttr,Tryz.f215];try exact zqF);done)
  |skip
def Qi(ng z z':Bool)(l1 l2:List Int)(n1 n2:Nat)(q:{q:Nat // q≤2}):St:=
 ⟨32,0,[(13,.sl 0 0 2 2),(14,.val (.int .i64 2)),(15,.val (.int .i64 q.val))],[(0,some (.cells [.val (.bool false),.isl z (cI .u32 l1) n1,.val (.bool false),.isl z' (cI .u32 l2) n2] 58))]⟩
theorem yu{n1 n2:Nat} {l1 l2:List Int}(hs:s.size≤20)(hs2:s2.size≤20)(h1:ACall Tryz.prog 215 [.agg [.val (.bool false),.isl z (cI .u32 l1) n1]] [] 0 (.tup [.val (.string s),.val (.int .i64 0)]) [])(h2:ACall Tryz.prog 215 [.agg [.val (.bool false),.isl z' (cI .u32 l2) n2]] [] 0 (.tup [.val (.string s2),.val (.int .i64 0)]) []){ng:Bool}:
 ACall Tryz.prog 201 [.agg [.val (.bool ng),.isl z (cI .u32 l1) n1,.val (.bool false),.isl z' (cI .u32 l2) n2]] [] 0 (.val (.bool true)) []:=by
 have h1:=PLift.up h1;have h2:=PLift.up h2
 have zx1:¬(20:Int)<s.size:=by omega
 have zx2:¬(20:Int)<s2.size:=by omega
 have zx3:¬20<s.size:=by omega
 have zx4:¬20<s2.size:=by omega
 refine az Tryz.func201 Tryz.ntmps201 rfl ?_
 have zx5:=aD;have zx6:=aD;repeat' (first|(refine ai ?_;refine au [1] ([1].length) (Qi ng z z' l1 l2 n1 n2) (fun q=>2-q.val) (⟨0,by omega⟩) rfl (by unfold Qi;exact gG) ?_;(rintro⟨q,hq⟩;have hq2:q=0∨q=1∨q=2:=(by omega);rcases hq2 with hq2|hq2|hq2<;>subst hq2<;>(simp-dsimp only[Qi];refine zqS ?_)))|(refine aj ?_;refine Nxt.mk [0] (⟨1,by omega⟩) rfl (by unfold Qi;exact gG) zqO)|(refine aj ?_;refine Nxt.mk [0] (⟨2,by omega⟩) rfl (by unfold Qi;exact gG) zqO)|refine zqN ?_|((first|refine ax rfl (fun K hK=>?_)|refine ak (fun K hK=>?_));(first|(refine ah (f:=215) [] 0 false ?_;refine CR ?_;refine⟨_,_,h1.down,?_⟩;refine rH ?_;apply hK;clear hK K)|(refine ah (f:=215) [] 0 false ?_;refine CR ?_;refine⟨_,_,h2.down,?_⟩;refine rH ?_;apply hK;clear hK K)))|refine adH ?_|refine l7 ?_|(refine l8 ?_ ?_<;>intro hc<;>try exact zqM))
 all_goals first
  |((refine Ends.mk2 zqI [] ?_;simp-dsimp(disch:=try exact vD) only[push_cast,simprocAttr,Tryz.f201];try exact zqF);done)
  |skip
end
