/- La7 La10 La5b La11. No condition. -/
import Derived.Test.YtgmpdplpodemaaaGreatDoorLaG8
set_option linter.all false
set_option maxHeartbeats 4000000
set_option maxRecDepth 20000
namespace Go.Proofs.YtgmpdplpodemaaaGreatDoor
section
open Go Go.Sy Go.Bp Go.Lm Go.Rt
attribute [local irreducible] AO AL AC OpT ACall Ends DGo aN Thn Blk Nxt
variable {n N M k i m j r w L:Nat} {z z' cz:Bool} {v c e:Int} {X Y W:RV} {rs A:List RL} {B C xs:List RV} {p:RL→Bool}
def ilI(z:Bool)(F:Nat)(c:Int)(p:RL→Bool)(rs:List RL)(n:Nat)(j:{j:Nat // j≤n∧∀i,i<j→p (rs.getD i default)=false}):St:=
 ⟨19,0,[(0,.isl z (cX rs) n),(1,.fn F [.ipt [.val (.int .i64 c)] 0]),(7,.val (.int .i64 n)),(8,.val (.int .i64 j.val))],[]⟩
theorem Wp{F:FuncId} [gV Tryz.prog F](p:RL→Bool)(hl:rs.length=n)(hn:n≤10000)(hf:∀t:RL,ACall Tryz.prog F [.isl t.z (cR t.l) t.l.length,.ipt [.val (.int .i64 c)] 0] [] 0 (.val (.bool (p t))) []):
 ACall Tryz.prog 200 [.isl z (cX rs) n,.fn F [.ipt [.val (.int .i64 c)] 0]] [] 0 (.val (.int .i64 (ix p rs))) []:=by
 refine az Tryz.func200 Tryz.ntmps200 rfl ?_
 have zx1:= @fE;have zx2:=aD;have zx3:=aD;repeat' (first|(refine ai ?_;refine au [] ([].length) (ilI z F c p rs n) (fun j=>n-j.val) (⟨0,by omega,fun i hi=>absurd hi (by omega)⟩) rfl (by unfold ilI;exact eH) ?_;(rintro⟨j,hj,hnb⟩;(simp-dsimp only[ilI];refine zqS ?_)))|(refine aj ?_;refine Nxt.mk [] (⟨j+1,by omega,nV hnb (by assumption)⟩) rfl (by unfold ilI;exact eH) zqO)|refine zqN ?_|((first|refine ax rfl (fun K hK=>?_)|refine ak (fun K hK=>?_));(first|refine jG (f:=F) [] 0 false ?_);refine Am ?_;(first|refine⟨_,_,hf (rs.getD j default),?_⟩);refine rG ?_;apply hK;clear hK K)|refine dx ?_|refine dz ?_|(refine dA ?_ ?_<;>intro hc<;>try exact zqM))
 all_goals first
  |(have e:ix p rs=j:=um (by omega) hnb (by assumption);(refine Ends.mk2 zqI [] ?_;simp-dsimp(disch:=try exact vD) only[push_cast,simprocAttr,Tryz.f200,e];try exact zqF);done)
  |(have ej:j=n:=(by omega);subst ej;subst hl;have e:ix p rs= -1:=oV hnb;(refine Ends.mk2 zqI [] ?_;simp-dsimp(disch:=try exact vD) only[push_cast,simprocAttr,Tryz.f200,e];try exact zqF);done)
  |skip
theorem Qj{F:FuncId} [gV Tryz.prog F](p:RL→Bool)(hl:rs.length=n)(hn:n≤10000)(hf:∀t:RL,ACall Tryz.prog F [.isl t.z (cR t.l) t.l.length,.ipt [.val (.int .i64 c)] 0] [] 0 (.val (.bool (p t))) []):
 ACall Tryz.prog 165 [.isl z (cX rs) n,.fn F [.ipt [.val (.int .i64 c)] 0]] [] 0 (.val (.bool (rs.any p))) []:=by
 refine az Tryz.func165 Tryz.ntmps165 rfl ?_
 have zx1:= @lV;have zx2:=aD;have zx3:=aD;repeat' (first|refine zqN ?_|refine eG (Wp p hl hn hf) ?_|refine dx ?_|refine dz ?_|(refine dA ?_ ?_<;>intro hc<;>try exact zqM))
 all_goals first
  |((refine Ends.mk2 zqI [] ?_;simp-dsimp(disch:=try exact vD) only[push_cast,simprocAttr,Tryz.f165,lV];try exact zqF);done)
  |skip
theorem abt{t:RL}:ACall Tryz.prog 166 [.isl t.z (cR t.l) t.l.length,.ipt [.val (.int .i64 c)] 0] [] 0 (.val (.bool (!decide ((t.l.length:Int)=c)))) []:=by
 refine az Tryz.func166 Tryz.ntmps166 rfl ?_
 repeat' (first|refine zqN ?_|refine bA ?_|refine bB ?_|(refine bC ?_ ?_<;>intro hc<;>try exact zqM))
 all_goals first
  |((refine Ends.mk2 zqI [] ?_;simp-dsimp(disch:=try exact vD) only[push_cast,simprocAttr,Tryz.f166];try exact zqF);done)
  |skip
theorem Qk(hn:rs.length=n)(hb:n≤10000):ACall Tryz.prog 168 [.isl false (cX rs) n] [] 0 (.sl 0 0 n 1) [.cells (cX rs) 103]:=by
 refine az Tryz.func168 Tryz.ntmps168 rfl ?_
 repeat' (first|refine zqN ?_|refine bA ?_|refine l5 ?_|refine nk ?_|refine nA ?_|refine bB ?_|(refine bC ?_ ?_<;>intro hc<;>try exact zqM))
 all_goals first
  |((refine Ends.mk2 zqI [1] ?_;simp-dsimp(disch:=try exact vD) only[push_cast,simprocAttr,Tryz.f168];try exact zqF);done)
  |skip
def nuI(rs:List RL)(n:Nat)(i:{i:Nat // i≤n}):St:=
 ⟨29,0,[(3,.val (.int .i64 0)),(8,.isl false (cX rs) n),(9,.val (.int .i64 n)),(10,.val (.int .i64 i.val))],[]⟩
def nuJ(rs:List RL)(n i:Nat)(t:RL)(N:Nat)(j:{j:Nat // j≤N}):St:=
 ⟨29,0,[(3,.val (.int .i64 0)),(8,.isl false (cX rs) n),(9,.val (.int .i64 n)),(10,.val (.int .i64 i)),(14,.isl t.z (cR t.l) N),(15,.val (.int .i64 N)),(16,.val (.int .i64 j.val))],[]⟩
theorem BG(hl:rs.length=n)(hn:n≤1000)(hL:∀i,i<n→(rs.getD i default).l.length≤1000)(hv:∀i j,i<n→j<(rs.getD i default).l.length→ACall Tryz.prog 102 [.agg (aa.cells ((rs.getD i default).l.getD j default))] [] 0 (.val (.bool true)) [])
 (hs:∀i j,i<n→j<(rs.getD i default).l.length→ACall Tryz.prog 201 [.agg (aa.cells ((rs.getD i default).l.getD j default))] [] 0 (.val (.bool true)) []):ACall Tryz.prog 167 [.isl false (cX rs) n] [] 0 (.val (.int .i64 0)) []:=by
 have hvq:=fun(i j:Nat) (h:i<n) (h2:j<(rs.getD i default).l.length)=>PLift.up (hv i j h h2)
 have hsq:=fun(i j:Nat) (h:i<n) (h2:j<(rs.getD i default).l.length)=>PLift.up (hs i j h h2)
 clear hv hs
 have hvj:=ae;have hsj:=ae
 refine az Tryz.func167 Tryz.ntmps167 rfl ?_
 have zx1:= @fE;have zx2:=aD;have zx3:=aD;repeat' (first|(refine ai ?_;refine au [] ([].length) (nuJ rs n i (rs.getD i default) (rs.getD i default).l.length) (fun j=>(rs.getD i default).l.length-j.val) (⟨0,by omega⟩) rfl (by unfold nuJ;exact eH) ?_;(rintro⟨j,hj⟩;have hLi:=hL i hil;rcases Nat.lt_or_eq_of_le hj with hjl|hjl<;>first|(have hvj:=hvq i j hil hjl;have hsj:=hsq i j hil hjl;(simp-dsimp only[nuJ];refine zqS ?_))|(subst hjl;(simp-dsimp only[nuJ];refine zqS ?_))))|(refine aj ?_;refine Nxt.mk [] (⟨j+1,by omega⟩) rfl (by unfold nuJ;exact eH) zqO)|(refine ai ?_;refine au [] ([].length) (nuI rs n) (fun i=>n-i.val) (⟨0,by omega⟩) rfl (by unfold nuI;exact eH) ?_;(rintro⟨i,hi⟩;rcases Nat.lt_or_eq_of_le hi with hil|hil<;>first|(have hLi:=hL i hil;(simp-dsimp only[nuI];refine zqS ?_))|(subst hil;(simp-dsimp only[nuI];refine zqS ?_))))|(refine aj ?_;refine Nxt.mk [] (⟨i+1,by omega⟩) rfl (by unfold nuI;exact eH) zqO)|refine zqN ?_|refine eG hvj.down ?_|refine eG hsj.down ?_|refine dx ?_|refine dz ?_|(refine dA ?_ ?_<;>intro hc<;>try exact zqM))
 all_goals first
  |((refine Ends.mk2 zqI [] ?_;simp-dsimp(disch:=try exact vD) only[push_cast,simprocAttr,Tryz.f167];try exact zqF);done)
  |skip
theorem abu(h:ACall Tryz.prog 170 [.agg (aa.cells X)] [] 0 (.val (.int .i64 c)) []):ACall Tryz.prog 169 [.agg (aa.cells X)] [] 0 (.val (.bool (decide (c<0)))) []:=by
 have h:=PLift.up h
 rw[ay X]
 refine az Tryz.func169 Tryz.ntmps169 rfl ?_
 repeat' (first|refine zqN ?_|refine aT h.down ?_|refine bA ?_|refine bB ?_|(refine bC ?_ ?_<;>intro hc<;>try exact zqM))
 all_goals first
  |((refine Ends.mk2 zqI [] ?_;simp-dsimp(disch:=try exact vD) only[push_cast,simprocAttr,Tryz.f169];try exact zqF);done)
  |skip
theorem Wq{f:AV→AV} {l:List AV} {a b:AV}:(l++[a,b]).map f=l.map f++[f a,f b]:=by simp
theorem Ec(hm:1≤m)(hm2:m≤14)(hn:1≤n)(hn2:n≤400)(hA:A.length=m)(hB:B.length=m)(hC:C.length=n)(hc:ACall Tryz.prog 165 [.isl false (cX A) m,.fn 166 [.ipt [.val (.int .i64 n)] 0]] [] 0 (.val (.bool false)) [])
 (hcl:ACall Tryz.prog 168 [.isl false (cX A) m] [] 0 (.sl 0 0 m 1) [.cells (cX A) 103]) (hnu:ACall Tryz.prog 167 [.sl 0 0 (m+2) 1] [.cells (cX A++[.isl cz (cR B) m,.isl false (cR C) n]) 103] 0 (.val (.int .i64 0)) []) (h2:ACall Tryz.prog 134 [.isl cz (cR B) m,.fn 169 []] [] 0 (.val (.bool false)) []):
 ACall Tryz.prog 127 [.agg [.isl false (cX A) m,.isl cz (cR B) m,.isl false (cR C) n]] [] 0 (.val (.int .i64 0)) []:=by
 have hcx:=PLift.up hc;have hcl:=PLift.up hcl;have hnu:=PLift.up hnu;have h2:=PLift.up h2
 have tka:(cX A++[AV.isl cz (cR B) m,.isl false (cR C) n]).take (m+2)=cX A++[AV.isl cz (cR B) m,.isl false (cR C) n]:=List.take_of_length_le (by rw[List.length_append,xH,hA];exact Nat.le_refl _)
 have zx1:¬m<1:=by omega
 have zx2:¬14<m:=by omega
 have zx3:¬n<1:=by omega
 have zx4:¬400<n:=by omega
 refine az Tryz.func127 Tryz.ntmps127 rfl ?_
 have zx5:= @Wq;have zx6:=aD;repeat' (first|refine zqN ?_|((first|refine ax rfl (fun K hK=>?_)|refine ak (fun K hK=>?_)|refine aJ (fun K hK=>?_));(first|refine ah (f:=165) [] 0 true ?_|refine ah (f:=168) [] 0 false ?_|refine ah (f:=167) [4] 0 false ?_|refine ah (f:=134) [] 0 false ?_);refine CR ?_;(first|refine⟨_,_,hcx.down,?_⟩|refine⟨_,_,hcl.down,?_⟩|refine⟨_,_,hnu.down,?_⟩|refine⟨_,_,h2.down,?_⟩);refine rH ?_;apply hK;clear hK K)|refine adH ?_|refine NH ?_|refine NI ?_|refine NJ ?_|refine l7 ?_|(refine l8 ?_ ?_<;>intro hc<;>try exact zqM)|refine zqR 1 [⟨0,[],[4,9,10,11],[],[],0⟩,⟨1,[0],[4,9,10,11],[],[],0⟩,⟨2,[0,1],[4,9,10,11],[],[],0⟩,⟨3,[],[3,4,6,7,8],[],[],0⟩,⟨4,[3],[3,4,6,7,8],[],[],0⟩,⟨5,[3,4],[3,4,6,7,8],[],[],0⟩,⟨6,[],[6,7,8,9,10,11],[],[],1⟩,⟨7,[0,1,2,6],[9,10,11],[],[],0⟩,⟨8,[0,1,2,3,4,5,6,7],[],[],[2],0⟩] ?_|refine zqR 6 [⟨0,[],[40,41,42,43,44],[],[],0⟩,⟨1,[0],[40,41,42,43,44],[],[],0⟩,⟨2,[0,1],[40,41,42,43,44],[],[],1⟩,⟨3,[],[37,38,39,42,43],[],[],0⟩,⟨4,[3],[37,38,39,42,43],[],[],0⟩,⟨5,[],[37,38,39,40,41],[],[],0⟩,⟨6,[5],[37,38,39,40,41],[],[],0⟩,⟨7,[3,4,5,6],[37,38,39],[],[],1⟩,⟨8,[0,1,2,3,4,5,6,7],[],[],[2],1⟩,⟨9,[0,1,2,3,4,5,6,7,8],[],[],[2],0⟩,⟨10,[0,1,2,3,4,5,6,7,8,9],[],[],[],0⟩] ?_|refine zqD ?_|fail)
 all_goals first
  |((refine Ends.mk2 zqI [] ?_;simp-dsimp(disch:=try exact vD) only[push_cast,simprocAttr,Tryz.f127];try exact zqF);done)
  |skip
end
section
open Go Go.Sy Go.Bp Go.Lm Go.Rt
attribute [local irreducible] AO AL AC OpT ACall Ends DGo aN Thn Blk Nxt
variable {n N M k i m j r a H:Nat} {z z' cz:Bool} {v c e:Int} {X Y W F R ZERO ONE LD OV:RV} {wr:List Nat} {cap xs ys:List RV} {K:List AV} {P:List Pr}
def mY(P:List Pr)(q:Nat→RV)(cm:Nat→Int):Nat→List Sh
 |0=>[]
 |i+1=>if 0<cm i then mY P q cm i++[⟨(P.getD i default).a,(P.getD i default).b,q i⟩] else mY P q cm i
def shN(cm:Nat→Int):Nat→Nat
 |0=>0
 |i+1=>if 0<cm i then shN cm i+1 else shN cm i
section
variable {q:Nat→RV} {cm:Nat→Int}
theorem Eg:(mY P q cm i).length=shN cm i:=by
 induction i with
 |zero=>rfl
 |succ i ih=>unfold mY shN;split<;>simp[ih]
theorem abw:shN cm i≤i:=by
 induction i with
 |zero=>exact Nat.le_refl _
 |succ i ih=>unfold shN;split<;>omega
theorem Qq(h:0<cm i):mY P q cm (i+1)=mY P q cm i++[⟨(P.getD i default).a,(P.getD i default).b,q i⟩]:=if_pos h
theorem abx(h:¬0<cm i):mY P q cm (i+1)=mY P q cm i:=if_neg h
theorem adm(h:0<cm i):shN cm (i+1)=shN cm i+1:=if_pos h
theorem adn(h:¬0<cm i):shN cm (i+1)=shN cm i:=if_neg h
end
def qL(q:Nat→RV):Nat→List RV
 |0=>[]
 |i+1=>qL q i++[q i]
theorem aby{q:Nat→RV}:(qL q i).length=i:=by
 induction i with
 |zero=>rfl
 |succ i ih=>simp[qL,ih]
abbrev bz:List AV:=[.val (.bool false),.isl true [] 0,.val (.bool false),.isl true [] 0,.isl true [] 0,.isl true [] 0]
def opS(OV:RV)(xs ys:List RV)(n m:Nat)(LD:RV)(P:List Pr)(q:Nat→RV)(cm:Nat→Int)(i:{i:Nat // i≤n}):St:=
 ⟨130,0,[(8,.pt 0 0),(12,.pt 1 0),(15,.pt 2 0),(16,.pt 3 0),(68,.sl 4 0 n 2),(69,.val (.int .i64 n)),(70,.val (.int .i64 i.val))],
   [(0,some (.cells bz 105)),(1,some (.cells (r4 OV++[.isl false (cR xs) n,.isl false (cR ys) m]) 154)),(2,some (.cells (r4 LD) 60)),(3,some (.cells (r4 LD++[gL (shN cm i.val) 5 6,.isl true [] 0]) 105)),(4,some (.cells (cR P) 164))]++gM (shN cm i.val) 5 (cR (mY P q cm i.val)) 167⟩
def opP(ys:List RV)(m:Nat)(LD:RV)(N:Nat)(ss:List Sh)(p:Nat→RV)(i:{i:Nat // i≤m}):St:=
 ⟨130,0,[(8,.pt 0 0),(15,.pt 1 0),(16,.pt 2 0),(106,.isl false (cR ys) m),(107,.val (.int .i64 m)),(108,.val (.int .i64 i.val))],
   [(0,some (.cells bz 105)),(1,some (.cells (r4 LD) 60)),(2,some (.cells (r4 LD++[.sl 3 0 N 6,gL i.val 4 4]) 105)),(3,some (.cells (cR ss) 167))]++gM i.val 4 (cR (qL p i.val)) 60⟩
theorem BK{q p:Nat→RV} {cm:Nat→Int} {CA CB CC:List AV}(hP:P.length=n)(h0:0<n)(hn:n≤400)(hm0:0<m)(hm:m≤14)(hxl:xs.length=n)(hyl:ys.length=m)(hN:shN cm n=N)(hN0:0<N)(hpf:ACall Tryz.prog 93 [.isl false [.val (.int .u16 (U a))] 1,.isl false (cX wr) n,.agg (aa.cells F),.isl cz (cR cap) m] [] 0 (.tup [.agg [.isl false CA m,.isl cz CB m,.isl false CC n],.val (.int .i64 0)]) [])
 (hso:ACall Tryz.prog 94 [.agg [.isl false CA m,.isl cz CB m,.isl false CC n]] [] 0 (.tup [.agg (r4 OV++[.isl false (cR xs) n,.isl false (cR ys) m]),.val (.int .i64 0)]) []) (hg:ACall Tryz.prog 95 [.isl false [.val (.int .u16 (U a))] 1,.isl false (cX wr) n,.agg (aa.cells F),.isl cz (cR cap) m] [] 0 (.tup [.pt 0 0,.val (.int .i64 0)]) [.cells (wkA cz a wr n F R cap m) 202])
 (w1:ACall Tryz.prog 97 [.val (.int .i64 1)] [] 0 (.agg (aa.cells ONE)) []) (w0:ACall Tryz.prog 97 [.val (.int .i64 0)] [] 0 (.agg (aa.cells ZERO)) []) (hd:ACall Tryz.prog 96 [.agg (aa.cells ONE),.agg (aa.cells OV)] [] 0 (.tup [.agg (aa.cells LD),.val (.int .i64 0)]) [])
 (hpr:ACall Tryz.prog 98 [.ipt (wkA cz a wr n F R cap m) 0] [] 0 (.sl 0 0 n 2) [.cells (cR P) 164]) (hq:∀i,i<n→ACall Tryz.prog 99 [.agg (aa.cells (xs.getD i default)),.agg (aa.cells LD)] [] 0 (.tup [.agg (aa.cells (q i)),.val (.int .i64 0)]) [])
 (hc:∀i,i<n→ACall Tryz.prog 100 [.agg (aa.cells (q i)),.agg (aa.cells ZERO)] [] 0 (.val (.int .i64 (cm i))) []) (hy:∀i,i<m→ACall Tryz.prog 99 [.agg (aa.cells (ys.getD i default)),.agg (aa.cells LD)] [] 0 (.tup [.agg (aa.cells (p i)),.val (.int .i64 0)]) []):
 ACall Tryz.prog 54 [.isl false [.val (.int .u16 (U a))] 1,.isl false (cX wr) n,.agg (aa.cells F),.isl cz (cR cap) m] [] 0 (.tup [.agg (r4 LD++[.isl false (cR (mY P q cm n)) N,.isl false (cR (qL p m)) m]),.val (.int .i64 0)]) []:=by
 have hpf:=PLift.up hpf;have hso:=PLift.up hso;have hg:=PLift.up hg;have w1:=PLift.up w1;have w0:=PLift.up w0;have hd:=PLift.up hd;have hpr:=PLift.up hpr
 have hqq:=fun(i:Nat) (h:i<n)=>PLift.up (hq i h);have hcq:=fun(i:Nat) (h:i<n)=>PLift.up (hc i h);have hyq:=fun(i:Nat) (h:i<m)=>PLift.up (hy i h)
 clear hq hc hy
 rw[ay F] at*
 rw[ay ONE] at w1 hd
 rw[ay ZERO] at w0
 rw[ay OV,ay LD] at hd
 unfold wkA r4 at*
 simp only[List.cons_append,List.nil_append] at*
 have lS:=fun(i:Nat)=>Eg (P:=P) (q:=q) (cm:=cm) (i:=i)
 have lN:=fun(i:Nat)=>abw (cm:=cm) (i:=i)
 have lQ:=fun(i:Nat)=>aby (q:=p) (i:=i)
 have zx2:(cR P).take (n*2)=cR P:=List.take_of_length_le (by rw[fT,hP];exact Nat.le_refl _)
 have zx3:(cR (mY P q cm n)).take (N*6)=cR (mY P q cm n):=List.take_of_length_le (by rw[fT,lS,hN];exact Nat.le_refl _)
 have zx4:(cR (qL p m)).take (m*4)=cR (qL p m):=List.take_of_length_le (by rw[fT,lQ];exact Nat.le_refl _)
 have zx1:shN cm 0=0:=rfl
 have hqi:=ae;have hci:=ae;have hyi:=ae;have zx5:=ae;have hsn:=ae;have hnn:=ae;have zx6:=ae;have hps:=ae;have zx7:=ae;have h00:=ae
 refine az Tryz.func54 Tryz.ntmps54 rfl ?_
 have zx8:= @hN;have zx9:=aD;repeat' (first|((first|refine dP (r:=12) 4 ?_|refine dO (r:=12) 4 ?_);refine qD ?_;intro K hK;refine hK _ _ ?_;clear hK K)|(refine ai ?_;refine au [1,3,5,6,7,99] ([1,3,5,6,7,99].length) (opS OV xs ys n m LD P q cm) (fun i=>n-i.val) (⟨0,by omega⟩) rfl (by unfold opS;exact dM) ?_;(rintro⟨i,hi⟩;have zx6:=lS i;have hnl:=lN i;rcases Nat.lt_or_eq_of_le hi with hil|hil<;>first|(have eQ:=hil.symm;subst eQ;(simp-dsimp only[opS];refine zqS ?_))|(have hqi:=hqq i hil;have hci:=hcq i hil;rcases Decidable.em (0<cm i) with zx5|zx5<;>first|(have hnn:=adm (cm:=cm) zx5;rcases Nat.eq_zero_or_pos (shN cm i) with h00|h00<;>first|(have hps:[.val (.int .u16 (U (P.getD i default).a)),.val (.int .u16 (U (P.getD i default).b)),.val (.bool (q i).num.neg),.isl (q i).num.z (cI .u32 (q i).num.l) (q i).num.l.length,.val (.bool (q i).den.neg),.isl (q i).den.z (cI .u32 (q i).den.l) (q i).den.l.length]=cR (mY P q cm (i+1)):=(by have e:mY P q cm i=[]:=List.eq_nil_of_length_eq_zero (zx6.trans h00);rw[Qq zx5,e];rfl);(simp-dsimp only[opS];refine zqS ?_))|(have hps:cR (mY P q cm i)++[.val (.int .u16 (U (P.getD i default).a)),.val (.int .u16 (U (P.getD i default).b)),.val (.bool (q i).num.neg),.isl (q i).num.z (cI .u32 (q i).num.l) (q i).num.l.length,.val (.bool (q i).den.neg),.isl (q i).den.z (cI .u32 (q i).den.l) (q i).den.l.length]=cR (mY P q cm (i+1)):=(by rw[Qq zx5,←uk];rfl);(simp-dsimp only[opS];refine zqS ?_)))|(have hnn:=adn (cm:=cm) zx5;have hps:=abx (P:=P) (q:=q) zx5;rcases Nat.eq_zero_or_pos (shN cm i) with h00|h00<;>(simp-dsimp only[opS];refine zqS ?_)))))|(refine aj ?_;refine Nxt.mk [0,1,2,3,4,9] (⟨i+1,by omega⟩) rfl (by unfold opS;(try simp only[List.cons_append,List.nil_append]);refine Sub.mk2 ?_;(simp-dsimp(disch:=try exact vD) only[push_cast,simprocAttr,zx1,zx2,zx3,zx4,zx5,zx6,zx7,hN,hps,hnn,h00]);(repeat refine aI ?_);first|done|exact vI) zqO)|(refine aj ?_;refine Nxt.mk [0,1,2,3,4,5] (⟨i+1,by omega⟩) rfl (by unfold opS;(try simp only[List.cons_append,List.nil_append]);refine Sub.mk2 ?_;(simp-dsimp(disch:=try exact vD) only[push_cast,simprocAttr,zx1,zx2,zx3,zx4,zx5,zx6,zx7,hN,hps,hnn,h00]);(repeat refine aI ?_);first|done|exact vI) zqO)|(refine aj ?_;refine Nxt.mk [0,1,2,3,4,19] (⟨i+1,by omega⟩) rfl (by unfold opS;(try simp only[List.cons_append,List.nil_append]);refine Sub.mk2 ?_;(simp-dsimp(disch:=try exact vD) only[push_cast,simprocAttr,zx1,zx2,zx3,zx4,zx5,zx6,zx7,hN,hps,hnn,h00]);(repeat refine aI ?_);first|done|exact vI) zqO)|(refine ai ?_;refine au [0,2,3,5,99] ([0,2,3,5,99].length) (opP ys m LD N (mY P q cm n) p) (fun i=>m-i.val) (⟨0,by omega⟩) rfl (by unfold opP;exact dM) ?_;(rintro⟨i,hi⟩;have zx7:=lQ i;rcases Nat.lt_or_eq_of_le hi with hil|hil<;>first|(have eQ:=hil.symm;subst eQ;(simp-dsimp only[opP];refine zqS ?_))|(have hyi:=hyq i hil;have hps:_=cR (qL p (i+1)):=jY (qL p i) (p i);rcases Nat.eq_zero_or_pos i with h00|h00<;>first|(subst h00;(simp-dsimp only[opP];refine zqS ?_))|(simp-dsimp only[opP];refine zqS ?_))))|(refine aj ?_;refine Nxt.mk [0,1,2,3,8] (⟨i+1,by omega⟩) rfl (by unfold opP;(try simp only[List.cons_append,List.nil_append]);refine Sub.mk2 ?_;(simp-dsimp(disch:=try exact vD) only[push_cast,simprocAttr,zx1,zx2,zx3,zx4,zx5,zx6,zx7,hN,hps]);(repeat refine aI ?_);first|done|exact vI) zqO)|(refine aj ?_;refine Nxt.mk [0,1,2,3,7] (⟨i+1,by omega⟩) rfl (by unfold opP;(try simp only[List.cons_append,List.nil_append]);refine Sub.mk2 ?_;(simp-dsimp(disch:=try exact vD) only[push_cast,simprocAttr,zx1,zx2,zx3,zx4,zx5,zx6,zx7,hN,hps]);(repeat refine aI ?_);first|done|exact vI) zqO)|(refine aj ?_;refine Nxt.mk [0,1,2,3,8] (⟨1,by omega⟩) rfl (by unfold opP;(try simp only[List.cons_append,List.nil_append]);refine Sub.mk2 ?_;(simp-dsimp(disch:=try exact vD) only[push_cast,simprocAttr,zx1,zx2,zx3,zx4,zx5,zx6,zx7,hN,hps]);(repeat refine aI ?_);first|done|exact vI) zqO)|(refine aj ?_;refine Nxt.mk [0,1,2,3,7] (⟨1,by omega⟩) rfl (by unfold opP;(try simp only[List.cons_append,List.nil_append]);refine Sub.mk2 ?_;(simp-dsimp(disch:=try exact vD) only[push_cast,simprocAttr,zx1,zx2,zx3,zx4,zx5,zx6,zx7,hN,hps]);(repeat refine aI ?_);first|done|exact vI) zqO)|refine zqN ?_|refine kY hpf.down ?_|refine kY hso.down ?_|refine kY hg.down ?_|refine kY w1.down ?_|refine kY w0.down ?_|refine kY hd.down ?_|refine kY hpr.down ?_|refine kY hqi.down ?_|refine kY hyi.down ?_|refine kY hci.down ?_|refine rJ ?_|refine rM ?_|refine rO ?_|refine rP ?_|refine rT ?_|(refine rU ?_ ?_<;>intro hc<;>try exact zqM)|refine zqR 8 [⟨0,[],[15,56,57],[],[],0⟩,⟨1,[],[15,55],[],[],0⟩,⟨2,[1],[15,55],[],[],0⟩,⟨3,[0,1,2],[15],[],[],0⟩,⟨4,[0,1,2,3],[15],[],[],0⟩,⟨5,[0,1,2,3,4],[15,60],[],[],0⟩,⟨6,[0,1,2,3,4],[15,59],[2],[],0⟩,⟨7,[],[54,55,56,57,58,59,60],[],[],1⟩,⟨8,[0,1,2,3,4,5,7],[60],[],[2],0⟩,⟨9,[0,1,2,3,4,5,6,7,8],[],[],[],0⟩] ?_|refine zqR 15 [⟨0,[],[19,78,81],[],[],0⟩,⟨1,[0],[19,78,81],[],[],0⟩,⟨2,[],[19,76,77,81],[],[],0⟩,⟨3,[0,1,2],[19,81],[],[],0⟩,⟨4,[0,1,2,3],[19,81],[],[],0⟩,⟨5,[],[19,76,77,78,79,80],[],[],0⟩,⟨6,[0,1,2,3,4,5],[19],[],[],0⟩,⟨7,[0,1,2,3,4,5,6],[19],[],[],0⟩,⟨8,[0,1,2,3,4,5,6,7],[19,84],[],[],0⟩,⟨9,[0,1,2,3,4,5,6,7],[19,83],[2],[],0⟩,⟨10,[],[75,76,77,78,79,80,81,82,83,84],[],[],1⟩,⟨11,[0,1,2,3,4,5,6,7,8,10],[84],[],[2],0⟩,⟨12,[0,1,2,3,4,5,6,7,8,9,10,11],[],[],[],0⟩] ?_|refine zqR 18 [⟨0,[],[90],[],[],0⟩,⟨1,[],[89],[],[],0⟩,⟨2,[0,1],[],[],[],0⟩,⟨3,[0,1,2],[],[],[],0⟩] ?_|refine zqD ?_|fail)
 all_goals first
  |(((refine Ends.frz 3 ?_;simp-dsimp(disch:=try exact vD) only[push_cast,simprocAttr,Tryz.f54,zx3,zx4];(repeat refine aI ?_);intro K hK;refine hK _ _ ?_;clear hK K);(refine Ends.frz 4 ?_;simp-dsimp(disch:=try exact vD) only[push_cast,simprocAttr,Tryz.f54,zx3,zx4];(repeat refine aI ?_);intro K hK;refine hK _ _ ?_;clear hK K);refine Ends.mk2 zqI [] ?_;simp-dsimp(disch:=try exact vD) only[push_cast,simprocAttr,Tryz.f54,zx3,zx4];try exact zqF);done)
  |skip
end
set_option maxHeartbeats 20000000
section
open Go Go.Sy Go.Bp Go.Lm Go.Rt
attribute [local irreducible] AO AL AC OpT ACall Ends DGo aN Thn Blk Nxt
variable {n N M k i m j r s w:Nat} {z z':Bool} {v c e:Int} {X Y W:RV} {xs:List RV} {rs:List RL} {b:List Int} {C:List AV} {A1 A2 A3:AV}
def lvI(C:List AV)(k m:Nat)(bst:Nat→Int)(lst:Nat→RV)(i:{i:Nat // i≤m}):St:=
 ⟨102,0,[(0,.ipt C 0),(1,.val (.int .i64 k)),(5,.val (.int .i64 (bst i.val))),(6,.pt 0 0),(14,.val (.int .i64 m)),(15,.val (.int .i64 i.val))],
   [(0,some (.cells [.val (.bool (lst i.val).num.neg),.isl (lst i.val).num.z (cI .u32 (lst i.val).num.l) (lst i.val).num.l.length,.val (.bool (lst i.val).den.neg),.isl (lst i.val).den.z (cI .u32 (lst i.val).den.l) (lst i.val).den.l.length] 60))]⟩
theorem GX{bst sg cm:Nat→Int} {lst q y zz:Nat→RV} {rowL:Nat→List RV} {bb:Nat→Int}(hm:m≤14)(hn:n≤400)(hw:n+m=w)(hk:k<w)(hrs:rs.length=m+1)(hrow:∀i,i<m→rs.getD i default=⟨false,rowL i⟩)(hlen:∀i,i<m→(rowL i).length=w+1)
 (hy:∀i,i<m→(rowL i).getD k default=y i) (hz:∀i,i<m→(rowL i).getD w default=zz i) (hb:b.length=m)
 (hsg:∀i,i<m→ACall Tryz.prog 170 [.agg (aa.cells (y i))] [] 0 (.val (.int .i64 (sg i))) [])
 (hdv:∀i,i<m→¬sg i≤0→ACall Tryz.prog 96 [.agg (aa.cells (zz i)),.agg (aa.cells (y i))] [] 0 (.tup [.agg (aa.cells (q i)),.val (.int .i64 0)]) [])
 (hcm:∀i,i<m→¬sg i≤0→0≤bst i→ACall Tryz.prog 141 [.agg (aa.cells (q i)),.agg (aa.cells (lst i))] [] 0 (.tup [.val (.int .i64 (cm i)),.val (.int .i64 0)]) [])
 (h0:bst 0= -1) (l0:lst 0=rZ) (hbr:∀i,i≤m→ -1≤bst i∧bst i<m) (hbb:∀i,i<m→0≤bst i→b.getD (bst i).toNat default=bb i)
 (s1:∀i,i<m→sg i≤0→bst (i+1)=bst i∧lst (i+1)=lst i) (s2:∀i,i<m→¬sg i≤0→bst i<0→bst (i+1)=i∧lst (i+1)=q i)
 (s3:∀i,i<m→¬sg i≤0→0≤bst i→0<cm i→bst (i+1)=bst i∧lst (i+1)=lst i) (s4:∀i,i<m→¬sg i≤0→0≤bst i→cm i=0→bb i<b.getD i default→bst (i+1)=bst i∧lst (i+1)=lst i)
 (s5:∀i,i<m→¬sg i≤0→0≤bst i→cm i=0→¬bb i<b.getD i default→bst (i+1)=i∧lst (i+1)=q i) (s6:∀i,i<m→¬sg i≤0→0≤bst i→cm i<0→bst (i+1)=i∧lst (i+1)=q i):
 ACall Tryz.prog 174 [.ipt (tbV m n rs b) 0,.val (.int .i64 k)] [] 0 (.val (.int .i64 (bst m))) []:=by
 have hwd:=PLift.up (yj (m:=m) (n:=n) (A1:= .isl false (cX rs) (m+1)) (A2:= .isl false (cI .i64 b) m) (A3:= .val (.int .i64 0)) (by omega) (by omega))
 rw[hw] at hwd
 have hsq:=fun(i:Nat) (h:i<m)=>PLift.up (hsg i h)
 have hdq:=fun(i:Nat) (h:i<m) (h2:¬sg i≤0)=>PLift.up (hdv i h h2)
 have hcq:=fun(i:Nat) (h:i<m) (h2:¬sg i≤0) (h3:0≤bst i)=>PLift.up (hcm i h h2 h3)
 clear hsg hdv hcm
 have hcl:=fun(X:RV)=>PLift.up (VX (C:=tbV m n rs b) (X:=X))
 unfold tbV at*
 have hr:=ae;have hl:=ae;have hyi:=ae;have hzi:=ae;have hs0:=ae;have hb0:=ae;have hc0:=ae;have hc1:=ae;have hbe:=ae;have hbt:=ae;have hlt:=ae;have hbi:=ae;have hsc:=ae;have hdc:=ae;have hcc:=ae;have e0:=h0
 have q1:(lst 0).num.neg=false:=by rw[l0];rfl
 have q2:(lst 0).num.z=true:=by rw[l0];rfl
 have q3:(lst 0).num.l=[]:=by rw[l0];rfl
 have q4:(lst 0).den.neg=false:=by rw[l0];rfl
 have q5:(lst 0).den.z=true:=by rw[l0];rfl
 have q6:(lst 0).den.l=[]:=by rw[l0];rfl
 refine az Tryz.func174 Tryz.ntmps174 rfl ?_
 repeat' (first|(refine ai ?_;refine au [0] ([0].length) (lvI [.val (.int .i64 m),.val (.int .i64 n),.isl false (cX rs) (m+1),.isl false (cI .i64 b) m,.val (.int .i64 0)] k m bst lst) (fun i=>m-i.val) (⟨0,by omega⟩) rfl (by unfold lvI;(try simp only[List.cons_append,List.nil_append]);refine Sub.mk2 ?_;(simp-dsimp(disch:=try exact vD) only[push_cast,simprocAttr,hr,hl,hyi,hzi,hs0,hb0,hbt,hlt,hbi,e0,fE,q1,q2,q3,q4,q5,q6,fQ,List.length_nil]);(repeat refine aI ?_);first|done|exact vI) ?_;(rintro⟨i,hi⟩;have hri:=hbr i hi;rcases Nat.lt_or_eq_of_le hi with hil|hil<;>first|(have eQ:=hil.symm;subst eQ;(simp-dsimp(disch:=try exact vD) only[push_cast,simprocAttr,lvI]))|(have hr:=hrow i hil;have hl:=hlen i hil;have hyi:=hy i hil;have hzi:=hz i hil;have hsc:=hsq i hil;rcases Decidable.em (sg i≤0) with hs0|hs0<;>first|(have hbl:=s1 i hil hs0;have hbt:=hbl.1;have hlt:=hbl.2;(simp-dsimp(disch:=try exact vD) only[push_cast,simprocAttr,lvI]))|(have hdc:=hdq i hil hs0;rcases Decidable.em (0≤bst i) with hb0|hb0<;>first|(have hcc:=hcq i hil hs0 hb0;have hbi:=hbb i hil hb0;(simp-dsimp(disch:=try exact vD) only[push_cast,simprocAttr,lvI]))|(have hbl:=s2 i hil hs0 (Int.not_le.1 hb0);have hbt:=hbl.1;have hlt:=hbl.2;(simp-dsimp(disch:=try exact vD) only[push_cast,simprocAttr,lvI]))))))|(refine aj ?_;refine Nxt.mk [0] (⟨i+1,by omega⟩) rfl (by unfold lvI;(try simp only[List.cons_append,List.nil_append]);refine Sub.mk2 ?_;(simp-dsimp(disch:=try exact vD) only[push_cast,simprocAttr,hr,hl,hyi,hzi,hs0,hb0,hbt,hlt,hbi,e0,fE,q1,q2,q3,q4,q5,q6,fQ,List.length_nil,hbt,hlt]);(repeat refine aI ?_);first|done|exact vI) (by first|omega|(dsimp only;omega)|(simp;done)|(simp;omega)))|(refine aj ?_;refine Nxt.mk [0] (⟨i+1,by omega⟩) rfl (by unfold lvI;(try simp only[List.cons_append,List.nil_append]);refine Sub.mk2 ?_;(simp-dsimp(disch:=try exact vD) only[push_cast,simprocAttr,hr,hl,hyi,hzi,hs0,hb0,hbt,hlt,hbi,e0,fE,q1,q2,q3,q4,q5,q6,fQ,List.length_nil,(s3 i hil hs0 hb0 (by omega)).1,(s3 i hil hs0 hb0 (by omega)).2]);(repeat refine aI ?_);first|done|exact vI) (by first|omega|(dsimp only;omega)|(simp;done)|(simp;omega)))|(refine aj ?_;refine Nxt.mk [0] (⟨i+1,by omega⟩) rfl (by unfold lvI;(try simp only[List.cons_append,List.nil_append]);refine Sub.mk2 ?_;(simp-dsimp(disch:=try exact vD) only[push_cast,simprocAttr,hr,hl,hyi,hzi,hs0,hb0,hbt,hlt,hbi,e0,fE,q1,q2,q3,q4,q5,q6,fQ,List.length_nil,(s4 i hil hs0 hb0 (by omega) (by omega)).1,(s4 i hil hs0 hb0 (by omega) (by omega)).2]);(repeat refine aI ?_);first|done|exact vI) (by first|omega|(dsimp only;omega)|(simp;done)|(simp;omega)))|(refine aj ?_;refine Nxt.mk [0] (⟨i+1,by omega⟩) rfl (by unfold lvI;(try simp only[List.cons_append,List.nil_append]);refine Sub.mk2 ?_;(simp-dsimp(disch:=try exact vD) only[push_cast,simprocAttr,hr,hl,hyi,hzi,hs0,hb0,hbt,hlt,hbi,e0,fE,q1,q2,q3,q4,q5,q6,fQ,List.length_nil,(s5 i hil hs0 hb0 (by omega) (by omega)).1,(s5 i hil hs0 hb0 (by omega) (by omega)).2]);(repeat refine aI ?_);first|done|exact vI) (by first|omega|(dsimp only;omega)|(simp;done)|(simp;omega)))|(refine aj ?_;refine Nxt.mk [0] (⟨i+1,by omega⟩) rfl (by unfold lvI;(try simp only[List.cons_append,List.nil_append]);refine Sub.mk2 ?_;(simp-dsimp(disch:=try exact vD) only[push_cast,simprocAttr,hr,hl,hyi,hzi,hs0,hb0,hbt,hlt,hbi,e0,fE,q1,q2,q3,q4,q5,q6,fQ,List.length_nil,(s6 i hil hs0 hb0 (by omega)).1,(s6 i hil hs0 hb0 (by omega)).2]);(repeat refine aI ?_);first|done|exact vI) (by first|omega|(dsimp only;omega)|(simp;done)|(simp;omega)))|apply bZ|apply aB|((first|refine ax rfl (fun K hK=>?_)|refine ak (fun K hK=>?_)|refine aJ (fun K hK=>?_));(first|refine ah (f:=130) [] 0 false ?_|refine ah (f:=170) [] 0 false ?_|refine ah (f:=96) [] 0 false ?_|refine ah (f:=141) [] 0 false ?_|refine ah (f:=203) [] 0 false ?_);simp-dsimp(disch:=try exact vD) only[push_cast,simprocAttr,hr,hl,hyi,hzi,hs0,hb0,hbt,hlt,hbi,e0,fE,q1,q2,q3,q4,q5,q6,fQ,List.length_nil];(repeat refine aI ?_);intro G hG;refine hG _ _ ?_;clear hG G;(first|refine⟨_,_,hwd.down,?_⟩|refine⟨_,_,hsc.down,?_⟩|refine⟨_,_,hdc.down,?_⟩|refine⟨_,_,hcc.down,?_⟩|refine⟨_,_,(hcl _).down,?_⟩);simp-dsimp(disch:=try exact vD) only[push_cast,simprocAttr,hr,hl,hyi,hzi,hs0,hb0,hbt,hlt,hbi,e0,fE,q1,q2,q3,q4,q5,q6,fQ,List.length_nil];(repeat refine aI ?_);apply hK;clear hK K)|((first|refine ax rfl (fun K hK=>?_)|refine ak (fun K hK=>?_)|refine aJ (fun K hK=>?_));(first|apply bM|apply aR|apply bU|apply aO|apply dF|apply bi|apply bJ|apply fu|apply fw|apply di|apply dH|apply zm|apply bR|apply bu|apply aU|apply dE);simp-dsimp(disch:=try exact vD) only[push_cast,simprocAttr,hr,hl,hyi,hzi,hs0,hb0,hbt,hlt,hbi,e0,fE,q1,q2,q3,q4,q5,q6,fQ,List.length_nil];(repeat refine aI ?_);apply hK;clear hK K)|((first|refine aK rfl rfl (fun K1 K2 h1 h2=>?_) rfl|refine aF (fun K1 K2 h1 h2=>?_)|refine cO rfl rfl (fun K1 K2 h1 h2=>?_));simp-dsimp(disch:=try exact vD) only[push_cast,simprocAttr,hr,hl,hyi,hzi,hs0,hb0,hbt,hlt,hbi,e0,fE,q1,q2,q3,q4,q5,q6,fQ,List.length_nil];(first|(refine⟨fun hc=>?_,fun hc=>?_⟩<;>first|(exfalso;omega)|(exfalso;contradiction)|refine h1 ?_|refine h2 ?_)|refine h1 ?_|refine h2 ?_);all_goals clear h1 h2 K1 K2)|(refine dw (id:=7) (by kernel_rfl) [⟨0,[],[8,31,32,33,34,35,36,37,38,39,40,41,42,43,44,45,46,47,48,49,50,51,52,53,54],[],[],0⟩,⟨1,[],[8,30,35,38,39,42,43,44,45,46,47,48,49,50,51],[],[],0⟩,⟨2,[1],[8,30,35,38,39,42,43,44,45,46,47,48,49,50,51],[],[],0⟩,⟨3,[1,2],[8,30,35,38,39,42,43,44,45,46,47,48,49,50,51],[],[],0⟩,⟨4,[1,2,3],[8,30,35,38,39,42,43,44,45,46,47,48,49,50,51],[],[],0⟩,⟨5,[],[8,30,31,32,33,34,38,39,42,43,44,45,46,47,48,49,50,51],[],[],0⟩,⟨6,[1,2,3,4,5],[8,30,38,39,42,43,44,45,46,47,48,49,50,51],[],[],0⟩,⟨7,[1,2,3,4,5,6],[8,30,38,39,42,43,44,45,46,47,48,49,50,51],[],[],0⟩,⟨8,[],[8,30,31,32,33,34,35,36,37,42,43,44,45,46,47,48,49,50,51],[],[],0⟩,⟨9,[8],[8,30,31,32,33,34,35,36,37,42,43,44,45,46,47,48,49,50,51],[],[],0⟩,⟨10,[1,2,3,4,5,6,7,8,9],[8,30,42,43,44,45,46,47,48,49,50,51],[],[],0⟩,⟨11,[1,2,3,4,5,6,7,8,9,10],[8,30,42,43,44,45,46,47,48,49,50,51],[],[],0⟩,⟨12,[],[8,30,31,32,33,34,35,36,37,38,39,40,41,46,49],[],[],0⟩,⟨13,[12],[8,30,31,32,33,34,35,36,37,38,39,40,41,46,49],[],[],0⟩,⟨14,[12,13],[8,30,31,32,33,34,35,36,37,38,39,40,41,46,49],[],[],0⟩,⟨15,[12,13,14],[8,30,31,32,33,34,35,36,37,38,39,40,41,46,49],[],[],0⟩,⟨16,[],[8,30,31,32,33,34,35,36,37,38,39,40,41,42,43,44,45,49],[],[],0⟩,⟨17,[12,13,14,15,16],[8,30,31,32,33,34,35,36,37,38,39,40,41,49],[],[],0⟩,⟨18,[12,13,14,15,16,17],[8,30,31,32,33,34,35,36,37,38,39,40,41,49],[],[],0⟩,⟨19,[],[8,30,31,32,33,34,35,36,37,38,39,40,41,42,43,44,45,46,47,48],[],[],0⟩,⟨20,[12,13,14,15,16,17,18,19],[8,30,31,32,33,34,35,36,37,38,39,40,41],[],[],0⟩,⟨21,[12,13,14,15,16,17,18,19,20],[8,30,31,32,33,34,35,36,37,38,39,40,41],[],[],0⟩,⟨22,[1,2,3,4,5,6,7,8,9,10,11,12,13,14,15,16,17,18,19,20,21],[8,30],[],[],0⟩,⟨23,[1,2,3,4,5,6,7,8,9,10,11,12,13,14,15,16,17,18,19,20,21,22],[8,30,54],[],[],0⟩,⟨24,[1,2,3,4,5,6,7,8,9,10,11,12,13,14,15,16,17,18,19,20,21,22],[8,30,53],[],[],0⟩,⟨25,[0,1,2,3,4,5,6,7,8,9,10,11,12,13,14,15,16,17,18,19,20,21,22,23,24],[8],[],[],0⟩,⟨26,[],[30,31,32,33,34,35,36,37,38,39,40,41,42,43,44,45,46,47,48,49,50,51,52,53,54,55],[],[],1⟩,⟨27,[0,1,2,3,4,5,6,7,8,9,10,11,12,13,14,15,16,17,18,19,20,21,22,23,24,25,26],[],[],[2],0⟩] (by kernel_rfl) (by kernel_rfl) (by kernel_rfl) ?_)|(refine dw (id:=15) (by kernel_rfl) [⟨0,[],[],[],[],0⟩,⟨1,[0],[],[],[],0⟩,⟨2,[0,1],[],[],[],0⟩,⟨3,[0,1,2],[],[],[],0⟩,⟨4,[0,1,2,3],[],[],[],0⟩,⟨5,[0,1,2,3,4],[],[],[],0⟩,⟨6,[0,1,2,3,4,5],[85,88,89,90,91,92,93,94],[],[],0⟩,⟨7,[0,1,2,3,4,5,6],[85,88,89,90,91,92,93,94],[],[],0⟩,⟨8,[0,1,2,3,4,5,6,7],[85,88,89,90,91,92,93,94],[],[],0⟩,⟨9,[0,1,2,3,4,5,6,7,8],[85,88,89,90,91,92,93,94],[],[],0⟩,⟨10,[0,1,2,3,4,5],[81,82,83,84,88,89,90,91,92,93,94],[],[],0⟩,⟨11,[0,1,2,3,4,5,6,7,8,9,10],[88,89,90,91,92,93,94],[],[],0⟩,⟨12,[0,1,2,3,4,5,6,7,8,9,10,11],[88,89,90,91,92,93,94],[],[],0⟩,⟨13,[0,1,2,3,4,5],[81,82,83,84,85,86,87,92],[],[],0⟩,⟨14,[0,1,2,3,4,5,13],[81,82,83,84,85,86,87,92],[],[],0⟩,⟨15,[0,1,2,3,4,5,13,14],[81,82,83,84,85,86,87,92],[],[],0⟩,⟨16,[0,1,2,3,4,5,13,14,15],[81,82,83,84,85,86,87,92],[],[],0⟩,⟨17,[0,1,2,3,4,5],[81,82,83,84,85,86,87,88,89,90,91],[],[],0⟩,⟨18,[0,1,2,3,4,5,13,14,15,16,17],[81,82,83,84,85,86,87],[],[],0⟩,⟨19,[0,1,2,3,4,5,13,14,15,16,17,18],[81,82,83,84,85,86,87],[],[],0⟩,⟨20,[0,1,2,3,4,5,6,7,8,9,10,11,12,13,14,15,16,17,18,19],[],[],[],0⟩,⟨21,[0,1,2,3,4,5,6,7,8,9,10,11,12,13,14,15,16,17,18,19,20],[],[],[],0⟩,⟨22,[0,1,2,3,4,5,6,7,8,9,10,11,12,13,14,15,16,17,18,19,20,21],[],[],[],0⟩] (by kernel_rfl) (by kernel_rfl) (by kernel_rfl) ?_)|(refine dw (id:=16) (by kernel_rfl) [⟨0,[],[99],[],[],0⟩,⟨1,[],[5,98],[],[],0⟩,⟨2,[0],[99],[],[],0⟩,⟨3,[0,1,2],[],[],[3],0⟩] (by kernel_rfl) (by kernel_rfl) (by kernel_rfl) ?_)|((first|refine iP (by kernel_rfl) (fun K hK=>?_)|refine kI (by kernel_rfl) (fun K hK=>?_));simp only[↓Go.Sy.fH,↓Go.Sy.fI,↓Go.Sy.ig,↓Go.Sy.fJ,↓Go.Sy.ik,↓Go.Sy.eT,↓Go.Sy.fK,push_cast,Nat.reduceLeDiff,Nat.reduceSub,Nat.reduceBEq,Nat.reduceEqDiff,Nat.reduceAdd,Nat.reduceLT,↓reduceIte,reduceCtorEq];refine hK _ _ _ ?_;clear hK K)|apply pY|apply cu|apply aL|apply bH|apply aX|apply aM|apply bI|apply aY|(refine aQ rfl ?_)|apply aZ|apply bG|apply bF|apply bY)
 all_goals first
  |((refine Ends.mk2 (by first|exact .inr rfl|exact .inl rfl) [] ?_;simp-dsimp(disch:=try exact vD) only[push_cast,simprocAttr,Tryz.f174];try exact zqF);done)
  |skip
end
set_option maxHeartbeats 4000000
section
open Go Go.Sy Go.Bp Go.Lm Go.Rt
attribute [local irreducible] AO AL AC OpT ACall Ends DGo aN Thn Blk Nxt
variable {n N M k i m j r a H:Nat} {z z' cz:Bool} {v c e:Int} {A B:IV} {X Y W F R ZERO ONE LD:RV} {wr:List Nat} {cap xs ys:List RV} {K:List AV}
theorem QO(h:ACall Tryz.prog 76 [.val (.int .i64 v)] [] 0 (.agg (aa.cells A)) [])(h1:ACall Tryz.prog 76 [.val (.int .i64 1)] [] 0 (.agg (aa.cells B)) []):ACall Tryz.prog 101 [.val (.int .i64 v)] [] 0 (.agg (aa.cells (⟨A,B⟩:RV))) []:=by
 have h:=PLift.up h;have h1:=PLift.up h1
 rw[ay]
 refine az Tryz.func101 Tryz.ntmps101 rfl ?_
 repeat' (first|refine zqN ?_|refine aT h.down ?_|refine aT h1.down ?_|refine bA ?_|refine bB ?_|(refine bC ?_ ?_<;>intro hc<;>try exact zqM))
 all_goals first
  |((refine Ends.mk2 zqI [] ?_;simp-dsimp(disch:=try exact vD) only[push_cast,simprocAttr,Tryz.f101];try exact zqF);done)
  |skip
theorem Em(h:ACall Tryz.prog 76 [.val (.int .i64 1)] [] 0 (.agg (aa.cells A)) []):ACall Tryz.prog 55 [] [] 0 (.agg (aa.cells (⟨⟨true,false,[]⟩,A⟩:RV))) []:=by
 have h:=PLift.up h
 rw[ay]
 refine az Tryz.func55 Tryz.ntmps55 rfl ?_
 repeat' (first|refine zqN ?_|refine aT h.down ?_|refine bA ?_|refine bB ?_|(refine bC ?_ ?_<;>intro hc<;>try exact zqM))
 all_goals first
  |((refine Ends.mk2 zqI [] ?_;simp-dsimp(disch:=try exact vD) only[push_cast,simprocAttr,Tryz.f55];try exact zqF);done)
  |skip
def onI(X:RV)(n:Nat)(j:{j:Nat // j≤n}):St:=
 ⟨13,0,[(3,gL j.val 0 4),(4,.val (.int .i64 n)),(5,.val (.int .i64 j.val))],gM j.val 0 (cR (gX X j.val)) 60⟩
theorem LC(h0:0<n)(hn:n≤1000)(h:ACall Tryz.prog 101 [.val (.int .i64 1)] [] 0 (.agg (aa.cells X)) []):ACall Tryz.prog 56 [.val (.int .i64 n)] [] 0 (.isl false (cR (gX X n)) n) []:=by
 have h:=PLift.up h
 rw[ay X] at h
 have l1:=fun(j:Nat)=>zQ (ONE:=X) (j:=j)
 have o1:cR (gX X 1)=[.val (.bool X.num.neg),.isl X.num.z (cI .u32 X.num.l) X.num.l.length,.val (.bool X.den.neg),.isl X.den.z (cI .u32 X.den.l) X.den.l.length]:=rfl
 have zx2:(cR (gX X n)).take (n*4)=cR (gX X n):=List.take_of_length_le (by rw[fT,l1];exact Nat.le_refl _)
 have zx1:=ae
 refine az Tryz.func56 Tryz.ntmps56 rfl ?_
 have zx3:=aD;repeat' (first|(refine ai ?_;refine au [9] ([9].length) (onI X n) (fun j=>n-j.val) (⟨0,by omega⟩) rfl (by unfold onI;exact eH) ?_;(rintro⟨j,hj⟩;have hlj:=l1 j;rcases Nat.lt_or_eq_of_le hj with hjl|hjl<;>first|(have eQ:=hjl.symm;subst eQ;(simp-dsimp only[onI];refine zqS ?_))|(rcases Nat.eq_zero_or_pos j with j0|j0<;>first|(subst j0;have zx1:=o1;(simp-dsimp only[onI];refine zqS ?_))|(have zx1:_=cR (gX X (j+1)):=jY (gX X j) X;(simp-dsimp only[onI];refine zqS ?_)))))|(refine aj ?_;refine Nxt.mk [2] (⟨j+1,by omega⟩) rfl (by unfold onI;(try simp only[List.cons_append,List.nil_append]);refine Sub.mk2 ?_;(simp-dsimp(disch:=try exact vD) only[push_cast,simprocAttr,zx1,zx2,zx1]);(repeat refine aI ?_);first|done|exact vI) zqO)|(refine aj ?_;refine Nxt.mk [1] (⟨j+1,by omega⟩) rfl (by unfold onI;(try simp only[List.cons_append,List.nil_append]);refine Sub.mk2 ?_;(simp-dsimp(disch:=try exact vD) only[push_cast,simprocAttr,zx1,zx2,zx1]);(repeat refine aI ?_);first|done|exact vI) zqO)|(refine aj ?_;refine Nxt.mk [0] (⟨j+1,by omega⟩) rfl (by unfold onI;(try simp only[List.cons_append,List.nil_append]);refine Sub.mk2 ?_;(simp-dsimp(disch:=try exact vD) only[push_cast,simprocAttr,zx1,zx2,zx1]);(repeat refine aI ?_);first|done|exact vI) zqO)|(refine aj ?_;refine Nxt.mk [2] (⟨1,by omega⟩) rfl (by unfold onI;(try simp only[List.cons_append,List.nil_append]);refine Sub.mk2 ?_;(simp-dsimp(disch:=try exact vD) only[push_cast,simprocAttr,zx1,zx2,zx1]);(repeat refine aI ?_);first|done|exact vI) zqO)|(refine aj ?_;refine Nxt.mk [1] (⟨1,by omega⟩) rfl (by unfold onI;(try simp only[List.cons_append,List.nil_append]);refine Sub.mk2 ?_;(simp-dsimp(disch:=try exact vD) only[push_cast,simprocAttr,zx1,zx2,zx1]);(repeat refine aI ?_);first|done|exact vI) zqO)|(refine aj ?_;refine Nxt.mk [0] (⟨1,by omega⟩) rfl (by unfold onI;(try simp only[List.cons_append,List.nil_append]);refine Sub.mk2 ?_;(simp-dsimp(disch:=try exact vD) only[push_cast,simprocAttr,zx1,zx2,zx1]);(repeat refine aI ?_);first|done|exact vI) zqO)|refine zqN ?_|refine eG h.down ?_|refine dx ?_|refine p8 ?_|refine p9 ?_|refine qa ?_|refine dz ?_|(refine dA ?_ ?_<;>intro hc<;>try exact zqM))
 all_goals first
  |(((refine Ends.frz 0 ?_;simp-dsimp(disch:=try exact vD) only[push_cast,simprocAttr,Tryz.f56,zx2];(repeat refine aI ?_);intro K hK;refine hK _ _ ?_;clear hK K);refine Ends.mk2 zqI [] ?_;simp-dsimp(disch:=try exact vD) only[push_cast,simprocAttr,Tryz.f56,zx2];try exact zqF);done)
  |skip
theorem LF{ss:List Sh}(h0:0<n)(hn:n≤400)(hl:wr.length=n)(ha:wr.getD 0 default=a)(hz:ACall Tryz.prog 55 [] [] 0 (.agg (aa.cells F)) [])(ho:ACall Tryz.prog 56 [.val (.int .i64 m)] [] 0 (.isl false (cR cap) m) [])
 (hop:ACall Tryz.prog 54 [.isl false [.val (.int .u16 (U a))] 1,.isl false (cX wr) n,.agg (aa.cells F),.isl false (cR cap) m] [] 0 (.tup [.agg (r4 LD++[.isl false (cR ss) N,.isl false (cR ys) m]),.val (.int .i64 0)]) [])
 (hc:ACall Tryz.prog 57 [.isl false [.val (.int .u16 (U a))] 1,.isl false (cX wr) n,.agg (aa.cells F),.isl false (cR cap) m,.agg (r4 LD++[.isl false (cR ss) N,.isl false (cR ys) m])] [] 0 (.val (.bool true)) []):
 ACall Tryz.prog 21 [.isl false (cX wr) n,.val (.int .i64 m)] [] 0 (.tup [.agg (aa.cells LD),.val (.int .i64 0)]) []:=by
 have hz:=PLift.up hz;have ho:=PLift.up ho;have hop:=PLift.up hop;have hc:=PLift.up hc
 rw[ay F] at hz hop hc
 rw[ay LD]
 unfold r4 at hop hc
 simp only[List.cons_append,List.nil_append] at hop hc
 have zx1:(cX wr).take 1=[.val (.int .u16 (U a))]:=by
  cases wr with
  |nil=>simp at hl;omega
  |cons x l=>have e:x=a:=ha;subst e;rfl
 refine az Tryz.func21 Tryz.ntmps21 rfl ?_
 have zx2:=aD;have zx3:=aD;repeat' (first|refine zqN ?_|refine eG hz.down ?_|refine eG ho.down ?_|refine eG hop.down ?_|refine eG hc.down ?_|refine dx ?_|refine p8 ?_|refine p9 ?_|refine qa ?_|refine dz ?_|(refine dA ?_ ?_<;>intro hc<;>try exact zqM)|refine zqR 1 [⟨0,[],[6,11,12,13,14],[],[],0⟩,⟨1,[0],[6,11,12,13,14],[],[],0⟩,⟨2,[],[6,9,10,12,13,14],[],[],0⟩,⟨3,[],[6,9,10,11,13],[],[],0⟩,⟨4,[],[6,9,10,11,12],[],[],0⟩,⟨5,[3,4],[6,9,10,11],[],[],0⟩,⟨6,[0,1,2,3,4,5],[6],[],[],0⟩,⟨7,[0,1,2,3,4,5,6],[6],[],[],0⟩,⟨8,[0,1,2,3,4,5,6,7],[6,17],[],[],0⟩,⟨9,[0,1,2,3,4,5,6,7],[6,16],[2],[],0⟩,⟨10,[],[8,9,10,11,12,13,14,15,16,17],[],[],1⟩,⟨11,[0,1,2,3,4,5,6,7,8,10],[17],[],[2],0⟩,⟨12,[0,1,2,3,4,5,6,7,8,9,10,11],[],[],[],0⟩] ?_|refine zqR 4 [⟨0,[],[24,25,26,27,28],[],[],0⟩,⟨1,[0],[24,25,26,27,28],[],[],0⟩,⟨2,[],[22,23,25,26,27,28],[],[],0⟩,⟨3,[],[22,23,24,26,28],[],[],0⟩,⟨4,[],[22,23,24,25,28],[],[],0⟩,⟨5,[3,4],[22,23,24,28],[],[],0⟩,⟨6,[],[22,23,24,25,26,27],[],[],0⟩,⟨7,[0,1,2,3,4,5,6],[],[],[],0⟩,⟨8,[0,1,2,3,4,5,6,7],[],[],[],0⟩] ?_|refine zqD ?_|fail)
 all_goals first
  |((refine Ends.mk2 zqI [] ?_;simp-dsimp(disch:=try exact vD) only[push_cast,simprocAttr,Tryz.f21];try exact zqF);done)
  |skip
theorem BP(hl:ACall Tryz.prog 21 [.isl false [.val (.int .u16 3),.val (.int .u16 5),.val (.int .u16 6)] 3,.val (.int .i64 3)] [] 0 (.tup [.agg (aa.cells LD),.val (.int .i64 0)]) [])(hr:ACall Tryz.prog 8 [.isl false [.val (.int .u16 3),.val (.int .u16 5),.val (.int .u16 6)] 3] [] 0 (.tup [.val (.int .i64 1),.val (.int .i64 0)]) [])
 (ho:ACall Tryz.prog 32 [.val (.int .i64 2),.val (.int .i64 3)] [] 0 (.tup [.agg (aa.cells W),.val (.int .i64 0)]) []) (he:ACall Tryz.prog 23 [.agg (aa.cells LD),.agg (aa.cells W)] [] 0 (.val (.bool true)) []):ACall Tryz.prog 7 [] [] 0 (.val (.bool true)) []:=by
 have hl:=PLift.up hl;have hr:=PLift.up hr;have ho:=PLift.up ho;have he:=PLift.up he
 rw[ay LD] at hl he
 rw[ay W] at ho he
 refine az Tryz.func7 Tryz.ntmps7 rfl ?_
 repeat' (first|((first|refine dP (r:=2) 0 ?_|refine dO (r:=2) 0 ?_);refine j5 ?_;intro K hK;refine hK _ _ ?_;clear hK K)|refine zqN ?_|refine aT hl.down ?_|refine aT hr.down ?_|refine aT ho.down ?_|refine aT he.down ?_|refine bA ?_|refine bB ?_|(refine bC ?_ ?_<;>intro hc<;>try exact zqM))
 all_goals first
  |((refine Ends.mk2 zqI [] ?_;simp-dsimp(disch:=try exact vD) only[push_cast,simprocAttr,Tryz.f7];try exact zqF);done)
  |skip
end
