/- InArgs In4 In13 In14 In15. No condition. -/
import Derived.Test.YtgmpdplpodemaaaGreatDoorFDoor
import Derived.Test.YtgmpdplpodemaaaGreatDoorLdG1
import Derived.Test.YtgmpdplpodemaaaGreatDoorInG10
set_option linter.all false
namespace Go.Proofs.YtgmpdplpodemaaaGreatDoor
section
open Go Go.Sy Go.Bp Go.Dg
theorem afB{m:Nat} {av:List AV}(h:gB Tryz.prog m 45 av):∃(z:Bool) (l:List Int),av=[.isl z (cI .u8 l) l.length]∧(∀x∈l,0≤x∧x≤255)∧l.length<2^47:=by
 obtain⟨z,l,e,ho,hl,hz⟩:=FC (g:=fun(x:Int)=>[AV.val (.int .u8 x)]) (Q:=fun x=>0≤x∧x≤255) (bn:=1) Tryz.underlying45 h (by kernel_rfl) (by decide) (fun n x hx=>by
  obtain⟨k,rfl,hk⟩:=CU Tryz.underlying5 hx
  exact⟨k,rfl,Ud hk⟩)
 rw[show l.flatMap (fun(x:Int)=>[AV.val (.int .u8 x)])=cI .u8 l from CW _ l] at e
 exact⟨z,l,e,ho,hl⟩
theorem afC{m:Nat} {av:List AV}(h:gB Tryz.prog m 117 av):∃p:Pc,av=aa.cells p∧adT p:=by
 obtain⟨_,xs,rfl,hl,hx⟩:=CV Tryz.underlying117 h
 match xs,hl with
 |[a0,a1,a2,a3,a4],_=>
  obtain⟨b0,rfl,h0⟩:=CU Tryz.underlying5 (hx 0 _ a0 rfl rfl)
  obtain⟨b1,rfl,h1⟩:=CU Tryz.underlying5 (hx 1 _ a1 rfl rfl)
  obtain⟨b2,rfl,h2⟩:=CU Tryz.underlying5 (hx 2 _ a2 rfl rfl)
  obtain⟨b3,rfl⟩:=afY Tryz.underlying4 (hx 3 _ a3 rfl rfl)
  obtain⟨z,l,rfl,ho,hl⟩:=afB (hx 4 _ a4 rfl rfl)
  refine⟨⟨b0,b1,b2,b3,z,l⟩,rfl,Ud h0,Ud h1,Ud h2,fun j=>?_,hl⟩
  show 0≤l.getD j default∧l.getD j default≤255
  by_cases hj:j<l.length
  ·rw[List.getD_eq_getElem?_getD,List.getElem?_eq_getElem hj];exact ho _ (List.getElem_mem hj)
  ·rw[List.getD_eq_getElem?_getD,List.getElem?_eq_none (by omega)];exact⟨by decide,by decide⟩
structure DrI(l:List Pc):Prop where
 ok:∀j,adT (l.getD j default)
 len:l.length<2^45
theorem aib:adT default:=⟨by decide,by decide,by decide,fun j=>(by
 have e:(default:Pc).k.getD j default=(0:Int):=rfl
 rw[e];decide),by decide⟩
theorem aeC{m:Nat} {av:List AV}(h:gB Tryz.prog m 68 av):∃(z:Bool) (l:List Pc),av=[.isl z (cR l) l.length]∧DrI l:=by
 obtain⟨_,xs,rfl,hl,hx⟩:=CV Tryz.underlying68 h
 match xs,hl with
 |[a0],_=>
  obtain⟨z,l,rfl,ho,hl,_⟩:=afZ (g:=fun(x:Pc)=>aa.cells x) (Q:=adT) (bn:=32) Tryz.underlying66 (hx 0 _ a0 rfl rfl) (by kernel_rfl) (by decide) (fun n x hx=>afC hx)
  refine⟨z,l,rfl,fun j=>?_,hl⟩
  by_cases hj:j<l.length
  ·rw[List.getD_eq_getElem?_getD,List.getElem?_eq_getElem hj];exact ho _ (List.getElem_mem hj)
  ·rw[List.getD_eq_getElem?_getD,List.getElem?_eq_none (by omega)];exact aib
end
set_option maxHeartbeats 4000000
set_option maxRecDepth 20000
section
open Go Go.Sy Go.Bp
attribute [local irreducible] AO AL AC OpT ACall Ends DGo aN Thn Blk Nxt
variable {n m i j k b x y N:Nat} {z z':Bool} {f g B:List Nat} {a:Bool×Nat×Nat}
theorem ahR(hl:f.length=n)(hg:g.length=m)(hn:n≤10000)(hm:m≤10000)(h1:ACall Tryz.prog 33 [.isl z (cX f) n] [] 0 (.val (.int .i64 0)) [])(h2:ACall Tryz.prog 33 [.isl z' (cX g) m] [] 0 (.val (.int .i64 0)) []):
 ACall Tryz.prog 27 [.isl z (cX f) n,.isl z' (cX g) m,.val (.int .u16 (U b))] [] 0 (prR f g b n) []:=by
 have hs:=PLift.up (agl (b:=b) hl hg hn hm h1 h2)
 unfold prR at*
 rcases Bool.eq_false_or_eq_true (pcI f g b n).1 with hff|hff
 ·rw[if_pos hff] at*
  generalize(pcI f g b n).2.1=p at*
  generalize(pcI f g b n).2.2=q at*
  refine az Tryz.func27 Tryz.ntmps27 rfl ?_
  repeat' (first|refine zqN ?_|refine aT hs.down ?_|refine bA ?_|refine bB ?_|(refine bC ?_ ?_<;>intro hc<;>try exact zqM))
  all_goals(refine Ends.mk2 zqI [] ?_;simp-dsimp(disch:=try exact vD) only[push_cast,simprocAttr,Tryz.f27];try exact zqF)
 ·have hne:¬(pcI f g b n).1=true:=by rw[hff];decide
  rw[if_neg hne] at*
  refine az Tryz.func27 Tryz.ntmps27 rfl ?_
  repeat' (first|refine zqN ?_|refine aT hs.down ?_|refine bA ?_|refine bB ?_|(refine bC ?_ ?_<;>intro hc<;>try exact zqM))
  all_goals(refine Ends.mk2 zqI [] ?_;simp-dsimp(disch:=try exact vD) only[push_cast,simprocAttr,Tryz.f27];try exact zqF)
theorem agm(hg:g.length=m)(hm:m<2^47):ACall Tryz.prog 72 [.val (.int .u16 (U x)),.ipt [.isl z' (cX g) m] 0] [] 0 (.val (.bool (!dD g x))) []:=by
 have h:=PLift.up (AR (z:=z') (s:=x) hg hm)
 generalize dD g x=v at h⊢
 refine az Tryz.func72 Tryz.ntmps72 rfl ?_
 repeat' (first|refine zqN ?_|refine aT h.down ?_|refine bA ?_|refine bB ?_|(refine bC ?_ ?_<;>intro hc<;>try exact zqM))
 all_goals(refine Ends.mk2 zqI [] ?_;simp-dsimp(disch:=try exact vD) only[push_cast,simprocAttr,Tryz.f72];try exact zqF)
theorem ahd(hl:f.length=n)(hg:g.length=m)(hn:n<2^47)(hm:m<2^47):ACall Tryz.prog 29 [.isl z (cX f) n,.isl z' (cX g) m] [] 0 (.val (.bool (!(f.any fun q=> !dD g q)))) []:=by
 have h:=PLift.up (C8 (z:=z) (k:=f) (F:=72) (c1:=[.isl z' (cX g) m]) (fun q=> !dD g q) hl hn (fun q=>agm hg hm))
 generalize(f.any fun q=> !dD g q)=v at h⊢
 refine az Tryz.func29 Tryz.ntmps29 rfl ?_
 repeat' (first|((first|refine dP (r:=1) 0 ?_|refine dO (r:=1) 0 ?_);refine j5 ?_;intro K hK;refine hK _ _ ?_;clear hK K)|refine zqN ?_|refine aT h.down ?_|refine bA ?_|refine bB ?_|(refine bC ?_ ?_<;>intro hc<;>try exact zqM))
 all_goals(refine Ends.mk2 zqI [] ?_;simp-dsimp(disch:=try exact vD) only[push_cast,simprocAttr,Tryz.f29];try exact zqF)
def nvB(B:List Nat)(m x y:Nat):Prop:=∀k,k<m→¬dJ (bP x y) (B.getD k default)%65536=0
def nvJ(f:List Nat)(n:Nat)(B:List Nat)(m i j:Nat):Prop:=∀k,k<j→nvB B m (f.getD i default) (f.getD (i+k) default)
structure BdR(f:List Nat)(n:Nat)(B:List Nat)(m:Nat)(R:Option (Nat×Nat×Nat)):Prop where
 no:(∀i,i<n→nvJ f n B m i (n-i))→R=none
 yes:∀i j k,i<n→j<n-i→k<m→(∀i',i'<i→nvJ f n B m i' (n-i'))→nvJ f n B m i j→(∀k',k'<k→¬dJ (bP (f.getD i default) (f.getD (i+j) default)) (B.getD k' default)%65536=0)→
  dJ (bP (f.getD i default) (f.getD (i+j) default)) (B.getD k default)%65536=0→R=some (f.getD i default,f.getD (i+j) default,B.getD k default)
def bdV:Option (Nat×Nat×Nat)→AV
 |none=> .tup [.val (.int .u16 0),.val (.int .u16 0),.val (.int .u16 0),.val (.int .i64 13)]
 |some p=> .tup [.val (.int .u16 (U p.1)),.val (.int .u16 (U p.2.1)),.val (.int .u16 (U p.2.2)),.val (.int .i64 0)]
def bdI(z:Bool)(f:List Nat)(n:Nat)(z':Bool)(B:List Nat)(m:Nat)(i:{i:Nat // i≤n∧∀i',i'<i→nvJ f n B m i' (n-i')}):St:=
 ⟨47,0,[(0,.isl z (cX f) n),(1,.isl z' (cX B) m),(14,.isl z (cX f) n),(15,.val (.int .i64 n)),(16,.val (.int .i64 i.val))],[]⟩
def bdJ(z:Bool)(f:List Nat)(n:Nat)(z':Bool)(B:List Nat)(m i:Nat)(j:{j:Nat // j≤n-i∧nvJ f n B m i j}):St:=
 ⟨47,0,[(0,.isl z (cX f) n),(1,.isl z' (cX B) m),(9,.val (.int .u16 (U (f.getD i default)))),(14,.isl z (cX f) n),(15,.val (.int .i64 n)),(16,.val (.int .i64 i)),(23,.isl z (cX (f.drop i)) (n-i)),(24,.val (.int .i64 ((n-i:Nat):Int))),(25,.val (.int .i64 j.val))],[]⟩
def bdK(z:Bool)(f:List Nat)(n:Nat)(z':Bool)(B:List Nat)(m i j:Nat)(k:{k:Nat // k≤m∧∀k',k'<k→¬dJ (bP (f.getD i default) (f.getD (i+j) default)) (B.getD k' default)%65536=0}):St:=
 ⟨47,0,[(0,.isl z (cX f) n),(1,.isl z' (cX B) m),(9,.val (.int .u16 (U (f.getD i default)))),(11,.val (.int .u16 (U (f.getD (i+j) default)))),(14,.isl z (cX f) n),(15,.val (.int .i64 n)),(16,.val (.int .i64 i)),(23,.isl z (cX (f.drop i)) (n-i)),(24,.val (.int .i64 ((n-i:Nat):Int))),(25,.val (.int .i64 j)),(29,.isl z' (cX B) m),(30,.val (.int .i64 m)),(31,.val (.int .i64 k.val))],[]⟩
theorem afj{P:Nat→Prop}(h:∀k,k<i→P k)(h2:P i):∀k,k<i+1→P k:=fun k hk=>by
 by_cases e:k=i
 ·rw[e];exact h2
 ·exact h k (by omega)
theorem ahS{R:Option (Nat×Nat×Nat)}(hl:f.length=n)(hB:B.length=m)(hn:n≤10000)(hm:m≤10000)(hR:BdR f n B m R):ACall Tryz.prog 73 [.isl z (cX f) n,.isl z' (cX B) m] [] 0 (bdV R) []:=by
 have zx1:=ae
 refine az Tryz.func73 Tryz.ntmps73 rfl ?_
 have zx2:= @hl;have zx3:= @bg;repeat' (first|(refine ai ?_;refine au [] ([].length) (bdK z f n z' B m i j) (fun k=>m-k.val) (⟨0,by omega,fun k hk=>absurd hk (by omega)⟩) rfl (by unfold bdK;exact eH) ?_;(rintro⟨k,hk,hkb⟩;rcases Nat.lt_or_eq_of_le hk with hkl|hkl<;>first|(have eQ:=hkl.symm;subst eQ;(simp-dsimp only[bdK];refine zqS ?_))|(rcases Decidable.em (dJ (bP (f.getD i default) (f.getD (i+j) default)) (B.getD k default)%65536=0) with zx1|zx1<;>(simp-dsimp only[bdK];refine zqS ?_))))|(refine aj ?_;refine Nxt.mk [] (⟨k+1,by omega,afj hkb zx1⟩) rfl (by unfold bdK;exact eH) zqO)|(refine ai ?_;refine au [] ([].length) (bdJ z f n z' B m i) (fun j=>n-i-j.val) (⟨0,by omega,fun k hk=>absurd hk (by omega)⟩) rfl (by unfold bdJ;exact eH) ?_;(rintro⟨j,hj,hjb⟩;rcases Nat.lt_or_eq_of_le hj with hjl|hjl<;>first|(have eQ:=hjl.symm;subst eQ;(simp-dsimp only[bdJ];refine zqS ?_))|(simp-dsimp only[bdJ];refine zqS ?_)))|(refine aj ?_;refine Nxt.mk [] (⟨j+1,by omega,afj hjb hkb⟩) rfl (by unfold bdJ;exact eH) zqO)|(refine ai ?_;refine au [] ([].length) (bdI z f n z' B m) (fun i=>n-i.val) (⟨0,by omega,fun k hk=>absurd hk (by omega)⟩) rfl (by unfold bdI;exact eH) ?_;(rintro⟨i,hi,hib⟩;rcases Nat.lt_or_eq_of_le hi with hil|hil<;>first|(have eQ:=hil.symm;subst eQ;(simp-dsimp only[bdI];refine zqS ?_))|(simp-dsimp only[bdI];refine zqS ?_)))|(refine aj ?_;refine Nxt.mk [] (⟨i+1,by omega,afj hib hjb⟩) rfl (by unfold bdI;exact eH) zqO)|refine zqN ?_|refine dx ?_|refine p8 ?_|refine p9 ?_|refine qa ?_|refine dz ?_|(refine dA ?_ ?_<;>intro hc<;>try exact zqM))
 all_goals first
  |(have er:=hR.yes i j k (by omega) (by omega) (by omega) hib hjb hkb zx1;rw[er];unfold bdV;(refine Ends.mk2 zqI [] ?_;simp-dsimp(disch:=try exact vD) only[push_cast,simprocAttr,Tryz.f73];try exact zqF);done)
  |(have er:=hR.no hib;rw[er];unfold bdV;(refine Ends.mk2 zqI [] ?_;simp-dsimp(disch:=try exact vD) only[push_cast,simprocAttr,Tryz.f73];try exact zqF);done)
  |skip
theorem ahT{R:Option (Nat×Nat×Nat)}(h:ACall Tryz.prog 73 [.isl z (cX f) n,.isl z' (cX B) m] [] 0 (bdV R) []):ACall Tryz.prog 30 [.isl z (cX f) n,.isl z' (cX B) m] [] 0 (.val (.bool R.isNone)) []:=by
 have h:=PLift.up h
 cases R with
 |none=>
  unfold bdV at h
  refine az Tryz.func30 Tryz.ntmps30 rfl ?_
  repeat' (first|refine zqN ?_|refine aT h.down ?_|refine bA ?_|refine bB ?_|(refine bC ?_ ?_<;>intro hc<;>try exact zqM))
  all_goals(refine Ends.mk2 zqI [] ?_;simp-dsimp(disch:=try exact vD) only[push_cast,simprocAttr,Tryz.f30];try exact zqF)
 |some p=>
  unfold bdV at h
  dsimp only at h
  generalize p.1=x at h
  generalize p.2.1=y at h
  generalize p.2.2=b at h
  refine az Tryz.func30 Tryz.ntmps30 rfl ?_
  repeat' (first|refine zqN ?_|refine aT h.down ?_|refine bA ?_|refine bB ?_|(refine bC ?_ ?_<;>intro hc<;>try exact zqM))
  all_goals(refine Ends.mk2 zqI [] ?_;simp-dsimp(disch:=try exact vD) only[push_cast,simprocAttr,Tryz.f30];try exact zqF)
end
set_option maxHeartbeats 8000000
section
open Go Go.Sy Go.Bp Go.Dg
attribute [local irreducible] AO AL AC OpT ACall Ends DGo aN Thn Blk Nxt
variable {n m N M k b s r:Nat} {x y:Ex} {f g:List Nat} {l1 l2:List Pc} {z1 z2 zf zg v w:Bool} {T:List Ch}
theorem ahe(v:Bool):(v==v)=true:=by cases v<;>rfl
theorem aim(haw:ACall Tryz.prog 7 [] [] 0 (.val (.bool true)) [])(m1:ACall Tryz.prog 24 [.agg [.isl z1 (cR l1) N]] [] 0 (.agg (aa.cells x)) [])(m2:ACall Tryz.prog 24 [.agg [.isl z2 (cR l2) M]] [] 0 (.agg (aa.cells y)) [])
 (f1:ACall Tryz.prog 20 [.agg (aa.cells x)] [] 0 (.tup [.isl zf (cX f) n,.val (.int .i64 0)]) []) (f2:ACall Tryz.prog 20 [.agg (aa.cells y)] [] 0 (.tup [.isl zg (cX g) m,.val (.int .i64 0)]) [])
 (hi:ACall Tryz.prog 25 [.isl zf (cX f) n,.isl zg (cX g) m,.val (.int .u16 (U b))] [] 0 (.val (.bool true)) [])
 (hp:ACall Tryz.prog 26 [.agg (aa.cells x),.agg (aa.cells y),.val (.int .u16 (U b))] [] 0 (.tup [.agg [.isl false (cR T) k,.val (.int .i64 s)],.val (.int .i64 0)]) [])
 (ha:ACall Tryz.prog 27 [.isl zf (cX f) n,.isl zg (cX g) m,.val (.int .u16 (U b))] [] 0 (.tup [.val (.int .u16 0),.val (.int .u16 0),.val (.int .i64 13)]) [])
 (hck:ACall Tryz.prog 28 [.agg (aa.cells x),.agg (aa.cells y),.val (.int .u16 (U b)),.agg [.isl false (cR T) k,.val (.int .i64 s)]] [] 0 (.val (.bool true)) [])
 (g1:ACall Tryz.prog 25 [.isl zf (cX f) n,.isl zg (cX g) m,.val (.int .u16 0)] [] 0 (.val (.bool v)) []) (g2:ACall Tryz.prog 29 [.isl zf (cX f) n,.isl zg (cX g) m] [] 0 (.val (.bool v)) [])
 (g3:ACall Tryz.prog 25 [.isl zf (cX f) n,.isl zf (cX f) n,.val (.int .u16 (U b))] [] 0 (.val (.bool w)) []) (g4:ACall Tryz.prog 30 [.isl zf (cX f) n,.isl false [.val (.int .u16 (U b))] 1] [] 0 (.val (.bool w)) []):
 ACall Tryz.prog 5 [.agg [.isl z1 (cR l1) N],.agg [.isl z2 (cR l2) M],.val (.int .u16 (U b))] [] 0 (.val (.bool true)) []:=by
 have haw:=PLift.up haw;have m1:=PLift.up m1;have m2:=PLift.up m2;have f1:=PLift.up f1;have f2:=PLift.up f2;have hi:=PLift.up hi;have hp:=PLift.up hp;have ha:=PLift.up ha;have hck:=PLift.up hck
 have g1:=PLift.up g1;have g2:=PLift.up g2;have g3:=PLift.up g3;have g4:=PLift.up g4
 refine az Tryz.func5 Tryz.ntmps5 rfl ?_
 have zx1:= @ahe;have zx2:=aD;have zx3:=aD;repeat' (first|refine zqN ?_|((first|refine ax rfl (fun K hK=>?_)|refine ak (fun K hK=>?_)|refine aJ (fun K hK=>?_));(first|refine ah (f:=7) [] 0 false ?_|refine ah (f:=24) (dst:=some 22) [] 0 false ?_|refine ah (f:=24) (dst:=some 24) [] 0 false ?_|refine ah (f:=20) (dst:=some 27) [] 0 false ?_|refine ah (f:=20) (dst:=some 32) [] 0 false ?_|refine ah (f:=25) (dst:=some 44) [] 0 false ?_|refine ah (f:=26) [] 0 false ?_|refine ah (f:=27) [] 0 false ?_|refine ah (f:=28) [] 0 false ?_|refine ah (f:=25) (dst:=some 105) [] 0 false ?_|refine ah (f:=29) [] 0 false ?_|refine ah (f:=25) (dst:=some 114) [] 0 false ?_|refine ah (f:=30) [] 0 true ?_);refine Am ?_;(first|refine⟨_,_,haw.down,?_⟩|refine⟨_,_,m1.down,?_⟩|refine⟨_,_,m2.down,?_⟩|refine⟨_,_,f1.down,?_⟩|refine⟨_,_,f2.down,?_⟩|refine⟨_,_,hi.down,?_⟩|refine⟨_,_,hp.down,?_⟩|refine⟨_,_,ha.down,?_⟩|refine⟨_,_,hck.down,?_⟩|refine⟨_,_,g1.down,?_⟩|refine⟨_,_,g2.down,?_⟩|refine⟨_,_,g3.down,?_⟩|refine⟨_,_,g4.down,?_⟩);refine rG ?_;apply hK;clear hK K)|refine dx ?_|refine dz ?_|(refine dA ?_ ?_<;>intro hc<;>try exact zqM)|refine zqR 3 [⟨0,[],[7,8,23],[],[],0⟩,⟨1,[0],[7,8,23],[],[],0⟩,⟨2,[],[7,8,21,22],[],[],0⟩,⟨3,[0,1,2],[7,8],[],[],0⟩,⟨4,[],[8,21,22,23,24],[],[],1⟩,⟨5,[],[7,21,22,23,24],[],[],1⟩,⟨6,[0,1,2,3,4,5],[],[],[5],0⟩,⟨7,[0,1,2,3,4,5,6],[],[],[6],0⟩] ?_|refine zqD ?_|fail)
 all_goals first
  |((refine Ends.mk2 zqI [] ?_;simp-dsimp(disch:=try exact vD) only[push_cast,simprocAttr,Tryz.f5];try exact zqF);done)
  |skip
theorem ain(haw:ACall Tryz.prog 7 [] [] 0 (.val (.bool true)) [])(m1:ACall Tryz.prog 24 [.agg [.isl z1 (cR l1) N]] [] 0 (.agg (aa.cells x)) [])(m2:ACall Tryz.prog 24 [.agg [.isl z2 (cR l2) M]] [] 0 (.agg (aa.cells y)) [])
 (f1:ACall Tryz.prog 20 [.agg (aa.cells x)] [] 0 (.tup [.isl zf (cX f) n,.val (.int .i64 0)]) []) (f2:ACall Tryz.prog 20 [.agg (aa.cells y)] [] 0 (.tup [.isl zg (cX g) m,.val (.int .i64 0)]) [])
 (hi:ACall Tryz.prog 25 [.isl zf (cX f) n,.isl zg (cX g) m,.val (.int .u16 (U b))] [] 0 (.val (.bool false)) [])
 (hp:ACall Tryz.prog 26 [.agg (aa.cells x),.agg (aa.cells y),.val (.int .u16 (U b))] [] 0 (.tup [.agg [.isl true [] 0,.val (.int .i64 0)],.val (.int .i64 12)]) [])
 (ha:ACall Tryz.prog 27 [.isl zf (cX f) n,.isl zg (cX g) m,.val (.int .u16 (U b))] [] 0 (.tup [.val (.int .u16 (U s)),.val (.int .u16 (U r)),.val (.int .i64 0)]) [])
 (hs:dJ (bP s r) b%65536=0) (a1:ACall Tryz.prog 14 [.isl zf (cX f) n,.val (.int .u16 (U s))] [] 0 (.val (.bool true)) []) (a2:ACall Tryz.prog 14 [.isl zg (cX g) m,.val (.int .u16 (U r))] [] 0 (.val (.bool true)) [])
 (g1:ACall Tryz.prog 25 [.isl zf (cX f) n,.isl zg (cX g) m,.val (.int .u16 0)] [] 0 (.val (.bool v)) []) (g2:ACall Tryz.prog 29 [.isl zf (cX f) n,.isl zg (cX g) m] [] 0 (.val (.bool v)) [])
 (g3:ACall Tryz.prog 25 [.isl zf (cX f) n,.isl zf (cX f) n,.val (.int .u16 (U b))] [] 0 (.val (.bool w)) []) (g4:ACall Tryz.prog 30 [.isl zf (cX f) n,.isl false [.val (.int .u16 (U b))] 1] [] 0 (.val (.bool w)) []):
 ACall Tryz.prog 5 [.agg [.isl z1 (cR l1) N],.agg [.isl z2 (cR l2) M],.val (.int .u16 (U b))] [] 0 (.val (.bool true)) []:=by
 have haw:=PLift.up haw;have m1:=PLift.up m1;have m2:=PLift.up m2;have f1:=PLift.up f1;have f2:=PLift.up f2;have hi:=PLift.up hi;have hp:=PLift.up hp;have ha:=PLift.up ha;have a1:=PLift.up a1;have a2:=PLift.up a2
 have g1:=PLift.up g1;have g2:=PLift.up g2;have g3:=PLift.up g3;have g4:=PLift.up g4
 refine az Tryz.func5 Tryz.ntmps5 rfl ?_
 have zx1:= @hs;have zx2:= @ahe;have zx3:=aD;repeat' (first|refine zqN ?_|((first|refine ax rfl (fun K hK=>?_)|refine ak (fun K hK=>?_)|refine aJ (fun K hK=>?_));(first|refine ah (f:=7) [] 0 false ?_|refine ah (f:=24) (dst:=some 22) [] 0 false ?_|refine ah (f:=24) (dst:=some 24) [] 0 false ?_|refine ah (f:=20) (dst:=some 27) [] 0 false ?_|refine ah (f:=20) (dst:=some 32) [] 0 false ?_|refine ah (f:=25) (dst:=some 44) [] 0 false ?_|refine ah (f:=26) [] 0 false ?_|refine ah (f:=27) [] 0 false ?_|refine ah (f:=14) (dst:=some 93) [] 0 false ?_|refine ah (f:=14) (dst:=some 99) [] 0 false ?_|refine ah (f:=25) (dst:=some 105) [] 0 false ?_|refine ah (f:=29) [] 0 false ?_|refine ah (f:=25) (dst:=some 114) [] 0 false ?_|refine ah (f:=30) [] 0 true ?_);refine Am ?_;(first|refine⟨_,_,haw.down,?_⟩|refine⟨_,_,m1.down,?_⟩|refine⟨_,_,m2.down,?_⟩|refine⟨_,_,f1.down,?_⟩|refine⟨_,_,f2.down,?_⟩|refine⟨_,_,hi.down,?_⟩|refine⟨_,_,hp.down,?_⟩|refine⟨_,_,ha.down,?_⟩|refine⟨_,_,a1.down,?_⟩|refine⟨_,_,a2.down,?_⟩|refine⟨_,_,g1.down,?_⟩|refine⟨_,_,g2.down,?_⟩|refine⟨_,_,g3.down,?_⟩|refine⟨_,_,g4.down,?_⟩);refine rG ?_;apply hK;clear hK K)|refine dx ?_|refine dz ?_|(refine dA ?_ ?_<;>intro hc<;>try exact zqM)|refine zqR 3 [⟨0,[],[7,8,23],[],[],0⟩,⟨1,[0],[7,8,23],[],[],0⟩,⟨2,[],[7,8,21,22],[],[],0⟩,⟨3,[0,1,2],[7,8],[],[],0⟩,⟨4,[],[8,21,22,23,24],[],[],1⟩,⟨5,[],[7,21,22,23,24],[],[],1⟩,⟨6,[0,1,2,3,4,5],[],[],[5],0⟩,⟨7,[0,1,2,3,4,5,6],[],[],[6],0⟩] ?_|refine zqD ?_|fail)
 all_goals first
  |((refine Ends.mk2 zqI [] ?_;simp-dsimp(disch:=try exact vD) only[push_cast,simprocAttr,Tryz.f5];try exact zqF);done)
  |skip
end
section
open Go Go.Sy Go.Bp Go.Dg
attribute [local irreducible] AO AL AC OpT ACall Ends DGo aN Thn Blk Nxt
variable {n m N M k b s r i j:Nat} {x y:Ex} {f g:List Nat} {l1 l2 l:List Pc} {z1 z2 zf zg v w z:Bool}
theorem ahf{x b y:Nat}:vio x b y=vio y b x:=by unfold vio bP;rw[Nat.and_comm]
theorem vio_0{x y:Nat}:vio x 0 y=decide (bP y x%65536=0):=by
 unfold vio
 have:dJ (bP x y) 0%65536=bP y x%65536:=mM.2 fun i hi=>by
  rw[xO,zA,iy,iy,Bool.and_comm (bit x i)];simp
 rw[this]
theorem agn:(f.any fun q=> !dD g q)=f.any (adQ g 0):=by
 congr 1
 funext q
 unfold dD adQ
 rw[Bool.not_not]
 congr 1
 funext m
 exact vio_0.symm
theorem ahg{P:Nat→Prop}:∀n,P n→∃i,P i∧∀k,k<i→¬P k:=by
 intro n
 induction n using Nat.strongRecOn with
 |ind n ih=>
  intro h
  by_cases c:∃k,k<n∧P k
  ·obtain⟨k,h1,h2⟩:=c;exact ih k h1 h2
  ·exact⟨n,h,fun k hk hp=>c ⟨k,hk,hp⟩⟩
theorem nv1{x y:Nat}:nvB [b] 1 x y↔vio x b y=false:=by
 unfold nvB vio
 rw[decide_eq_false_iff_not]
 constructor
 ·intro h;exact h 0 (by omega)
 ·intro h k hk
  have:k=0:=by omega
  subst this;exact h
theorem aio(hn:f.length=n):∃R,BdR f n [b] 1 R∧R.isNone= !f.any (adQ f b):=by
 by_cases h:∃i,∃j,i<n∧j<n-i∧vio (f.getD i default) b (f.getD (i+j) default)=true
 ·obtain⟨i0,h0⟩:=h
  obtain⟨i,hi,hmi⟩:=ahg (P:=fun i=>∃j,i<n∧j<n-i∧vio (f.getD i default) b (f.getD (i+j) default)=true) i0 h0
  obtain⟨j0,h1⟩:=hi
  obtain⟨j,hj,hmj⟩:=ahg (P:=fun j=>i<n∧j<n-i∧vio (f.getD i default) b (f.getD (i+j) default)=true) j0 h1
  obtain⟨hin,hjn,hv⟩:=hj
  refine⟨some (f.getD i default,f.getD (i+j) default,b),⟨fun hno=>?_,fun i' j' k' q1 q2 q3 h4 h5 h6 h7=>?_⟩,?_⟩
  ·have:=nv1.1 (hno i hin j hjn)
   rw[hv] at this;cases this
  ·have hk:k'=0:=by omega
   subst hk
   have h7:vio (f.getD i' default) b (f.getD (i'+j') default)=true:=decide_eq_true h7
   have ei:i'=i:=by
    rcases Nat.lt_trichotomy i' i with c|c|c
    ·exact absurd ⟨j',q1,q2,h7⟩ (hmi i' c)
    ·exact c
    ·have:=nv1.1 (h4 i c j hjn)
     rw[hv] at this;cases this
   subst ei
   have ej:j'=j:=by
    rcases Nat.lt_trichotomy j' j with c|c|c
    ·exact absurd ⟨q1,q2,h7⟩ (hmj j' c)
    ·exact c
    ·have:=nv1.1 (h5 j c)
     rw[hv] at this;cases this
   subst ej;rfl
  ·have:f.any (adQ f b)=true:=aeZ (j:=i) (by omega) (aeZ (j:=i+j) (by omega) hv)
   rw[this];rfl
 ·refine⟨none,⟨fun _=>rfl,fun i' j' k' h1 h2 h3 _ _ _ h7=>?_⟩,?_⟩
  ·have hk:k'=0:=by omega
   subst hk
   exact absurd ⟨i',j',h1,h2,decide_eq_true h7⟩ h
  ·have:f.any (adQ f b)=false:=ae0 fun i hi=>ae0 fun j hj=>by
    cases hv:vio (f.getD i default) b (f.getD j default) with
    |false=>rfl
    |true=>
     rcases Nat.lt_or_ge j i with c|c
     ·exact absurd ⟨j,i-j,by omega,by omega,by rw[show j+(i-j)=i by omega,ahf];exact hv⟩ h
     ·exact absurd ⟨i,j-i,by omega,by omega,by rw[show i+(j-i)=j by omega];exact hv⟩ h
   rw[this];rfl
theorem any_iff_pc:f.any (adQ g b)=(pcI f g b f.length).1:=by
 cases h:(pcI f g b f.length).1 with
 |false=>exact ae0 (agH f.length |>.1 h)
 |true=>
  cases hc:f.any (adQ g b) with
  |true=>rfl
  |false=>
   have:=(agH (f:=f) (g:=g) (b:=b) f.length).2 fun k hk=>by
    cases hv:adQ g b (f.getD k default) with
    |false=>rfl
    |true=>rw[aeZ hk hv] at hc;cases hc
   rw[h] at this;cases this
theorem aip(haw:ACall Tryz.prog 7 [] [] 0 (.val (.bool true)) [])(hl1:l1.length<2^45)(hp1:∀j,adT (l1.getD j default))(hl2:l2.length<2^45)(hp2:∀j,adT (l2.getD j default)):
 ACall Tryz.prog 5 [.agg [.isl z1 (cR l1) l1.length],.agg [.isl z2 (cR l2) l2.length],.val (.int .u16 (U b))] [] 0 (.val (.bool true)) []:=by
 have m1:=ae9 (z:=z1) rfl hl1 hp1
 have m2:=ae9 (z:=z2) rfl hl2 hp2
 have hx:=afV hp1;have hy:=afV hp2
 generalize afe l1=x at m1 hx
 generalize afe l2=y at m2 hy
 have X:=hx.xf;have Y:=hy.xf
 have f1:=aeY hx.va hx.sh hx.ks rfl hx.s6 rfl rfl
 have f2:=aeY hy.va hy.sh hy.ks rfl hy.s6 rfl rfl
 unfold mBl at f1 f2
 have hP:=ag5 (b:=b) hx hy rfl rfl
 have hsx:=hx.s6;have hsy:=hy.s6
 generalize svS x x.nodes.length=S at*
 generalize svS y y.nodes.length=T at*
 generalize mB (kL x) (dW S) (dW S).length=f at*
 generalize mB (kL y) (dW T) (dW T).length=g at*
 have lf:=X.len;have lg:=Y.len
 have pq:PQ (kL x) (kL y) f g:=⟨X.has,Y.has,fun m hm=>(X.sub hm).1,fun m hm=>(Y.sub hm).1⟩
 have hR:=agN (b:=b) pq hsx hsy fun m hm=>(X.sub hm).2
 have v1:=ky (z:=f.length==0) (xs:=f) rfl (by omega)
 have v2:=ky (z:=g.length==0) (xs:=g) rfl (by omega)
 rw[X.fe] at v1;rw[Y.fe] at v2
 have hi:=adR (z:=f.length==0) (z':=g.length==0) (f:=f) (g:=g) (b:=b) rfl rfl (by omega) (by omega)
 have ha:=ahR (b:=b) rfl rfl (by omega) (by omega) v1 v2
 have g1:=adR (z:=f.length==0) (z':=g.length==0) (f:=f) (g:=g) (b:=0) rfl rfl (by omega) (by omega)
 have g2:=ahd (z:=f.length==0) (z':=g.length==0) (f:=f) (g:=g) rfl rfl (by omega) (by omega)
 rw[agn] at g2
 rw[ah2] at g1
 have g3:=adR (z:=f.length==0) (z':=f.length==0) (f:=f) (g:=f) (b:=b) rfl rfl (by omega) (by omega)
 obtain⟨R,hR1,hR2⟩:=aio (f:=f) (n:=f.length) (b:=b) rfl
 have g4:=ahT (ahS (z:=f.length==0) (z':=false) (B:=[b]) (m:=1) rfl rfl (by omega) (by omega) hR1)
 rw[hR2,bV] at g4
 unfold prR at ha
 cases hany:f.any (adQ g b) with
 |false=>
  rw[hany] at hi
  have hpc:(pcI f g b f.length).1=false:=any_iff_pc.symm.trans hany
  rw[if_neg (by rw[hpc];decide)] at ha
  cases ht:prT (kL x) (kL y) 7 0 0 (dS S T b) with
  |none=>have:=hR.1 ht;rw[hany] at this;cases this
  |some t=>
   have hc:=agO hsx hsy ht
   have hsz:=afc _ _ _ _ _ ht
   exact aim haw m1 m2 f1 f2 hi (hP.1 t ht) ha (agh hx hy hc.2 hc.1 (by omega)) g1 g2 g3 g4
 |true=>
  rw[hany] at hi
  have hpc:(pcI f g b f.length).1=true:=any_iff_pc.symm.trans hany
  rw[if_pos hpc] at ha
  have hin:=ah7 (f:=f) (g:=g) (b:=b) f.length (Nat.le_refl _) hpc
  have a1:=si (z:=f.length==0) (qs:=f) (n:=f.length) (s:=(pcI f g b f.length).2.1) rfl (by omega)
  have a2:=si (z:=g.length==0) (qs:=g) (n:=g.length) (s:=(pcI f g b f.length).2.2) rfl (by omega)
  rw[uu hin.2.1] at a1
  rw[uu hin.2.2] at a2
  exact ain haw m1 m2 f1 f2 hi (hP.2 (hR.2 hany)) ha (of_decide_eq_true hin.1) a1 a2 g1 g2 g3 g4
end
section
open Go Go.Sy Go.Bp
theorem ahh{l1 l2:List Pc} {z1 z2:Bool} {b:Nat}(h1:DrI l1)(h2:DrI l2):ACall Tryz.prog 5 [.agg [.isl z1 (cR l1) l1.length],.agg [.isl z2 (cR l2) l2.length],.val (.int .u16 (U b))] [] 0 (.val (.bool true)) []:=
 aip G9 h1.len h1.ok h2.len h2.ok
theorem aiq{a:Int}(h:0≤a∧a≤65535):∃s:Nat,a=U s:=⟨a.toNat,by unfold U;omega⟩
end
