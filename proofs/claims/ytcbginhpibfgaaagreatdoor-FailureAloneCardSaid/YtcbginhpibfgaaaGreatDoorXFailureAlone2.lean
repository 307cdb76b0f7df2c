/- LawEG. No condition. -/
import Derived.Test.YtcbginhpibfgaaaGreatDoorXFailureAlone1
import Derived.Test.YtcbginhpibfgaaaGreatDoorFcG1
import Derived.Test.YtcbginhpibfgaaaGreatDoorLawD1
set_option linter.all false
set_option maxHeartbeats 4000000
set_option maxRecDepth 20000
namespace Go.Proofs.YtcbginhpibfgaaaGreatDoor
open Go Go.Sy Go.Lm Go.Rt Go.Dg
attribute [local irreducible] AO AL AC OpT ACall Ends DGo bK Thn Blk Nxt
variable {n N M L k i m r:Nat} {z zl zs zm zn:Bool} {up:Bool} {B:List Nat} {l:List Chc} {F:List Fo} {X Y Z:RV} {C:List AV} {ss:List Nat} {e:Int} {ps:List RV}
theorem MM(hl:ss.length=m)(hm2:m<2^47)(hm:4<m)(hM:ACall Tryz.prog 13 [.agg (drC N z B L up)] [] 0 (.agg [.val (.int .i64 n),.isl zm C M,.val (.int .i64 r)]) []):ACall Tryz.prog 9 [.agg (drC N z B L up),.isl zs (cX ss) m,.isl zl (cR l) k] [] 0 (.val (.bool true)) []:=by
 have haw:=PLift.up bQ;have hM:=PLift.up hM
 unfold drC at*
 refine ak Tryz.func9 Tryz.ntmps9 rfl ?_
 repeat' (first|refine zqN ?_|refine az haw.down ?_|refine az hM.down ?_|refine aK ?_|refine iy ?_|refine iA ?_|refine iB ?_|refine aL ?_|(refine aM ?_ ?_<;>intro hc<;>try exact zqM)|refine zqR 10 [⟨0,[],[10,39,40,41,42],[],[],0⟩,⟨1,[],[10,38,41,42],[],[],0⟩,⟨2,[1],[10,38,41,42],[],[],0⟩,⟨3,[],[10,38,39,40,42],[],[],0⟩,⟨4,[],[10,38,39,40,41],[],[],0⟩,⟨5,[0,1,2,3,4],[10],[],[],0⟩,⟨6,[0,1,2,3,4,5],[10],[],[],0⟩,⟨7,[0,1,2,3,4,5,6],[10,45],[],[],0⟩,⟨8,[0,1,2,3,4,5,6],[10,44],[2],[],0⟩,⟨9,[],[37,38,39,40,41,42,43,44,45],[],[],1⟩,⟨10,[0,1,2,3,4,5,6,7,9],[45],[],[2],0⟩,⟨11,[0,1,2,3,4,5,6,7,8,9,10],[],[],[],0⟩] ?_|refine zqD ?_|fail)
 all_goals first
  |((refine Ends.mk2 zqI [] ?_;simp-dsimp(disch:=try exact vD) only[push_cast,simprocAttr,Tryz.f9];try exact zqF);done)
  |skip
def laI(N:Nat)(z:Bool)(B:List Nat)(L:Nat)(up:Bool)(n r:Nat)(zm:Bool)(C:List AV)(M:Nat)(zs:Bool)(ss:List Nat)(m:Nat)(zn:Bool)(ps:List RV)(Z:RV)(i:{i:Nat // i≤m}):St:=
 ⟨67,0,[(1,.isl zs (cX ss) m),(7,.pt 1 0),(8,.isl zn (cR ps) n),(9,kC i.val 2 4),(29,.val (.int .i64 m)),(30,.val (.int .i64 i.val))],[(0,some (.cells (drC N z B L up) 24)),(1,some (.cells [.val (.int .i64 n),.isl zm C M,.val (.int .i64 r)] 29))]++kD i.val 2 (cR (lsD (fun _=>Z) i.val)) 37⟩
theorem Py(hl:ss.length=0)(he0:e=0∧X=Y∨e=7∨e=5)
 (hM:ACall Tryz.prog 13 [.agg (drC N z B L up)] [] 0 (.agg [.val (.int .i64 n),.isl zm C M,.val (.int .i64 r)]) []) (hls:ACall Tryz.prog 14 [.isl zl (cR l) k,.val (.int .i64 n)] [] 0 (.isl zn (cR ps) n) [])
 (hr:ACall Tryz.prog 23 [.val (.int .i64 0),.val (.int .i64 1)] [] 0 (.agg (aa.cells Z)) []) (hc:ACall Tryz.prog 34 [.isl zs (cX ss) 0] [] 0 (.isl zs (cX ss) 0) [])
 (o1:ACall Tryz.prog 33 [.agg [.val (.int .i64 n),.isl zm C M,.val (.int .i64 r)],.isl zs (cX ss) 0,.isl true [] 0,.isl zn (cR ps) n] [] 0 (.tup [.agg (aa.cells X),.val (.int .i64 e)]) [])
 (o2:ACall Tryz.prog 15 [.agg [.val (.int .i64 n),.isl zm C M,.val (.int .i64 r)],.isl zn (cR ps) n] [] 0 (.tup [.agg (aa.cells Y),.val (.int .i64 0)]) [])
 (he:ACall Tryz.prog 17 [.agg (aa.cells Y),.agg (aa.cells Y)] [] 0 (.val (.bool true)) []):
 ACall Tryz.prog 9 [.agg (drC N z B L up),.isl zs (cX ss) 0,.isl zl (cR l) k] [] 0 (.val (.bool true)) []:=by
 have hM:=PLift.up hM;have hls:=PLift.up hls;have hr:=PLift.up hr;have hcl:=PLift.up hc;have o1:=PLift.up o1;have o2:=PLift.up o2;have he:=PLift.up he;have haw:=PLift.up bQ
 clear hc
 unfold drC at*
 rcases he0 with⟨rfl,rfl⟩|rfl|rfl
 all_goals(refine ak Tryz.func9 Tryz.ntmps9 rfl ?_)
 all_goals repeat' (first|(refine ai ?_;refine au [0,1,9] ([0,1,9].length) (laI N z B L up n r zm C M zs ss 0 zn ps Z) (fun i=>0) (⟨0,Nat.zero_le _⟩) rfl (by unfold laI;exact mO) ?_;(rintro⟨i,hi⟩;have hi0:i=0:=(by omega);subst hi0;(simp-dsimp(disch:=try exact vD) only[push_cast,simprocAttr,laI,drC,Q3])))|refine zqN ?_|refine az haw.down ?_|refine az hM.down ?_|refine az hls.down ?_|refine az hr.down ?_|refine az hcl.down ?_|refine az o1.down ?_|refine az o2.down ?_|refine az he.down ?_|refine aK ?_|refine iy ?_|refine iA ?_|refine iB ?_|refine aL ?_|(refine aM ?_ ?_<;>intro hc<;>try exact zqM)|refine zqR 10 [⟨0,[],[10,39,40,41,42],[5],[],0⟩,⟨1,[],[10,38,41,42],[5],[],0⟩,⟨2,[1],[10,38,41,42],[5],[],0⟩,⟨3,[],[10,38,39,40,42],[5],[],0⟩,⟨4,[],[10,38,39,40,41],[5],[],0⟩,⟨5,[0,1,2,3,4],[10],[5],[],0⟩,⟨6,[0,1,2,3,4,5],[10],[5],[],0⟩,⟨7,[0,1,2,3,4,5,6],[10,45],[5],[],0⟩,⟨8,[0,1,2,3,4,5,6],[10,44],[2],[],0⟩,⟨9,[],[37,38,39,40,41,42,43,44,45],[],[5],1⟩,⟨10,[0,1,2,3,4,5,6,7,9],[45],[],[2],0⟩,⟨11,[0,1,2,3,4,5,6,7,8,9,10],[],[],[],0⟩] ?_|refine zqD ?_|fail)
 all_goals first
  |((refine Ends.mk2 zqI [] ?_;simp-dsimp(disch:=try exact vD) only[push_cast,simprocAttr,Tryz.f9];try exact zqF);done)
  |skip
theorem Pz(hl:ss.length=m)(hm0:0<m)(hm4:m≤4)(he0:e=0∧X=Y∨e=7∨e=5)
 (hM:ACall Tryz.prog 13 [.agg (drC N z B L up)] [] 0 (.agg [.val (.int .i64 n),.isl zm C M,.val (.int .i64 r)]) []) (hls:ACall Tryz.prog 14 [.isl zl (cR l) k,.val (.int .i64 n)] [] 0 (.isl zn (cR ps) n) [])
 (hr:ACall Tryz.prog 23 [.val (.int .i64 0),.val (.int .i64 1)] [] 0 (.agg (aa.cells Z)) []) (hc:ACall Tryz.prog 34 [.isl zs (cX ss) m] [] 0 (.isl zs (cX ss) m) [])
 (o1:ACall Tryz.prog 33 [.agg [.val (.int .i64 n),.isl zm C M,.val (.int .i64 r)],.isl zs (cX ss) m,.isl false (cR (lsD (fun _=>Z) m)) m,.isl zn (cR ps) n] [] 0 (.tup [.agg (aa.cells X),.val (.int .i64 e)]) [])
 (o2:ACall Tryz.prog 15 [.agg [.val (.int .i64 n),.isl zm C M,.val (.int .i64 r)],.isl zn (cR ps) n] [] 0 (.tup [.agg (aa.cells Y),.val (.int .i64 0)]) [])
 (he:ACall Tryz.prog 17 [.agg (aa.cells Y),.agg (aa.cells Y)] [] 0 (.val (.bool true)) []):
 ACall Tryz.prog 9 [.agg (drC N z B L up),.isl zs (cX ss) m,.isl zl (cR l) k] [] 0 (.val (.bool true)) []:=by
 have hM:=PLift.up hM;have hls:=PLift.up hls;have hr:=PLift.up hr;have hcl:=PLift.up hc;have o1:=PLift.up o1;have o2:=PLift.up o2;have he:=PLift.up he;have haw:=PLift.up bQ
 have zx2:=fun(i:Nat)=>ja (D:=fun _=>Z) (i:=i)
 have zx1:=Q0 (ps:=lsD (fun _=>Z) m) ja
 have hsk:=fun(i:Nat)=>afd (X:=Z) i
 have h0:∀i,i=0→[.val (.bool Z.num.neg),.isl Z.num.z (cI .u32 Z.num.l) Z.num.l.length,.val (.bool Z.den.neg),.isl Z.den.z (cI .u32 Z.den.l) Z.den.l.length]=cR (lsD (fun _=>Z) (i+1)):=fun i hi=>by
  subst hi
  exact(List.nil_append _).symm.trans (hsk 0)
 have hsn:=ae
 clear hc
 unfold drC at*
 rcases he0 with⟨rfl,rfl⟩|rfl|rfl
 all_goals(refine ak Tryz.func9 Tryz.ntmps9 rfl ?_)
 all_goals(have zx3:=aC;repeat' (first|((first|refine bI (r:=10) 2 ?_|refine bH (r:=10) 2 ?_);refine gQ ?_;intro K hK;refine hK _ _ ?_;clear hK K)|(refine ai ?_;refine au [0,1,9] ([0,1,9].length) (laI N z B L up n r zm C M zs ss m zn ps Z) (fun i=>m-i.val) (⟨0,Nat.zero_le _⟩) rfl (by unfold laI;exact eQ) ?_;(rintro⟨i,hi⟩;rcases Nat.lt_or_eq_of_le hi with hil|hil<;>first|(subst hil;(simp-dsimp(disch:=try exact vD) only[push_cast,simprocAttr,laI,drC]))|(have hli:=zx2 i;have hs1:=hsk i;have h01:=h0 i;rcases Nat.eq_zero_or_pos i with hi0|hi0<;>first|(have hsn:=h01 hi0;(simp-dsimp(disch:=try exact vD) only[push_cast,simprocAttr,laI,drC]))|(have hsn:=hs1;(simp-dsimp(disch:=try exact vD) only[push_cast,simprocAttr,laI,drC])))))|(refine ax ?_;refine Nxt.mk [0,1,5] (⟨i+1,by omega⟩) rfl (by unfold laI;(try simp only[List.cons_append,List.nil_append]);refine Sub.mk2 ?_;(simp-dsimp(disch:=try exact vD) only[push_cast,simprocAttr,zx1,zx2,hsn]);(repeat refine aI ?_);first|done|exact vI) zqO)|(refine ax ?_;refine Nxt.mk [0,1,4] (⟨i+1,by omega⟩) rfl (by unfold laI;(try simp only[List.cons_append,List.nil_append]);refine Sub.mk2 ?_;(simp-dsimp(disch:=try exact vD) only[push_cast,simprocAttr,zx1,zx2,hsn]);(repeat refine aI ?_);first|done|exact vI) zqO)|(refine ax ?_;refine Nxt.mk [0,1,3] (⟨i+1,by omega⟩) rfl (by unfold laI;(try simp only[List.cons_append,List.nil_append]);refine Sub.mk2 ?_;(simp-dsimp(disch:=try exact vD) only[push_cast,simprocAttr,zx1,zx2,hsn]);(repeat refine aI ?_);first|done|exact vI) zqO)|(refine ax ?_;refine Nxt.mk [0,1,2] (⟨i+1,by omega⟩) rfl (by unfold laI;(try simp only[List.cons_append,List.nil_append]);refine Sub.mk2 ?_;(simp-dsimp(disch:=try exact vD) only[push_cast,simprocAttr,zx1,zx2,hsn]);(repeat refine aI ?_);first|done|exact vI) zqO)|refine zqN ?_|refine bE haw.down ?_|refine bE hM.down ?_|refine bE hls.down ?_|refine bE hr.down ?_|refine bE hcl.down ?_|refine bE o1.down ?_|refine bE o2.down ?_|refine bE he.down ?_|refine bM ?_|refine jT ?_|refine jU ?_|refine jV ?_|refine bO ?_|(refine bP ?_ ?_<;>intro hc<;>try exact zqM)|refine zqR 10 [⟨0,[],[10,39,40,41,42],[6],[],0⟩,⟨1,[],[10,38,41,42],[6],[],0⟩,⟨2,[1],[10,38,41,42],[6],[],0⟩,⟨3,[],[10,38,39,40,42],[6],[],0⟩,⟨4,[],[10,38,39,40,41],[6],[],0⟩,⟨5,[0,1,2,3,4],[10],[6],[],0⟩,⟨6,[0,1,2,3,4,5],[10],[6],[],0⟩,⟨7,[0,1,2,3,4,5,6],[10,45],[6],[],0⟩,⟨8,[0,1,2,3,4,5,6],[10,44],[2],[],0⟩,⟨9,[],[37,38,39,40,41,42,43,44,45],[],[6],1⟩,⟨10,[0,1,2,3,4,5,6,7,9],[45],[],[2],0⟩,⟨11,[0,1,2,3,4,5,6,7,8,9,10],[],[],[],0⟩] ?_|refine zqD ?_|fail))
 all_goals first
  |((refine Ends.mk2 zqI [] ?_;simp-dsimp(disch:=try exact vD) only[push_cast,simprocAttr,Tryz.f9];try exact zqF);done)
  |skip
theorem ZK(h:MQ N B L)(hl:ss.length=m)(hm2:m<2^47)(hz:zs=true→ss=[])(hc:MO l k):ACall Tryz.prog 9 [.agg (drC N z B L up),.isl zs (cX ss) m,.isl zl (cR l) k] [] 0 (.val (.bool true)) []:=by
 obtain⟨n,F,r,M,hn6,hD,hN,hM⟩:=xh (z:=z) (up:=up) h
 by_cases h4:4<m
 ·unfold dI at hM
  exact MM hl hm2 h4 hM
 have g:=yR (l:=l) (n:=n)
 have hls:=uq (zl:=zl) (n:=n) hc (by omega)
 have hcl:=Zy (z:=zs) hl (by omega) hz
 have hr:=l5 (a:=0) (b:=1) (by decide) (by decide) (by decide)
 have gs:Gd (lsD (fun _=>rC (Rat.divInt 0 1)) m) (fun _=>0) (fun _=>(0:Rat).den) m:=Gd.rc ja (fun i hi=>(Pi hi).trans rfl) fun i _=>⟨by decide,by decide,by decide⟩
 obtain⟨e,ha⟩:=Y7 ss n
 have o2:=uO (z:=(M==0)) (zp:=(n==0)) hD hN g
 have he:=eq_self _ (jo (tab:=fun t=> !aG F t r) g.cs hD.n12)
 have hsi:siV ss (fun _=>0) m n F r (chP l)=Pr (chP l) n fun t=> !aG F t r:=Yz (F:=fun p=>Pr p n fun t=> !aG F t r) fun j _ _=>rfl
 have hcase:e=0∧(if e=0 then rC (siV ss (fun _=>0) m n F r (chP l)) else rZ)=rC (Pr (chP l) n fun t=> !aG F t r)∨e=7∨e=5:=by
  cases ha with
  |ok h=>exact .inl ⟨rfl,by rw[if_pos rfl,hsi]⟩
  |rg T hT h hb=>exact .inr (.inl rfl)
  |ex T hT h h1 hb=>exact .inr (.inr rfl)
 rcases Nat.eq_zero_or_pos m with h0|h0
 ·subst h0
  have o1:=xe (z:=(M==0)) (zs:=zs) (zt:=true) (zp:=(n==0)) hD hN g gs (by omega) hl (fun h=>by simpa using h) ha
  unfold dI at*
  exact Py hl hcase hM hls hr hcl o1 o2 he
 ·have o1:=xe (z:=(M==0)) (zs:=zs) (zt:=false) (zp:=(n==0)) hD hN g gs (by omega) hl (fun h=>by simpa using h) ha
  unfold dI at*
  exact Pz hl h0 (by omega) hcase hM hls hr hcl o1 o2 he
