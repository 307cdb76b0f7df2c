/- Failure, part. No condition. -/
import Derived.Test.YtcbginhpibfgaaaGreatDoorXFailurePair4
set_option linter.all false
set_option maxHeartbeats 4000000
set_option maxRecDepth 20000
namespace Go.Proofs.YtcbginhpibfgaaaGreatDoor
open Go Go.Sy Go.Lm Go.Rt Go.Dg
attribute [local irreducible] AO AL AC OpT ACall Ends DGo bK Thn Blk Nxt
variable {N1 N2 k i m np:Nat} {z1 z2 zp:Bool} {ps:List RV} {L1 L2:List Fk} {X Y Z:RV} {n1 n2 r1 r2 e:Int}
theorem Uq(hs:ACall Tryz.prog 18 [dI z1 n1 L1 N1 r1] [] 0 (.val (.bool false)) []):ACall Tryz.prog 11 [dI z1 n1 L1 N1 r1,dI z2 n2 L2 N2 r2,.isl zp (cR ps) np] [] 0 (.val (.bool true)) []:=by
 have hs:=PLift.up hs;have haw:=PLift.up bQ
 unfold dI at*
 refine ak Tryz.func11 Tryz.ntmps11 rfl ?_
 repeat' (first|refine zqN ?_|refine az haw.down ?_|refine az hs.down ?_|refine aK ?_|refine aL ?_|(refine aM ?_ ?_<;>intro hc<;>try exact zqM)|refine zqR 3 [⟨0,[],[7,8,9,35,36,37],[],[],0⟩,⟨1,[],[7,8,9,34,36,37],[],[],0⟩,⟨2,[],[7,8,9,34,35],[],[],0⟩,⟨3,[2],[7,8,9,34,35],[],[],0⟩,⟨4,[0,1,2,3],[7,8,9],[],[],0⟩,⟨5,[0,1,2,3,4],[7,8,9],[],[],0⟩,⟨6,[0,1,2,3,4,5],[7,8,9,40,41,42],[],[],0⟩,⟨7,[0,1,2,3,4,5],[7,8,9,39,41,42],[2],[],0⟩,⟨8,[0,1,2,3,4,5],[7,8,9,39,40,42],[2],[],0⟩,⟨9,[0,1,2,3,4,5],[7,8,9,39,40,41],[2],[],0⟩,⟨10,[],[8,9,33,34,35,36,37,38,39,40,41,42],[],[],1⟩,⟨11,[],[7,9,33,34,35,36,37,38,39,40,41,42],[],[],1⟩,⟨12,[],[7,8,33,34,35,36,37,38,39,40,41,42],[],[],1⟩,⟨13,[0,1,2,3,4,5,6,10,11,12],[40,41,42],[],[2],0⟩,⟨14,[0,1,2,3,4,5,6,7,10,11,12,13],[41,42],[],[2],0⟩,⟨15,[0,1,2,3,4,5,6,7,8,10,11,12,13,14],[42],[],[2],0⟩,⟨16,[0,1,2,3,4,5,6,7,8,9,10,11,12,13,14,15],[],[],[],0⟩] ?_|refine zqD ?_|fail)
 all_goals(refine Ends.mk2 zqI [] ?_;simp-dsimp(disch:=try exact vD) only[push_cast,simprocAttr,Tryz.f11];try exact zqF)
theorem I5(hs:ACall Tryz.prog 18 [dI z1 n1 L1 N1 r1] [] 0 (.val (.bool true)) [])(hs2:ACall Tryz.prog 18 [dI z2 n2 L2 N2 r2] [] 0 (.val (.bool false)) []):ACall Tryz.prog 11 [dI z1 n1 L1 N1 r1,dI z2 n2 L2 N2 r2,.isl zp (cR ps) np] [] 0 (.val (.bool true)) []:=by
 have hs:=PLift.up hs;have hs2:=PLift.up hs2;have haw:=PLift.up bQ
 unfold dI at*
 refine ak Tryz.func11 Tryz.ntmps11 rfl ?_
 repeat' (first|refine zqN ?_|refine az haw.down ?_|refine az hs.down ?_|refine az hs2.down ?_|refine aK ?_|refine aL ?_|(refine aM ?_ ?_<;>intro hc<;>try exact zqM)|refine zqR 3 [⟨0,[],[7,8,9,35,36,37],[],[],0⟩,⟨1,[],[7,8,9,34,36,37],[],[],0⟩,⟨2,[],[7,8,9,34,35],[],[],0⟩,⟨3,[2],[7,8,9,34,35],[],[],0⟩,⟨4,[0,1,2,3],[7,8,9],[],[],0⟩,⟨5,[0,1,2,3,4],[7,8,9],[],[],0⟩,⟨6,[0,1,2,3,4,5],[7,8,9,40,41,42],[],[],0⟩,⟨7,[0,1,2,3,4,5],[7,8,9,39,41,42],[2],[],0⟩,⟨8,[0,1,2,3,4,5],[7,8,9,39,40,42],[2],[],0⟩,⟨9,[0,1,2,3,4,5],[7,8,9,39,40,41],[2],[],0⟩,⟨10,[],[8,9,33,34,35,36,37,38,39,40,41,42],[],[],1⟩,⟨11,[],[7,9,33,34,35,36,37,38,39,40,41,42],[],[],1⟩,⟨12,[],[7,8,33,34,35,36,37,38,39,40,41,42],[],[],1⟩,⟨13,[0,1,2,3,4,5,6,10,11,12],[40,41,42],[],[2],0⟩,⟨14,[0,1,2,3,4,5,6,7,10,11,12,13],[41,42],[],[2],0⟩,⟨15,[0,1,2,3,4,5,6,7,8,10,11,12,13,14],[42],[],[2],0⟩,⟨16,[0,1,2,3,4,5,6,7,8,9,10,11,12,13,14,15],[],[],[],0⟩] ?_|refine zqD ?_|fail)
 all_goals(refine Ends.mk2 zqI [] ?_;simp-dsimp(disch:=try exact vD) only[push_cast,simprocAttr,Tryz.f11];try exact zqF)
theorem ut(hs:ACall Tryz.prog 18 [dI z1 n1 L1 N1 r1] [] 0 (.val (.bool true)) [])(hs2:ACall Tryz.prog 18 [dI z2 n2 L2 N2 r2] [] 0 (.val (.bool true)) [])(hf:ACall Tryz.prog 19 [.isl zp (cR ps) np] [] 0 (.val (.bool false)) []):ACall Tryz.prog 11 [dI z1 n1 L1 N1 r1,dI z2 n2 L2 N2 r2,.isl zp (cR ps) np] [] 0 (.val (.bool true)) []:=by
 have hs:=PLift.up hs;have hs2:=PLift.up hs2;have hf:=PLift.up hf;have haw:=PLift.up bQ
 unfold dI at*
 refine ak Tryz.func11 Tryz.ntmps11 rfl ?_
 repeat' (first|refine zqN ?_|refine az haw.down ?_|refine az hs.down ?_|refine az hs2.down ?_|refine az hf.down ?_|refine aK ?_|refine aL ?_|(refine aM ?_ ?_<;>intro hc<;>try exact zqM)|refine zqR 3 [⟨0,[],[7,8,9,35,36,37],[],[],0⟩,⟨1,[],[7,8,9,34,36,37],[],[],0⟩,⟨2,[],[7,8,9,34,35],[],[],0⟩,⟨3,[2],[7,8,9,34,35],[],[],0⟩,⟨4,[0,1,2,3],[7,8,9],[],[],0⟩,⟨5,[0,1,2,3,4],[7,8,9],[],[],0⟩,⟨6,[0,1,2,3,4,5],[7,8,9,40,41,42],[],[],0⟩,⟨7,[0,1,2,3,4,5],[7,8,9,39,41,42],[2],[],0⟩,⟨8,[0,1,2,3,4,5],[7,8,9,39,40,42],[2],[],0⟩,⟨9,[0,1,2,3,4,5],[7,8,9,39,40,41],[2],[],0⟩,⟨10,[],[8,9,33,34,35,36,37,38,39,40,41,42],[],[],1⟩,⟨11,[],[7,9,33,34,35,36,37,38,39,40,41,42],[],[],1⟩,⟨12,[],[7,8,33,34,35,36,37,38,39,40,41,42],[],[],1⟩,⟨13,[0,1,2,3,4,5,6,10,11,12],[40,41,42],[],[2],0⟩,⟨14,[0,1,2,3,4,5,6,7,10,11,12,13],[41,42],[],[2],0⟩,⟨15,[0,1,2,3,4,5,6,7,8,10,11,12,13,14],[42],[],[2],0⟩,⟨16,[0,1,2,3,4,5,6,7,8,9,10,11,12,13,14,15],[],[],[],0⟩] ?_|refine zqD ?_|fail)
 all_goals(refine Ends.mk2 zqI [] ?_;simp-dsimp(disch:=try exact vD) only[push_cast,simprocAttr,Tryz.f11];try exact zqF)
theorem kv(hs:ACall Tryz.prog 18 [dI z1 n1 L1 N1 r1] [] 0 (.val (.bool true)) [])(hs2:ACall Tryz.prog 18 [dI z2 n2 L2 N2 r2] [] 0 (.val (.bool true)) [])(hf:ACall Tryz.prog 19 [.isl zp (cR ps) np] [] 0 (.val (.bool true)) [])(hc:ACall Tryz.prog 20 [.isl zp (cR ps) np] [] 0 (.isl zp (cR ps) np) [])
 (o1:ACall Tryz.prog 38 [dI z1 n1 L1 N1 r1,dI z2 n2 L2 N2 r2,.isl zp (cR ps) np] [] 0 (.tup [.agg (aa.cells X),.agg (aa.cells Y),.agg (aa.cells Z),.val (.int .i64 e)]) []) (o2:ACall Tryz.prog 39 [dI z1 n1 L1 N1 r1,dI z2 n2 L2 N2 r2,.isl zp (cR ps) np] [] 0 (.tup [.agg (aa.cells X),.agg (aa.cells Y),.agg (aa.cells Z),.val (.int .i64 e)]) [])
 (e1:ACall Tryz.prog 17 [.agg (aa.cells X),.agg (aa.cells X)] [] 0 (.val (.bool true)) []) (e2:ACall Tryz.prog 17 [.agg (aa.cells Y),.agg (aa.cells Y)] [] 0 (.val (.bool true)) []) (e3:ACall Tryz.prog 17 [.agg (aa.cells Z),.agg (aa.cells Z)] [] 0 (.val (.bool true)) []):
 ACall Tryz.prog 11 [dI z1 n1 L1 N1 r1,dI z2 n2 L2 N2 r2,.isl zp (cR ps) np] [] 0 (.val (.bool true)) []:=by
 have hs:=PLift.up hs;have hs2:=PLift.up hs2;have hf:=PLift.up hf;have hcl:=PLift.up hc;have o1:=PLift.up o1;have o2:=PLift.up o2;have e1:=PLift.up e1;have e2:=PLift.up e2;have e3:=PLift.up e3;have haw:=PLift.up bQ
 clear hc
 unfold dI at*
 refine ak Tryz.func11 Tryz.ntmps11 rfl ?_
 repeat' (first|refine zqN ?_|refine az haw.down ?_|refine az hs.down ?_|refine az hs2.down ?_|refine az hf.down ?_|refine az hcl.down ?_|refine az o1.down ?_|refine az o2.down ?_|refine az e1.down ?_|refine az e2.down ?_|refine az e3.down ?_|refine aK ?_|refine aL ?_|(refine aM ?_ ?_<;>intro hc<;>try exact zqM)|refine zqR 3 [⟨0,[],[7,8,9,35,36,37],[],[],0⟩,⟨1,[],[7,8,9,34,36,37],[],[],0⟩,⟨2,[],[7,8,9,34,35],[],[],0⟩,⟨3,[2],[7,8,9,34,35],[],[],0⟩,⟨4,[0,1,2,3],[7,8,9],[],[],0⟩,⟨5,[0,1,2,3,4],[7,8,9],[],[],0⟩,⟨6,[0,1,2,3,4,5],[7,8,9,40,41,42],[],[],0⟩,⟨7,[0,1,2,3,4,5],[7,8,9,39,41,42],[5],[],0⟩,⟨8,[0,1,2,3,4,5],[7,8,9,39,40,42],[5,6],[],0⟩,⟨9,[0,1,2,3,4,5],[7,8,9,39,40,41],[5,6,7],[],0⟩,⟨10,[],[8,9,33,34,35,36,37,38,39,40,41,42],[],[],1⟩,⟨11,[],[7,9,33,34,35,36,37,38,39,40,41,42],[],[],1⟩,⟨12,[],[7,8,33,34,35,36,37,38,39,40,41,42],[],[],1⟩,⟨13,[0,1,2,3,4,5,6,10,11,12],[40,41,42],[],[5],0⟩,⟨14,[0,1,2,3,4,5,6,7,10,11,12,13],[41,42],[],[6],0⟩,⟨15,[0,1,2,3,4,5,6,7,8,10,11,12,13,14],[42],[],[7],0⟩,⟨16,[0,1,2,3,4,5,6,7,8,9,10,11,12,13,14,15],[],[],[],0⟩] ?_|refine zqD ?_|fail)
 all_goals(refine Ends.mk2 zqI [] ?_;simp-dsimp(disch:=try exact vD) only[push_cast,simprocAttr,Tryz.f11];try exact zqF)
theorem aew(hN1:L1.length=N1)(hN1b:N1<2^44)(hr1:r1<2^63)(hN2:L2.length=N2)(hN2b:N2<2^44)(hr2:r2<2^63)(hp:ZP zp ps np):ACall Tryz.prog 11 [dI z1 n1 L1 N1 r1,dI z2 n2 L2 N2 r2,.isl zp (cR ps) np] [] 0 (.val (.bool true)) []:=by
 obtain⟨fw,hf14,hfw⟩:=Pj (zp:=zp) hp.len (by have:=hp.lt;omega) hp.rlen
 have s1:=DR (z:=z1) (n:=n1) (r:=r1) hN1 (by omega) hr1
 have s2:=DR (z:=z2) (n:=n2) (r:=r2) hN2 (by omega) hr2
 cases s1 with
 |no h=>exact Uq h
 |bad e hne h hv hw=>
  cases s2 with
  |no h2=>exact I5 h h2
  |bad e' hne' h2 hv' hw'=>
   cases fw with
   |false=>exact ut h h2 hfw
   |true=>exact kv h h2 hfw (lY (z:=zp) hp.len (by have:=hf14 rfl;omega) hp.z) (X:=rZ) (Y:=rZ) (Z:=rZ) (Zl hv hne) (Q6 hw hne) fT fT fT
  |good m hm F R hn hL hr hD hFN h2 hw2=>
   subst hn;subst hL;subst hr
   cases fw with
   |false=>exact ut h h2 hfw
   |true=>exact kv h h2 hfw (lY (z:=zp) hp.len (by have:=hf14 rfl;omega) hp.z) (X:=rZ) (Y:=rZ) (Z:=rZ) (Zl hv hne) (Q6 hw hne) fT fT fT
 |good m hm F R hn hL hr hD hFN h hw=>
  subst hn;subst hL;subst hr
  have hv:=iN (z:=z1) hD hFN
  cases s2 with
  |no h2=>exact I5 h h2
  |bad e' hne' h2 hv' hw'=>
   cases fw with
   |false=>exact ut h h2 hfw
   |true=>exact kv h h2 hfw (lY (z:=zp) hp.len (by have:=hf14 rfl;omega) hp.z) (X:=rZ) (Y:=rZ) (Z:=rZ) (ajg hv hv' hne') (aeh hw hw' hne') fT fT fT
  |good m' hm' F' R' hn hL hr hD' hFN' h2 hw2=>
   subst hn;subst hL;subst hr
   have hv2:=iN (z:=z2) hD' hFN'
   cases fw with
   |false=>exact ut h h2 hfw
   |true=>
    have h14:=hf14 rfl
    have hc:=lY (z:=zp) hp.len (by omega) hp.z
    by_cases hmm:m=m'
    ·subst hmm
     by_cases hnp:np=m
     ·subst hnp
      have p1:=yO (z:=zp) (xs:=ps) (by rw[hp.len];omega) (by rw[hp.len];exact hp.x)
      rw[hp.len] at p1
      have p2:=IY (z:=zp) hp.len (by omega) hp.x
      have g2:=Pd hw p2
      by_cases he:psE ps=0
      ·obtain⟨p,d,g⟩:=Gd.of hp.len hp.x (fun i hi=>QP he i (by rw[hp.len];exact hi))
       have a:=jo (tab:=fun t=>aG F t R) g.cs hD.n12
       have b:=jo (tab:=fun t=>aG F' t R') g.cs hD.n12
       have c:=jo (tab:=fun t=>aG F t R&&aG F' t R') g.cs hD.n12
       exact kv h h2 hfw hc (ael hD hFN hD' hFN' (by omega) g) (Zx hw hw2 hD hFN hD' hFN' g) (eq_self _ a) (eq_self _ b) (eq_self _ c)
      ·exact kv h h2 hfw hc (X:=rZ) (Y:=rZ) (Z:=rZ) (ajh hv hv2 p1 he) (Q7 hw hw2 g2 he) fT fT fT
     ·have g2:=QX (zp:=zp) (ps:=ps) (np:=np) hw (by omega)
      exact kv h h2 hfw hc (X:=rZ) (Y:=rZ) (Z:=rZ) (Zm hv hv2 (by omega)) (Q7 hw hw2 g2 (by decide)) fT fT fT
    ·exact kv h h2 hfw hc (X:=rZ) (Y:=rZ) (Z:=rZ) (Zm hv hv2 (by omega)) (aei hw hw2 (by omega)) fT fT fT
