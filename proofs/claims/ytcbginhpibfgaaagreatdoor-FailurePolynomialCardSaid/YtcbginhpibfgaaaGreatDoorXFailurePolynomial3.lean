/- LawEE. No condition. -/
import Derived.Test.YtcbginhpibfgaaaGreatDoorXFailurePolynomial2
import Derived.Test.YtcbginhpibfgaaaGreatDoorFcG1
import Derived.Test.YtcbginhpibfgaaaGreatDoorLawD1
set_option linter.all false
set_option maxHeartbeats 4000000
set_option maxRecDepth 20000
namespace Go.Proofs.YtcbginhpibfgaaaGreatDoor
open Go Go.Sy Go.Lm Go.Rt Go.Dg
attribute [local irreducible] AO AL AC OpT ACall Ends DGo bK Thn Blk Nxt
variable {N M k i m a b:Nat} {z zp:Bool} {L:List Fk} {X W:RV} {r e:Int} {n:Int} {F:List Fo} {A:List Int} {tab:Nat→Bool}
theorem aet:ACall Tryz.prog 28 [.isl true [] 0,.isl true [] 0] [] 0 (.val (.bool true)) []:=Pv (l:=[]) (n:=0) (z:=true) (z':=true) rfl (by decide)
theorem Px(hs:ACall Tryz.prog 18 [dI z n L N r] [] 0 (.val (.bool false)) []):ACall Tryz.prog 6 [dI z n L N r,.agg [.val (.int .u8 a),.val (.int .u8 b)]] [] 0 (.val (.bool true)) []:=by
 have hs:=PLift.up hs;have haw:=PLift.up bQ
 unfold dI at*
 refine ak Tryz.func6 Tryz.ntmps6 rfl ?_
 repeat' (first|refine zqN ?_|refine az haw.down ?_|refine az hs.down ?_|refine aK ?_|refine iy ?_|refine iA ?_|refine iB ?_|refine aL ?_|(refine aM ?_ ?_<;>intro hc<;>try exact zqM))
 all_goals first
  |((refine Ends.mk2 zqI [] ?_;simp-dsimp(disch:=try exact vD) only[push_cast,simprocAttr,Tryz.f6];try exact zqF);done)
  |skip
theorem Ul(hne:¬e=0)(hs:ACall Tryz.prog 18 [dI z n L N r] [] 0 (.val (.bool true)) [])(p1:ACall Tryz.prog 26 [dI z n L N r] [] 0 (.tup [.isl true [] 0,.val (.int .i64 e)]) [])(p2:ACall Tryz.prog 27 [dI z n L N r] [] 0 (.tup [.isl true [] 0,.val (.int .i64 e)]) []):
 ACall Tryz.prog 6 [dI z n L N r,.agg [.val (.int .u8 a),.val (.int .u8 b)]] [] 0 (.val (.bool true)) []:=by
 have hs:=PLift.up hs;have haw:=PLift.up bQ;have p1:=PLift.up p1;have p2:=PLift.up p2;have hq:=PLift.up aet
 unfold dI at*
 refine ak Tryz.func6 Tryz.ntmps6 rfl ?_
 have zx1:= @hne;have zx2:=aC;have zx3:=aC;repeat' (first|refine zqN ?_|refine bE haw.down ?_|refine bE hs.down ?_|refine bE p1.down ?_|refine bE p2.down ?_|refine bE hq.down ?_|refine bM ?_|refine jT ?_|refine jU ?_|refine jV ?_|refine bO ?_|(refine bP ?_ ?_<;>intro hc<;>try exact zqM))
 all_goals first
  |((refine Ends.mk2 zqI [] ?_;simp-dsimp(disch:=try exact vD) only[push_cast,simprocAttr,Tryz.f6];try exact zqF);done)
  |skip
theorem afd{X:RV}(i:Nat):cR (lsD (fun _=>X) i)++[.val (.bool X.num.neg),.isl X.num.z (cI .u32 X.num.l) X.num.l.length,.val (.bool X.den.neg),.isl X.den.z (cI .u32 X.den.l) X.den.l.length]=cR (lsD (fun _=>X) (i+1)):=aja
def lpI(z:Bool)(m:Nat)(L:List Fk)(N:Nat)(r:Int)(a b:Nat)(A:List Int)(X:RV)(i:{i:Nat // i≤m}):St:=
 ⟨87,0,[(2,.pt 0 0),(3,.pt 1 0),(5,.isl false (cI .i64 A) (m+1)),(9,kC i.val 2 4),(54,.val (.int .i64 m)),(55,.val (.int .i64 i.val))],[(0,some (.cells [.val (.int .i64 m),.isl z (cR L) N,.val (.int .i64 r)] 29)),(1,some (.cells [.val (.int .u8 a),.val (.int .u8 b)] 52))]++kD i.val 2 (cR (lsD (fun _=>X) i.val)) 37⟩
theorem Um(hs:ACall Tryz.prog 18 [dI z (0:Nat) L N r] [] 0 (.val (.bool true)) [])(p1:ACall Tryz.prog 26 [dI z (0:Nat) L N r] [] 0 (.tup [.isl false (cI .i64 A) 1,.val (.int .i64 0)]) [])(p2:ACall Tryz.prog 27 [dI z (0:Nat) L N r] [] 0 (.tup [.isl false (cI .i64 A) 1,.val (.int .i64 0)]) [])
 (hq:ACall Tryz.prog 28 [.isl false (cI .i64 A) 1,.isl false (cI .i64 A) 1] [] 0 (.val (.bool true)) []) (hm:ACall Tryz.prog 29 [.agg [.val (.int .u8 a),.val (.int .u8 b)]] [] 0 (.agg (aa.cells X)) [])
 (ha:ACall Tryz.prog 30 [.isl false (cI .i64 A) 1,.agg (aa.cells X)] [] 0 (.tup [.agg (aa.cells W),.val (.int .i64 0)]) []) (ho:ACall Tryz.prog 15 [dI z (0:Nat) L N r,.isl true [] 0] [] 0 (.tup [.agg (aa.cells W),.val (.int .i64 0)]) [])
 (he:ACall Tryz.prog 17 [.agg (aa.cells W),.agg (aa.cells W)] [] 0 (.val (.bool true)) []):
 ACall Tryz.prog 6 [dI z (0:Nat) L N r,.agg [.val (.int .u8 a),.val (.int .u8 b)]] [] 0 (.val (.bool true)) []:=by
 have hs:=PLift.up hs;have haw:=PLift.up bQ;have p1:=PLift.up p1;have p2:=PLift.up p2;have hq:=PLift.up hq;have hm:=PLift.up hm;have ha:=PLift.up ha;have ho:=PLift.up ho;have he:=PLift.up he
 unfold dI at*
 refine ak Tryz.func6 Tryz.ntmps6 rfl ?_
 repeat' (first|(refine ai ?_;refine au [0,1,9] ([0,1,9].length) (lpI z 0 L N r a b A X) (fun i=>0) (⟨0,Nat.zero_le _⟩) rfl (by unfold lpI;exact mO) ?_;(rintro⟨i,hi⟩;have hi0:i=0:=(by omega);subst hi0;(simp-dsimp(disch:=try exact vD) only[push_cast,simprocAttr,lpI,Q3])))|refine zqN ?_|refine az haw.down ?_|refine az hs.down ?_|refine az p1.down ?_|refine az p2.down ?_|refine az hq.down ?_|refine az hm.down ?_|refine az ha.down ?_|refine az ho.down ?_|refine az he.down ?_|refine aK ?_|refine iy ?_|refine iA ?_|refine iB ?_|refine aL ?_|(refine aM ?_ ?_<;>intro hc<;>try exact zqM))
 all_goals first
  |((refine Ends.mk2 zqI [] ?_;simp-dsimp(disch:=try exact vD) only[push_cast,simprocAttr,Tryz.f6];try exact zqF);done)
  |skip
theorem Un(hm0:0<m)(hm6:m≤6)(hs:ACall Tryz.prog 18 [dI z m L N r] [] 0 (.val (.bool true)) [])(p1:ACall Tryz.prog 26 [dI z m L N r] [] 0 (.tup [.isl false (cI .i64 A) (m+1),.val (.int .i64 0)]) [])(p2:ACall Tryz.prog 27 [dI z m L N r] [] 0 (.tup [.isl false (cI .i64 A) (m+1),.val (.int .i64 0)]) [])
 (hq:ACall Tryz.prog 28 [.isl false (cI .i64 A) (m+1),.isl false (cI .i64 A) (m+1)] [] 0 (.val (.bool true)) []) (hm:ACall Tryz.prog 29 [.agg [.val (.int .u8 a),.val (.int .u8 b)]] [] 0 (.agg (aa.cells X)) [])
 (ha:ACall Tryz.prog 30 [.isl false (cI .i64 A) (m+1),.agg (aa.cells X)] [] 0 (.tup [.agg (aa.cells W),.val (.int .i64 0)]) []) (ho:ACall Tryz.prog 15 [dI z m L N r,.isl false (cR (lsD (fun _=>X) m)) m] [] 0 (.tup [.agg (aa.cells W),.val (.int .i64 0)]) [])
 (he:ACall Tryz.prog 17 [.agg (aa.cells W),.agg (aa.cells W)] [] 0 (.val (.bool true)) []):
 ACall Tryz.prog 6 [dI z m L N r,.agg [.val (.int .u8 a),.val (.int .u8 b)]] [] 0 (.val (.bool true)) []:=by
 have hs:=PLift.up hs;have haw:=PLift.up bQ;have p1:=PLift.up p1;have p2:=PLift.up p2;have hq:=PLift.up hq;have hm:=PLift.up hm;have ha:=PLift.up ha;have ho:=PLift.up ho;have he:=PLift.up he
 have zx2:=fun(i:Nat)=>ja (D:=fun _=>X) (i:=i)
 have zx1:=Q0 (ps:=lsD (fun _=>X) m) ja
 have hsk:=fun(i:Nat)=>afd (X:=X) i
 have h0:∀i,i=0→[.val (.bool X.num.neg),.isl X.num.z (cI .u32 X.num.l) X.num.l.length,.val (.bool X.den.neg),.isl X.den.z (cI .u32 X.den.l) X.den.l.length]=cR (lsD (fun _=>X) (i+1)):=fun i hi=>by
  subst hi
  exact(List.nil_append _).symm.trans (hsk 0)
 have hsn:=ae
 unfold dI at*
 refine ak Tryz.func6 Tryz.ntmps6 rfl ?_
 have zx3:=aC;repeat' (first|((first|refine bI (r:=13) 2 ?_|refine bH (r:=13) 2 ?_);refine gQ ?_;intro K hK;refine hK _ _ ?_;clear hK K)|(refine ai ?_;refine au [0,1,9] ([0,1,9].length) (lpI z m L N r a b A X) (fun i=>m-i.val) (⟨0,Nat.zero_le _⟩) rfl (by unfold lpI;exact eQ) ?_;(rintro⟨i,hi⟩;rcases Nat.lt_or_eq_of_le hi with hil|hil<;>first|(subst hil;(simp-dsimp only[lpI];refine zqS ?_))|(have hli:=zx2 i;have hs1:=hsk i;have h01:=h0 i;rcases Nat.eq_zero_or_pos i with hi0|hi0<;>first|(have hsn:=h01 hi0;(simp-dsimp only[lpI];refine zqS ?_))|(have hsn:=hs1;(simp-dsimp only[lpI];refine zqS ?_)))))|(refine ax ?_;refine Nxt.mk [0,1,5] (⟨i+1,by omega⟩) rfl (by unfold lpI;(try simp only[List.cons_append,List.nil_append]);refine Sub.mk2 ?_;(simp-dsimp(disch:=try exact vD) only[push_cast,simprocAttr,zx1,zx2,hsn]);(repeat refine aI ?_);first|done|exact vI) zqO)|(refine ax ?_;refine Nxt.mk [0,1,4] (⟨i+1,by omega⟩) rfl (by unfold lpI;(try simp only[List.cons_append,List.nil_append]);refine Sub.mk2 ?_;(simp-dsimp(disch:=try exact vD) only[push_cast,simprocAttr,zx1,zx2,hsn]);(repeat refine aI ?_);first|done|exact vI) zqO)|(refine ax ?_;refine Nxt.mk [0,1,3] (⟨i+1,by omega⟩) rfl (by unfold lpI;(try simp only[List.cons_append,List.nil_append]);refine Sub.mk2 ?_;(simp-dsimp(disch:=try exact vD) only[push_cast,simprocAttr,zx1,zx2,hsn]);(repeat refine aI ?_);first|done|exact vI) zqO)|(refine ax ?_;refine Nxt.mk [0,1,2] (⟨i+1,by omega⟩) rfl (by unfold lpI;(try simp only[List.cons_append,List.nil_append]);refine Sub.mk2 ?_;(simp-dsimp(disch:=try exact vD) only[push_cast,simprocAttr,zx1,zx2,hsn]);(repeat refine aI ?_);first|done|exact vI) zqO)|refine zqN ?_|refine bE haw.down ?_|refine bE hs.down ?_|refine bE p1.down ?_|refine bE p2.down ?_|refine bE hq.down ?_|refine bE hm.down ?_|refine bE ha.down ?_|refine bE ho.down ?_|refine bE he.down ?_|refine bM ?_|refine jT ?_|refine jU ?_|refine jV ?_|refine bO ?_|(refine bP ?_ ?_<;>intro hc<;>try exact zqM))
 all_goals first
  |((refine Ends.mk2 zqI [] ?_;simp-dsimp(disch:=try exact vD) only[push_cast,simprocAttr,Tryz.f6];try exact zqF);done)
  |skip
theorem aeu(hN:L.length=N)(hN2:N<2^44)(hr:r<2^63)(h1:a<256)(h2:b<256):ACall Tryz.prog 6 [dI z n L N r,.agg [.val (.int .u8 a),.val (.int .u8 b)]] [] 0 (.val (.bool true)) []:=by
 cases DR (z:=z) (n:=n) (r:=r) hN (by omega) hr with
 |no h=>exact Px h
 |bad e hne h hv hw=>exact Ul hne h (ajb (TP hv hne) hne) (aeb hw hne)
 |good m hm F R hn hL hr hD hFN h hw=>
  subst hn;subst hL;subst hr
  have hc:=LD (z:=z) hD hFN (MK hD)
  rw[←gV] at hc
  have hcl:=EG (tab:=fun t=>aG F t R) m 0 0
  have p1:=Y6 (z:=z) (n:=m) (L:=F.map fk) (N:=N) (rt:=R) (B:=bnL m m) (A:=NI (cL (fun t=>aG F t R) m 0 0)) (by omega) uk (by rw[dS,hcl]) (fun k hk=>by rw[Pk hk];exact xc m (by omega) k hk) (fun k hk=>by
   have e1:=Bi (l:=cL (fun t=>aG F t R) m 0 0) (j:=k) (by omega)
   have e2:=ZI (tab:=fun t=>aG F t R) hm hk
   have e3:(NI (cL (fun t=>aG F t R) m 0 0)).getD k 0=((cL (fun t=>aG F t R) m 0 0).getD k 0:Nat):=e1
   rw[e3];omega) hc (Y3 (by omega))
  rw[aer hm] at p1
  have p2:=aea (z:=z) (n:=m) (T:=2^m) (tab:=fun t=> !aG F t R) (by omega) (by have:2^m≤2^6:=Nat.pow_le_pow_right (by omega) hm;omega) hw (DL hD hFN)
  obtain⟨q,hqe⟩:∃q,chQ ⟨a,b⟩=q:=⟨_,rfl⟩
  have hq:=YZ ⟨a,b⟩
  have hmd:=ME h1 h2
  rw[hqe] at hq hmd
  have hq2:0≤q∧q≤1∧q.den≤1000000:=⟨hq.1,hq.2.1,by omega⟩
  obtain⟨x1,x2⟩:=Q8 hq2.1 hq2.2.1 hq2.2.2
  have hlen:(cnL (fun t=> !aG F t R) m (2^m)).length=m+1:=oq
  obtain⟨c,ha,_,sm,hcq⟩:=Zp (n:=m+1) hlen (by omega) (by omega) (fun i hi=>by
   have:=ajF (tab:=fun t=> !aG F t R) hm (show i≤m by omega)
   have e:(cnL (fun t=> !aG F t R) m (2^m)).getD i default=(cnL (fun t=> !aG F t R) m (2^m)).getD i 0:=rfl
   rw[e];unfold I64;omega) x1 x2
  have:=hcq q hq2.1 hq2.2.1 hq2.2.2 rfl
  subst this
  have ha:=ha false
  rw[show m+1-1=m from rfl,aes] at ha sm
  have g:Gd (lsD (fun _=>rC c) m) (fun _=>c) (fun _=>c.den) m:=Gd.rc ja (fun i hi=>Pi hi) fun i _=>hq2
  have he:=eq_self _ sm
  have hqi:=Pv (z:=false) (z':=false) hlen (by omega)
  rcases Nat.eq_zero_or_pos m with h0|h0
  ·subst h0
   have ho:=uO (z:=z) (zp:=true) hD hFN g
   exact Um h p1 p2 hqi hmd ha ho he
  ·have ho:=uO (z:=z) (zp:=false) hD hFN g
   exact Un h0 hm h p1 p2 hqi hmd ha ho he
