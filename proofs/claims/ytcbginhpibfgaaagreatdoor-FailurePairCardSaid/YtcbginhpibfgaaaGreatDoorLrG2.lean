/- Lr2 Lr3. No condition. -/
import Derived.Test.YtcbginhpibfgaaaGreatDoorLr1
set_option linter.all false
set_option maxHeartbeats 4000000
set_option maxRecDepth 20000
namespace Go.Proofs.YtcbginhpibfgaaaGreatDoor
open Go Go.Sy Go.Bp Go.Lm
attribute [local irreducible] AO AL AC OpT ACall Ends DGo bK Thn Blk Nxt
variable {n N M k i m j r q up:Nat} {z z' zq zr neg nx ny:Bool} {l a b u vl L R T Q Lx Ly:List Int} {v x y d f g c rv e:Int}
def aiH(z z':Bool)(_:Unit):St:=⟨44,0,[(0,.isl z [] 0),(1,.isl z' [] 0),(5,.isl true [] 0),(6,.val (.int .u64 0)),(7,.val (.int .i64 0))],[]⟩
theorem XX:ACall Tryz.prog 124 [.isl z [] 0,.isl z' [] 0] [] 0 (.isl true [] 0) []:=by
 have ht:=PLift.up (EZ (z:=true) (l:=[]) (n:=0) rfl (by decide))
 rw[show cI .u32 (List.take (trN [] 0) [])=[] from rfl,show trN [] 0=0 from rfl,show cI .u32 []=[] from rfl] at ht
 refine ak Tryz.func124 Tryz.ntmps124 rfl ?_
 repeat' (first|(refine ai ?_;refine au [] ([].length) (aiH z z') (fun _=>0) (()) rfl (by unfold aiH;exact mO) ?_;(rintro⟨⟩;(simp-dsimp only[aiH];refine zqS ?_)))|refine zqN ?_|refine az ht.down ?_|refine aK ?_|refine iy ?_|refine iA ?_|refine iB ?_|refine aL ?_|(refine aM ?_ ?_<;>intro hc<;>try exact zqM))
 all_goals first
  |((refine Ends.mk2 zqI [] ?_;simp-dsimp(disch:=try exact vD) only[push_cast,simprocAttr,Tryz.f124];try exact zqF);done)
  |skip
theorem aiI:(pL a b i).take i=pL a b i:=List.take_of_length_le (by rw[pL_len];exact Nat.le_refl _)
def OD(z z':Bool)(a b:List Int)(n m K:Nat)(i:{i:Nat // i≤K+1}):St:=
 ⟨44,0,[(0,.isl z (cI .u32 a) n),(1,.isl z' (cI .u32 b) m),(5,kC i.val 0 1),(6,.val (.int .u64 (pC a b i.val))),(7,.val (.int .i64 i.val))],kD i.val 0 (cI .u32 (pL a b i.val)) 115⟩
theorem aiJ{K:Nat}(ha:Lim a)(hb:Lim b)(hl:a.length=n)(hm:b.length=m)(hK:Nat.max n m=K)(hp:0<K)(hn:K<2^39):ACall Tryz.prog 124 [.isl z (cI .u32 a) n,.isl z' (cI .u32 b) m] [] 0 (.isl false (cI .u32 (lb (val a+val b).toNat)) (lb (val a+val b).toNat).length) []:=by
 have hnK:n≤K:=by rw[←hK];exact Nat.le_max_left _ _
 have hmK:m≤K:=by rw[←hK];exact Nat.le_max_right _ _
 have hK2:∀i,n≤i→m≤i→K≤i:=fun i h1 h2=>by rw[←hK];exact Nat.max_le.2 ⟨h1,h2⟩
 have hT:∀i,n≤i→m≤i→i≤K+1→pC a b i=0→PLift (ACall Tryz.prog 123 [.isl false (cI .u32 (pL a b i)) i] [] 0 (.isl false (cI .u32 (lb (val a+val b).toNat)) (lb (val a+val b).toNat).length) []):=fun i h1 h2 h3 h4=>⟨by
  obtain⟨g1,g2⟩:=aiD ha hb (i:=i) (by omega) (by omega) h4
  have:=wO (z:=false) g1 (n:=i) pL_len (by omega)
  rw[g2] at this;exact this⟩
 have hlim:=fun(s:Bool) (i:Nat) (h:i<2^50)=>PLift.up (wP (z:=z) ha hl (show n<2^47 by omega) h)
 have hlim2:=fun(s:Bool) (i:Nat) (h:i<2^50)=>PLift.up (wP (z:=z') hb hm (show m<2^47 by omega) h)
 have hend:∀i,K≤i→pC a b (i+1)=0:=fun i h=>aiE ha hb (by omega) (by omega)
 generalize lb (val a+val b).toNat=V at hT⊢
 have zx1:=ae;have zx2:=ae;have zx3:=ae;have zx4:=ae;have zx5:=ae;have hb0:=ae
 refine ak Tryz.func124 Tryz.ntmps124 rfl ?_
 have zx6:= @aia;have zx7:= @acQ;have zx8:= @pL_len;have zx9:= @aiI;have zx10:= @lG;have zx11:=aC;have zx12:=aC;repeat' (first|((first|refine bI (r:=9) 0 ?_|refine bH (r:=9) 0 ?_);refine Ih ?_;intro K hK;refine hK _ _ ?_;clear hK K)|(refine ai ?_;refine au [9] ([9].length) (OD z z' a b n m K) (fun i=>K+1-i.val) (⟨0,Nat.zero_le _⟩) rfl (by unfold OD;exact iP) ?_;(rintro⟨i,hi⟩;have hpr:=mU (a:=a) (b:=b) (i:=i);have hgo:i<K∨(K≤i∧¬pC a b i=0∧i<K+1)∨(K≤i∧pC a b i=0):=(by rcases Nat.lt_or_ge i K with h|h;exact .inl h;by_cases hc:pC a b i=0;exact .inr (.inr ⟨h,hc⟩);refine .inr (.inl ⟨h,hc,Nat.lt_of_le_of_ne hi fun e=>hc ?_⟩);rw[e];exact hend K (Nat.le_refl _));rcases Nat.lt_or_ge i n with hin|hin<;>rcases Nat.lt_or_ge i m with him|him<;>rcases hgo with hgo|⟨hgo,zx5,hgo2⟩|⟨hgo,zx5⟩<;>first|(exfalso;omega)|(exfalso;have:=hK2 i hin him;omega)|(have hTi:=hT i hin him hi zx5;have hi0:0<i:=(by omega);(simp-dsimp only[OD];refine zqS ?_))|(obtain⟨zx2,zx3⟩:=aiC (i:=i) ha hb;have zx4:=pL_s (a:=a) (b:=b) (i:=i);have har:=ha.at i;have hbr:=hb.at i;have hr2:=mU (a:=a) (b:=b) (i:=i+1);generalize zx1:a.getD i 0+b.getD i 0+pC a b i=x at*;generalize pX a b i=px at*;rcases Nat.eq_zero_or_pos i with hi0|hi0<;>first|((try(have hcp:0<pC a b i:=(by omega)));(simp-dsimp only[OD];refine zqS ?_)))))|(refine ax ?_;refine Nxt.mk [2] (⟨i+1,by omega⟩) rfl (by unfold OD;exact iP) zqO)|(refine ax ?_;refine Nxt.mk [1] (⟨i+1,by omega⟩) rfl (by unfold OD;exact iP) zqO)|(refine ax ?_;refine Nxt.mk [0] (⟨i+1,by omega⟩) rfl (by unfold OD;exact iP) zqO)|refine zqN ?_|refine Er hTi.down ?_|refine Er (hlim true i (by omega)).down ?_|refine Er (hlim2 true i (by omega)).down ?_|refine A7 ?_|refine NR ?_|refine NS ?_|refine NT ?_|refine A8 ?_|(refine A9 ?_ ?_<;>intro hc<;>try exact zqM))
 all_goals first
  |((refine Ends.mk2 zqI [] ?_;simp-dsimp(disch:=try exact vD) only[push_cast,simprocAttr,Tryz.f124];try exact zqF);done)
  |skip
def OE(z z':Bool)(a b:List Int)(n m:Nat)(i:{i:Nat // i≤n}):St:=
 ⟨36,0,[(0,.isl z (cI .u32 a) n),(1,.isl z' (cI .u32 b) m),(5,kC i.val 0 1),(6,.val (.int .u64 (mC a b i.val))),(7,.val (.int .i64 i.val))],kD i.val 0 (cI .u32 (mL a b i.val)) 115⟩
theorem aiK(ha:Lim a)(hb:Lim b)(hl:a.length=n)(hm:b.length=m)(hp:0<n)(hle:m≤n)(hn:n<2^39)(hv:val b≤val a):ACall Tryz.prog 127 [.isl z (cI .u32 a) n,.isl z' (cI .u32 b) m] [] 0 (.isl false (cI .u32 (lb (val a-val b).toNat)) (lb (val a-val b).toNat).length) []:=by
 have hT:=PLift.up (by
  obtain⟨g1,g2⟩:=LM ha hb (by omega) hv
  have:=wO (z:=false) g1 (n:=a.length) ry (by omega)
  rw[g2,hl] at this;exact this)
 have hlim:=fun(i:Nat) (h:i<2^50)=>PLift.up (wP (z:=z) ha hl (show n<2^47 by omega) h)
 have hlim2:=fun(i:Nat) (h:i<2^50)=>PLift.up (wP (z:=z') hb hm (show m<2^47 by omega) h)
 generalize lb (val a-val b).toNat=V at hT⊢
 have zx1:=ae;have zx2:=ae;have zx3:=ae;have zx4:=ae
 refine ak Tryz.func127 Tryz.ntmps127 rfl ?_
 have zx5:= @mL_z;have zx6:= @mC_0;have zx7:= @ry;have zx8:= @aeT;have zx9:= @lG;repeat' (first|((first|refine bI (r:=9) 0 ?_|refine bH (r:=9) 0 ?_);refine qV ?_;intro K hK;refine hK _ _ ?_;clear hK K)|(refine ai ?_;refine au [9] ([9].length) (OE z z' a b n m) (fun i=>n-i.val) (⟨0,Nat.zero_le _⟩) rfl (by unfold OE;exact kK) ?_;(rintro⟨i,hi⟩;have hpr:=yE (a:=a) (b:=b) (i:=i);rcases Nat.lt_or_eq_of_le hi with hil|hil<;>first|(subst hil;(simp-dsimp only[OE];refine zqS ?_))|(obtain⟨zx2,zx3,he0⟩:=aiF (i:=i) ha hb;have zx4:=mL_s (a:=a) (b:=b) (i:=i);have har:=ha.at i;have hbr:=hb.at i;have hr2:=yE (a:=a) (b:=b) (i:=i+1);generalize zx1:a.getD i 0+1000000000-b.getD i 0-mC a b i=x at*;generalize mX a b i=px at*;rcases Nat.eq_zero_or_pos i with hi0|hi0<;>(simp-dsimp only[OE];refine zqS ?_))))|(refine ax ?_;refine Nxt.mk [2] (⟨i+1,by omega⟩) rfl (by unfold OE;exact kK) zqO)|(refine ax ?_;refine Nxt.mk [1] (⟨i+1,by omega⟩) rfl (by unfold OE;exact kK) zqO)|(refine ax ?_;refine Nxt.mk [0] (⟨i+1,by omega⟩) rfl (by unfold OE;exact kK) zqO)|refine zqN ?_|refine NQ hT.down ?_|refine NQ (hlim i (by omega)).down ?_|refine NQ (hlim2 i (by omega)).down ?_|refine uz ?_|refine Ic ?_|refine Ie ?_|refine Ig ?_|refine uA ?_|(refine uB ?_ ?_<;>intro hc<;>try exact zqM))
 all_goals first
  |((refine Ends.mk2 zqI [] ?_;simp-dsimp(disch:=try exact vD) only[push_cast,simprocAttr,Tryz.f127];try exact zqF);done)
  |skip
def rtT(a:List Int)(d:Int)(up i:Nat):List Int:=List.replicate up 0++scL a d i
theorem ak3:rtT a d up 0=List.replicate up 0:=List.append_nil _
theorem ak4:rtT a d up (i+1)=rtT a d up i++[(scC a d i+a.getD i 0*d)%1000000000]:=by unfold rtT;rw[LV,List.append_assoc]
theorem aiL:(rtT a d up i).take (up+i)=rtT a d up i:=List.take_of_length_le (by unfold rtT;rw[List.length_append,List.length_replicate,iL];exact Nat.le_refl _)
theorem J5:(rtT a d up i).length=up+i:=by unfold rtT;rw[List.length_append,List.length_replicate,iL]
def rtJ(z:Bool)(a:List Int)(n:Nat)(d:Int)(up:Nat)(i:{i:Nat // i≤n+1}):St:=
 ⟨40,0,[(0,.isl z (cI .u32 a) n),(1,.val (.int .u64 d)),(7,.sl 0 0 (up+i.val) 1),(8,.val (.int .u64 (scC a d i.val))),(9,.val (.int .i64 i.val))],[(0,some (.cells (cI .u32 (rtT a d up i.val)) 115))]⟩
theorem IK(ha:Lim a)(hl:a.length=n)(hd:0≤d∧d<1000000000)(hn:n<2^29)(hup:up<2^29):ACall Tryz.prog 125 [.isl z (cI .u32 a) n,.val (.int .u64 d),.val (.int .i64 up)] [] 0 (.isl false (cI .u32 (lb (bp up*(val a*d)).toNat)) (lb (bp up*(val a*d)).toNat).length) []:=by
 have hT:∀i,n≤i→i≤n+1→scC a d i=0→PLift (ACall Tryz.prog 123 [.isl false (cI .u32 (rtT a d up i)) (up+i)] [] 0 (.isl false (cI .u32 (lb (bp up*(val a*d)).toNat)) (lb (bp up*(val a*d)).toNat).length) []):=fun i h1 h2 h3=>⟨by
  obtain⟨g1,g2⟩:=adh (k:=up) ha hd (i:=i) (by omega) h3
  have:=wO (z:=false) (l:=rtT a d up i) g1 (n:=up+i) J5 (by omega)
  rw[show val (rtT a d up i)=_ from g2] at this;exact this⟩
 have hlim:=fun(i:Nat) (h:i<2^50)=>PLift.up (wP (z:=z) ha hl (show n<2^47 by omega) h)
 have hend:scC a d (n+1)=0:=adi ha hd (by omega)
 have zx8:=ak3 (a:=a) (d:=d) (up:=up)
 generalize lb (bp up*(val a*d)).toNat=V at hT⊢
 have zx1:=ae;have zx2:=ae;have zx3:=ae;have zx4:=ae;have zx5:=ae;have zx6:=ae;have zx7:=ae
 refine ak Tryz.func125 Tryz.ntmps125 rfl ?_
 have zx9:= @LU;have zx10:= @J5;have zx11:= @aiL;have zx12:=aC;repeat' (first|((first|refine bI (r:=9) 0 ?_|refine bH (r:=9) 0 ?_);refine Ih ?_;intro K hK;refine hK _ _ ?_;clear hK K)|(refine ai ?_;refine au [0] ([0].length) (rtJ z a n d up) (fun i=>n+1-i.val) (⟨0,Nat.zero_le _⟩) rfl (by unfold rtJ;exact iP) ?_;(rintro⟨i,hi⟩;have hcr:=tV (i:=i) ha hd;have hgo:i<n∨(n≤i∧0<scC a d i∧i<n+1)∨(n≤i∧scC a d i=0):=(by rcases Nat.lt_or_ge i n with h|h;exact .inl h;by_cases hc:scC a d i=0;exact .inr (.inr ⟨h,hc⟩);refine .inr (.inl ⟨h,by omega,Nat.lt_of_le_of_ne hi fun e=>hc ?_⟩);rw[e];exact hend);rcases hgo with hgo|⟨hgo,hcp,hgo2⟩|⟨hgo,zx5⟩<;>first|(have hTi:=hT i hgo hi zx5;(simp-dsimp only[rtJ];refine zqS ?_))|(have har:=ha.at i;have hmr:=lg har hd;have zx6:=IB (u:=a) (d:=d) (i:=i);have zx4:=ak4 (a:=a) (d:=d) (up:=up) (i:=i);have hrl:=J5 (a:=a) (d:=d) (up:=up) (i:=i);have zx1:a.getD i 0*d+scC a d i=scC a d i+a.getD i 0*d:=Int.add_comm _ _;generalize zx7:a.getD i 0*d=pp at*;(simp-dsimp only[rtJ];refine zqS ?_))))|(refine ax ?_;refine Nxt.mk [2] (⟨i+1,by omega⟩) rfl (by unfold rtJ;exact iP) zqO)|(refine ax ?_;refine Nxt.mk [1] (⟨i+1,by omega⟩) rfl (by unfold rtJ;exact iP) zqO)|(refine ax ?_;refine Nxt.mk [0] (⟨i+1,by omega⟩) rfl (by unfold rtJ;exact iP) zqO)|refine zqN ?_|refine Er hTi.down ?_|refine Er (hlim i (by omega)).down ?_|refine A7 ?_|refine NR ?_|refine NS ?_|refine NT ?_|refine A8 ?_|(refine A9 ?_ ?_<;>intro hc<;>try exact zqM))
 all_goals first
  |((refine Ends.mk2 zqI [] ?_;simp-dsimp(disch:=try exact vD) only[push_cast,simprocAttr,Tryz.f125];try exact zqF);done)
  |skip
end Go.Proofs.YtcbginhpibfgaaaGreatDoor
namespace Go.Proofs.YtcbginhpibfgaaaGreatDoor
open Go Go.Sy Go.Bp Go.Lm
attribute [local irreducible] AO AL AC OpT ACall Ends DGo bK Thn Blk Nxt
variable {n N M k i m j r q up A B:Nat} {z z' zq zr neg nx ny:Bool} {l a b u vl L R T Q Lx Ly:List Int} {v x y d f g c rv e:Int} {W W2 X Y:IV}
theorem QE(h1:(lb A).length<2^38)(h2:(lb B).length<2^38):ACall Tryz.prog 124 [.isl z (cI .u32 (lb A)) (lb A).length,.isl z' (cI .u32 (lb B)) (lb B).length] [] 0 (.isl (A+B==0) (cI .u32 (lb (A+B))) (lb (A+B)).length) []:=by
 by_cases h:A+B=0
 ·have e1:A=0:=by omega
  have e2:B=0:=by omega
  subst e1;subst e2;exact XX
 ·have e0:(A+B==0)=false:=by simpa using h
  have hK:0<Nat.max (lb A).length (lb B).length:=by
   refine Nat.pos_of_ne_zero fun hc=>h ?_
   have a1:(lb A).length≤0:=Nat.le_trans (Nat.le_max_left _ _) (Nat.le_of_eq hc)
   have a2:(lb B).length≤0:=Nat.le_trans (Nat.le_max_right _ _) (Nat.le_of_eq hc)
   have e1:=iE.1 (List.length_eq_zero_iff.1 (show(lb A).length=0 by omega))
   have e2:=iE.1 (List.length_eq_zero_iff.1 (show(lb B).length=0 by omega))
   omega
  have:=aiJ (z:=z) (z':=z') (a:=lb A) (b:=lb B) lim_lb lim_lb rfl rfl rfl hK (Nat.max_lt.2 ⟨by omega,by omega⟩)
  rw[aU,aU,show((A:Int)+B).toNat=A+B by omega] at this
  rw[e0];exact this
def rmP(A:Nat)(b:List Int)(i:Nat):Nat:=A*(val (b.take i)).toNat
theorem ak5:rmP A b 0=0:=by unfold rmP;rw[kr];rfl
theorem ak6(hb:Lim b):rmP A b (i+1)=rmP A b i+(bp i*((A:Int)*b.getD i 0)).toNat:=by
 unfold rmP
 have h1:=(bJ (l:=b.take i) hb.take).1
 have h2:=(hb.at i).1
 have h3:=gZ (k:=i)
 rw[fH]
 obtain⟨w,hw⟩:=Int.eq_ofNat_of_zero_le h1
 obtain⟨x,hx⟩:=Int.eq_ofNat_of_zero_le h2
 obtain⟨p,hp⟩:=Int.eq_ofNat_of_zero_le (Int.le_of_lt h3)
 rw[hw,hx,hp]
 have e1:((w:Int)+(p:Int)*(x:Int)).toNat=w+p*x:=by rw[←Int.natCast_mul,←Int.natCast_add,Int.toNat_natCast]
 have e2:((p:Int)*((A:Int)*(x:Int))).toNat=p*(A*x):=by rw[←Int.natCast_mul,←Int.natCast_mul,Int.toNat_natCast]
 rw[e1,e2,Int.toNat_natCast,Nat.mul_add,Nat.mul_left_comm A p x]
theorem aiM(hb:Lim b)(h:i≤b.length):rmP A b i≤A*(val b).toNat:=by
 unfold rmP
 refine Nat.mul_le_mul (Nat.le_refl _) ?_
 have e:=fI (l:=b) i
 have h1:=(bJ (l:=b.drop i) hb.drop).1
 have h3:=gZ (k:=min i b.length)
 have:=Int.mul_nonneg (Int.le_of_lt h3) h1
 omega
theorem adp:rmP A b b.length=A*(val b).toNat:=by unfold rmP;rw[List.take_length]
def rmI(z z':Bool)(A:Nat)(b:List Int)(n m:Nat)(i:{i:Nat // i≤m}):St:=
 ⟨24,0,[(0,.isl z (cI .u32 (lb A)) n),(1,.isl z' (cI .u32 b) m),(5,.isl (rmP A b i.val==0) (cI .u32 (lb (rmP A b i.val))) (lb (rmP A b i.val)).length),(6,.val (.int .i64 i.val))],[]⟩
theorem adq(hb:Lim b)(hn:(lb A).length=n)(hm:b.length=m)(hn2:n<2^28)(hm2:m<2^28)(hP:(lb (A*(val b).toNat)).length<2^38):
 ACall Tryz.prog 93 [.isl z (cI .u32 (lb A)) n,.isl z' (cI .u32 b) m] [] 0 (.isl (A*(val b).toNat==0) (cI .u32 (lb (A*(val b).toNat))) (lb (A*(val b).toNat)).length) []:=by
 have hti:=fun(i:Nat) (h:i<m)=>PLift.up (by
  have:=IK (z:=z) (a:=lb A) (n:=n) (d:=b.getD i 0) (up:=i) lim_lb hn (hb.at i) (by omega) (by omega)
  rw[aU] at this;exact this)
 have hti:=PLift.up hti
 have had:∀i,i<m→PLift (ACall Tryz.prog 124 [.isl (rmP A b i==0) (cI .u32 (lb (rmP A b i))) (lb (rmP A b i)).length,.isl false (cI .u32 (lb (bp i*((A:Int)*b.getD i 0)).toNat)) (lb (bp i*((A:Int)*b.getD i 0)).toNat).length] [] 0 (.isl (rmP A b (i+1)==0) (cI .u32 (lb (rmP A b (i+1)))) (lb (rmP A b (i+1))).length) []):=fun i hi=>⟨by
  have l0:=aiM (A:=A) hb (show i+1≤b.length by omega)
  have e:=ak6 (A:=A) hb (i:=i)
  have l1:=iM (show rmP A b i≤A*(val b).toNat by omega)
  have l2:=iM (show(bp i*((A:Int)*b.getD i 0)).toNat≤A*(val b).toNat by omega)
  rw[e]
  exact QE (by omega) (by omega)⟩
 have e1:=adp (A:=A) (b:=b)
 rw[hm] at e1
 rw[←e1]
 have e0:=ak5 (A:=A) (b:=b)
 have zx2:(rmP A b 0==0)=true:=by rw[e0];rfl
 have zx3:cI .u32 (lb (rmP A b 0))=[]:=by rw[e0];rfl
 have zx4:(lb (rmP A b 0)).length=0:=by rw[e0];rfl
 clear e1 hP e0
 refine ak Tryz.func93 Tryz.ntmps93 rfl ?_
 have zx1:= @gd0;have zx5:=aC;have zx6:=aC;repeat' (first|(refine ai ?_;refine au [] ([].length) (rmI z z' A b n m) (fun i=>m-i.val) (⟨0,Nat.zero_le _⟩) rfl (by unfold rmI;exact gY) ?_;(rintro⟨i,hi⟩;have hbr:=hb.at i;rcases Nat.lt_or_eq_of_le hi with hil|hil<;>first|(subst hil;(simp-dsimp only[rmI];refine zqS ?_))|(simp-dsimp only[rmI];refine zqS ?_)))|(refine ax ?_;refine Nxt.mk [] (⟨i+1,by omega⟩) rfl (by unfold rmI;exact gY) zqO)|refine zqN ?_|refine gG (hti.down i hil).down ?_|refine gG (had i hil).down ?_|refine kE ?_|refine kF ?_|(refine kG ?_ ?_<;>intro hc<;>try exact zqM))
 all_goals first
  |((refine Ends.mk2 zqI [] ?_;simp-dsimp(disch:=try exact vD) only[push_cast,simprocAttr,Tryz.f93];try exact zqF);done)
  |skip
theorem Ta{P:List Int} {zp:Bool}(hne:nx=ny)(hp:ACall Tryz.prog 124 [.isl z (cI .u32 Lx) n,.isl z' (cI .u32 Ly) m] [] 0 (.isl zp (cI .u32 P) k) [])(hr:ACall Tryz.prog 92 [.val (.bool nx),.isl zp (cI .u32 P) k] [] 0 (.tup [.agg (aa.cells W),.val (.int .i64 e)]) []):
 ACall Tryz.prog 97 [.agg [.val (.bool nx),.isl z (cI .u32 Lx) n],.agg [.val (.bool ny),.isl z' (cI .u32 Ly) m]] [] 0 (.tup [.agg (aa.cells W),.val (.int .i64 e)]) []:=by
 subst hne
 have hp:=PLift.up hp;have hr:=PLift.up hr
 rcases Bool.eq_false_or_eq_true nx with hnx|hnx
 all_goals subst hnx
 all_goals(refine ak Tryz.func97 Tryz.ntmps97 rfl ?_)
 all_goals repeat' (first|refine zqN ?_|refine az hp.down ?_|refine az hr.down ?_|refine aK ?_|refine aL ?_|(refine aM ?_ ?_<;>intro hc<;>try exact zqM)|refine zqR 2 [⟨0,[],[13,14,15,16,17],[],[],0⟩,⟨1,[0],[13,14,15,16,17],[],[],0⟩,⟨2,[],[11,12,15,16],[],[],0⟩,⟨3,[2],[11,12,15,16],[],[],0⟩,⟨4,[],[11,12,13,14],[],[],0⟩,⟨5,[4],[11,12,13,14],[],[],0⟩,⟨6,[2,3,4,5],[11,12],[],[],0⟩,⟨7,[0,1,2,3,4,5,6],[],[],[],0⟩,⟨8,[0,1,2,3,4,5,6,7],[20],[],[],0⟩,⟨9,[0,1,2,3,4,5,6,7],[19],[],[],0⟩,⟨10,[0,1,2,3,4,5,6,7,8,9],[],[],[2],0⟩,⟨11,[0,1,2,3,4,5,6,7,8,9,10],[],[],[],0⟩] ?_|refine zqR 4 [⟨0,[],[29,30,31,32,33],[],[],0⟩,⟨1,[0],[29,30,31,32,33],[],[],0⟩,⟨2,[],[27,28,31,32],[],[],0⟩,⟨3,[2],[27,28,31,32],[],[],0⟩,⟨4,[],[27,28,29,30],[],[],0⟩,⟨5,[4],[27,28,29,30],[],[],0⟩,⟨6,[2,3,4,5],[27,28],[],[],0⟩,⟨7,[0,1,2,3,4,5,6],[],[],[],0⟩,⟨8,[0,1,2,3,4,5,6,7],[36],[],[],0⟩,⟨9,[0,1,2,3,4,5,6,7],[35],[],[],0⟩,⟨10,[0,1,2,3,4,5,6,7,8,9],[],[],[2],0⟩,⟨11,[0,1,2,3,4,5,6,7,8,9,10],[],[],[],0⟩] ?_|refine zqR 5 [⟨0,[],[39,40,41,42,43],[],[],0⟩,⟨1,[0],[39,40,41,42,43],[],[],0⟩,⟨2,[],[37,38,41,42],[],[],0⟩,⟨3,[2],[37,38,41,42],[],[],0⟩,⟨4,[],[37,38,39,40],[],[],0⟩,⟨5,[4],[37,38,39,40],[],[],0⟩,⟨6,[2,3,4,5],[37,38],[],[],0⟩,⟨7,[0,1,2,3,4,5,6],[],[],[],0⟩,⟨8,[0,1,2,3,4,5,6,7],[46],[],[],0⟩,⟨9,[0,1,2,3,4,5,6,7],[45],[],[],0⟩,⟨10,[0,1,2,3,4,5,6,7,8,9],[],[],[2],0⟩,⟨11,[0,1,2,3,4,5,6,7,8,9,10],[],[],[],0⟩] ?_|refine zqD ?_|fail)
 all_goals first
  |((refine Ends.mk2 zqI [] ?_;simp-dsimp(disch:=try exact vD) only[push_cast,simprocAttr,Tryz.f97];try exact zqF);done)
  |skip
theorem adr{c:Int} {P:List Int} {zp:Bool}(hne:¬nx=ny)(hc0:0≤c)(hcm:ACall Tryz.prog 126 [.isl z (cI .u32 Lx) n,.isl z' (cI .u32 Ly) m] [] 0 (.val (.int .i64 c)) [])(hp:ACall Tryz.prog 127 [.isl z (cI .u32 Lx) n,.isl z' (cI .u32 Ly) m] [] 0 (.isl zp (cI .u32 P) k) [])(hr:ACall Tryz.prog 92 [.val (.bool nx),.isl zp (cI .u32 P) k] [] 0 (.tup [.agg (aa.cells W),.val (.int .i64 e)]) []):
 ACall Tryz.prog 97 [.agg [.val (.bool nx),.isl z (cI .u32 Lx) n],.agg [.val (.bool ny),.isl z' (cI .u32 Ly) m]] [] 0 (.tup [.agg (aa.cells W),.val (.int .i64 e)]) []:=by
 have hp:=PLift.up hp;have hr:=PLift.up hr;have hcm:=PLift.up hcm
 rcases Bool.eq_false_or_eq_true nx with hnx|hnx<;>rcases Bool.eq_false_or_eq_true ny with hny|hny
 all_goals subst hnx
 all_goals subst hny
 all_goals first
  |(exact absurd rfl hne;done)
  |skip
 all_goals(refine ak Tryz.func97 Tryz.ntmps97 rfl ?_)
 all_goals repeat' (first|refine zqN ?_|refine az hcm.down ?_|refine az hp.down ?_|refine az hr.down ?_|refine aK ?_|refine aL ?_|(refine aM ?_ ?_<;>intro hc<;>try exact zqM)|refine zqR 2 [⟨0,[],[13,14,15,16,17],[],[],0⟩,⟨1,[0],[13,14,15,16,17],[],[],0⟩,⟨2,[],[11,12,15,16],[],[],0⟩,⟨3,[2],[11,12,15,16],[],[],0⟩,⟨4,[],[11,12,13,14],[],[],0⟩,⟨5,[4],[11,12,13,14],[],[],0⟩,⟨6,[2,3,4,5],[11,12],[],[],0⟩,⟨7,[0,1,2,3,4,5,6],[],[],[],0⟩,⟨8,[0,1,2,3,4,5,6,7],[20],[],[],0⟩,⟨9,[0,1,2,3,4,5,6,7],[19],[],[],0⟩,⟨10,[0,1,2,3,4,5,6,7,8,9],[],[],[2],0⟩,⟨11,[0,1,2,3,4,5,6,7,8,9,10],[],[],[],0⟩] ?_|refine zqR 4 [⟨0,[],[29,30,31,32,33],[],[],0⟩,⟨1,[0],[29,30,31,32,33],[],[],0⟩,⟨2,[],[27,28,31,32],[],[],0⟩,⟨3,[2],[27,28,31,32],[],[],0⟩,⟨4,[],[27,28,29,30],[],[],0⟩,⟨5,[4],[27,28,29,30],[],[],0⟩,⟨6,[2,3,4,5],[27,28],[],[],0⟩,⟨7,[0,1,2,3,4,5,6],[],[],[],0⟩,⟨8,[0,1,2,3,4,5,6,7],[36],[],[],0⟩,⟨9,[0,1,2,3,4,5,6,7],[35],[],[],0⟩,⟨10,[0,1,2,3,4,5,6,7,8,9],[],[],[2],0⟩,⟨11,[0,1,2,3,4,5,6,7,8,9,10],[],[],[],0⟩] ?_|refine zqR 5 [⟨0,[],[39,40,41,42,43],[],[],0⟩,⟨1,[0],[39,40,41,42,43],[],[],0⟩,⟨2,[],[37,38,41,42],[],[],0⟩,⟨3,[2],[37,38,41,42],[],[],0⟩,⟨4,[],[37,38,39,40],[],[],0⟩,⟨5,[4],[37,38,39,40],[],[],0⟩,⟨6,[2,3,4,5],[37,38],[],[],0⟩,⟨7,[0,1,2,3,4,5,6],[],[],[],0⟩,⟨8,[0,1,2,3,4,5,6,7],[46],[],[],0⟩,⟨9,[0,1,2,3,4,5,6,7],[45],[],[],0⟩,⟨10,[0,1,2,3,4,5,6,7,8,9],[],[],[2],0⟩,⟨11,[0,1,2,3,4,5,6,7,8,9,10],[],[],[],0⟩] ?_|refine zqD ?_|fail)
 all_goals first
  |((refine Ends.mk2 zqI [] ?_;simp-dsimp(disch:=try exact vD) only[push_cast,simprocAttr,Tryz.f97];try exact zqF);done)
  |skip
theorem ads{c:Int} {P:List Int} {zp:Bool}(hne:¬nx=ny)(hc0:¬0≤c)(hcm:ACall Tryz.prog 126 [.isl z (cI .u32 Lx) n,.isl z' (cI .u32 Ly) m] [] 0 (.val (.int .i64 c)) [])(hp:ACall Tryz.prog 127 [.isl z' (cI .u32 Ly) m,.isl z (cI .u32 Lx) n] [] 0 (.isl zp (cI .u32 P) k) [])(hr:ACall Tryz.prog 92 [.val (.bool ny),.isl zp (cI .u32 P) k] [] 0 (.tup [.agg (aa.cells W),.val (.int .i64 e)]) []):
 ACall Tryz.prog 97 [.agg [.val (.bool nx),.isl z (cI .u32 Lx) n],.agg [.val (.bool ny),.isl z' (cI .u32 Ly) m]] [] 0 (.tup [.agg (aa.cells W),.val (.int .i64 e)]) []:=by
 have hp:=PLift.up hp;have hr:=PLift.up hr;have hcm:=PLift.up hcm
 rcases Bool.eq_false_or_eq_true nx with hnx|hnx<;>rcases Bool.eq_false_or_eq_true ny with hny|hny
 all_goals subst hnx
 all_goals subst hny
 all_goals first
  |(exact absurd rfl hne;done)
  |skip
 all_goals(refine ak Tryz.func97 Tryz.ntmps97 rfl ?_)
 all_goals repeat' (first|refine zqN ?_|refine az hcm.down ?_|refine az hp.down ?_|refine az hr.down ?_|refine aK ?_|refine aL ?_|(refine aM ?_ ?_<;>intro hc<;>try exact zqM)|refine zqR 2 [⟨0,[],[13,14,15,16,17],[],[],0⟩,⟨1,[0],[13,14,15,16,17],[],[],0⟩,⟨2,[],[11,12,15,16],[],[],0⟩,⟨3,[2],[11,12,15,16],[],[],0⟩,⟨4,[],[11,12,13,14],[],[],0⟩,⟨5,[4],[11,12,13,14],[],[],0⟩,⟨6,[2,3,4,5],[11,12],[],[],0⟩,⟨7,[0,1,2,3,4,5,6],[],[],[],0⟩,⟨8,[0,1,2,3,4,5,6,7],[20],[],[],0⟩,⟨9,[0,1,2,3,4,5,6,7],[19],[],[],0⟩,⟨10,[0,1,2,3,4,5,6,7,8,9],[],[],[2],0⟩,⟨11,[0,1,2,3,4,5,6,7,8,9,10],[],[],[],0⟩] ?_|refine zqR 4 [⟨0,[],[29,30,31,32,33],[],[],0⟩,⟨1,[0],[29,30,31,32,33],[],[],0⟩,⟨2,[],[27,28,31,32],[],[],0⟩,⟨3,[2],[27,28,31,32],[],[],0⟩,⟨4,[],[27,28,29,30],[],[],0⟩,⟨5,[4],[27,28,29,30],[],[],0⟩,⟨6,[2,3,4,5],[27,28],[],[],0⟩,⟨7,[0,1,2,3,4,5,6],[],[],[],0⟩,⟨8,[0,1,2,3,4,5,6,7],[36],[],[],0⟩,⟨9,[0,1,2,3,4,5,6,7],[35],[],[],0⟩,⟨10,[0,1,2,3,4,5,6,7,8,9],[],[],[2],0⟩,⟨11,[0,1,2,3,4,5,6,7,8,9,10],[],[],[],0⟩] ?_|refine zqR 5 [⟨0,[],[39,40,41,42,43],[],[],0⟩,⟨1,[0],[39,40,41,42,43],[],[],0⟩,⟨2,[],[37,38,41,42],[],[],0⟩,⟨3,[2],[37,38,41,42],[],[],0⟩,⟨4,[],[37,38,39,40],[],[],0⟩,⟨5,[4],[37,38,39,40],[],[],0⟩,⟨6,[2,3,4,5],[37,38],[],[],0⟩,⟨7,[0,1,2,3,4,5,6],[],[],[],0⟩,⟨8,[0,1,2,3,4,5,6,7],[46],[],[],0⟩,⟨9,[0,1,2,3,4,5,6,7],[45],[],[],0⟩,⟨10,[0,1,2,3,4,5,6,7,8,9],[],[],[2],0⟩,⟨11,[0,1,2,3,4,5,6,7,8,9,10],[],[],[],0⟩] ?_|refine zqD ?_|fail)
 all_goals first
  |((refine Ends.mk2 zqI [] ?_;simp-dsimp(disch:=try exact vD) only[push_cast,simprocAttr,Tryz.f97];try exact zqF);done)
  |skip
theorem J6(h:B≤A)(h0:0<A)(h1:(lb A).length<2^38):ACall Tryz.prog 127 [.isl z (cI .u32 (lb A)) (lb A).length,.isl z' (cI .u32 (lb B)) (lb B).length] [] 0 (.isl false (cI .u32 (lb (A-B))) (lb (A-B)).length) []:=by
 have hl:0<(lb A).length:=Nat.pos_of_ne_zero fun hc=>by have:=iE.1 (List.length_eq_zero_iff.1 hc);omega
 have:=aiK (z:=z) (z':=z') (a:=lb A) (b:=lb B) lim_lb lim_lb rfl rfl hl (iM h) (by omega) (by rw[aU,aU];omega)
 rw[aU,aU,show((A:Int)-B).toNat=A-B by omega] at this
 exact this
theorem XY(h:D300 x)(h2:D300 y):ACall Tryz.prog 97 [.agg (aa.cells (iV z x)),.agg (aa.cells (iV z' y))] [] 0 (rV (x+y)) []:=by
 have f1:=h.few;have f2:=h2.few
 by_cases hne:decide (x<0)=decide (y<0)
 ·have hp:=QE (z:=z) (z':=z') (A:=x.natAbs) (B:=y.natAbs) (by omega) (by omega)
  have hlen:(lb (x.natAbs+y.natAbs)).length<2^30:=by
   have:x.natAbs+y.natAbs<10^301:=by
    have e:(10:Nat)^301=10^300*10:=by decide+kernel
    have a:=h;have b:=h2
    unfold D300 at a b
    generalize(10:Nat)^300=T at*
    omega
   have:=ER this;omega
  refine Ta hne hp (nE lim_lb rfl hlen ?_)
  rw[aU];unfold sg
  show(if decide (x<0)=true then _ else _)=_
  by_cases hx:x<0
  ·rw[decide_eq_true hx] at hne
   have:=of_decide_eq_true hne.symm
   rw[decide_eq_true hx,if_pos rfl];omega
  ·rw[decide_eq_false hx] at hne
   have:=of_decide_eq_false hne.symm
   rw[decide_eq_false hx,if_neg (by simp)];omega
 ·have hcm:=mF (z:=z) (z':=z') (a:=lb x.natAbs) (b:=lb y.natAbs) lim_lb lim_lb ic ic (by omega) (by omega)
  rw[wM] at hcm
  have hxy:(x<0∧¬y<0)∨(¬x<0∧y<0):=by
   by_cases hx:x<0<;>by_cases hy:y<0
   ·rw[decide_eq_true hx,decide_eq_true hy] at hne;exact absurd rfl hne
   ·exact .inl ⟨hx,hy⟩
   ·exact .inr ⟨hx,hy⟩
   ·rw[decide_eq_false hx,decide_eq_false hy] at hne;exact absurd rfl hne
  by_cases hge:y.natAbs≤x.natAbs
  ·have hm:=J6 (z:=z) (z':=z') (A:=x.natAbs) (B:=y.natAbs) hge (by omega) (by omega)
   have hlen:=iM (show x.natAbs-y.natAbs≤x.natAbs by omega)
   refine adr hne (by unfold gp;repeat' split<;>try omega) hcm hm (nE lim_lb rfl (by omega) ?_)
   rw[aU];unfold sg
   show(if decide (x<0)=true then _ else _)=_
   rcases hxy with⟨hx,hy⟩|⟨hx,hy⟩
   ·rw[decide_eq_true hx,if_pos rfl];omega
   ·rw[decide_eq_false hx,if_neg (by simp)];omega
  ·have hm:=J6 (z:=z') (z':=z) (A:=y.natAbs) (B:=x.natAbs) (by omega) (by omega) (by omega)
   have hlen:=iM (show y.natAbs-x.natAbs≤y.natAbs by omega)
   refine ads hne (by unfold gp;repeat' split<;>try omega) hcm hm (nE lim_lb rfl (by omega) ?_)
   rw[aU];unfold sg
   show(if decide (y<0)=true then _ else _)=_
   rcases hxy with⟨hx,hy⟩|⟨hx,hy⟩
   ·rw[decide_eq_false hy,if_neg (by simp)];omega
   ·rw[decide_eq_true hy,if_pos rfl];omega
theorem Tc{q:Bool} {P:List Int} {zp:Bool}(hq:(nx !=ny)=q)(hp:ACall Tryz.prog 93 [.isl z (cI .u32 Lx) n,.isl z' (cI .u32 Ly) m] [] 0 (.isl zp (cI .u32 P) k) [])(hr:ACall Tryz.prog 92 [.val (.bool q),.isl zp (cI .u32 P) k] [] 0 (.tup [.agg (aa.cells W),.val (.int .i64 e)]) []):
 ACall Tryz.prog 59 [.agg [.val (.bool nx),.isl z (cI .u32 Lx) n],.agg [.val (.bool ny),.isl z' (cI .u32 Ly) m]] [] 0 (.tup [.agg (aa.cells W),.val (.int .i64 e)]) []:=by
 subst hq
 have hp:=PLift.up hp
 rcases Bool.eq_false_or_eq_true nx with hnx|hnx<;>rcases Bool.eq_false_or_eq_true ny with hny|hny
 all_goals subst hnx
 all_goals subst hny
 all_goals have hr:=PLift.up hr
 all_goals(refine ak Tryz.func59 Tryz.ntmps59 rfl ?_)
 all_goals repeat' (first|refine zqN ?_|refine az hp.down ?_|refine az hr.down ?_|refine aK ?_|refine aL ?_|(refine aM ?_ ?_<;>intro hc<;>try exact zqM)|refine zqR 1 [⟨0,[],[8,9,11,12,13,14,15],[],[],0⟩,⟨1,[0],[8,9,11,12,13,14,15],[],[],0⟩,⟨2,[],[6,7,11,12,13,14,15],[],[],0⟩,⟨3,[2],[6,7,11,12,13,14,15],[],[],0⟩,⟨4,[0,1,2,3],[11,12,13,14,15],[],[],0⟩,⟨5,[],[6,7,8,9,10,13,14],[],[],0⟩,⟨6,[5],[6,7,8,9,10,13,14],[],[],0⟩,⟨7,[],[6,7,8,9,10,11,12],[],[],0⟩,⟨8,[7],[6,7,8,9,10,11,12],[],[],0⟩,⟨9,[5,6,7,8],[6,7,8,9,10],[],[],0⟩,⟨10,[0,1,2,3,4,5,6,7,8,9],[],[],[],0⟩,⟨11,[0,1,2,3,4,5,6,7,8,9,10],[18],[],[],0⟩,⟨12,[0,1,2,3,4,5,6,7,8,9,10],[17],[],[],0⟩,⟨13,[0,1,2,3,4,5,6,7,8,9,10,11,12],[],[],[2],0⟩,⟨14,[0,1,2,3,4,5,6,7,8,9,10,11,12,13],[],[],[],0⟩] ?_|refine zqD ?_|fail)
 all_goals first
  |((refine Ends.mk2 zqI [] ?_;simp-dsimp(disch:=try exact vD) only[push_cast,simprocAttr,Tryz.f59];try exact zqF);done)
  |skip
theorem aiN:sg (decide (x<0) !=decide (y<0)) ((x.natAbs*y.natAbs:Nat):Int)=x*y:=by
 obtain⟨a,ha⟩:∃a,x.natAbs=a:=⟨_,rfl⟩
 obtain⟨b,hb⟩:∃b,y.natAbs=b:=⟨_,rfl⟩
 rw[ha,hb]
 unfold sg
 rw[Int.natCast_mul]
 by_cases hx:x<0<;>by_cases hy:y<0
 ·have:x= -(a:Int):=by omega
  have:y= -(b:Int):=by omega
  subst x;subst y
  rw[decide_eq_true hx,decide_eq_true hy,Int.neg_mul,Int.mul_neg,Int.neg_neg];rfl
 ·have:x= -(a:Int):=by omega
  have:y=(b:Int):=by omega
  subst x;subst y
  rw[decide_eq_true hx,decide_eq_false hy,Int.neg_mul];rfl
 ·have:x=(a:Int):=by omega
  have:y= -(b:Int):=by omega
  subst x;subst y
  rw[decide_eq_false hx,decide_eq_true hy,Int.mul_neg];rfl
 ·have:x=(a:Int):=by omega
  have:y=(b:Int):=by omega
  subst x;subst y
  rw[decide_eq_false hx,decide_eq_false hy];rfl
theorem XZ(h:D300 x)(h2:D300 y):ACall Tryz.prog 59 [.agg (aa.cells (iV z x)),.agg (aa.cells (iV z' y))] [] 0 (rV (x*y)) []:=by
 have f1:=h.few;have f2:=h2.few
 have hlen:(lb (x.natAbs*y.natAbs)).length<2^30:=by
  have:x.natAbs*y.natAbs<10^600:=EU (s:=300) (t:=300) (u:=600) h h2 rfl
  have:=ER this;omega
 have e:x.natAbs*(val (lb y.natAbs)).toNat=x.natAbs*y.natAbs:=by rw[aU,Int.toNat_natCast]
 have hp:=adq (z:=z) (z':=z') (A:=x.natAbs) (b:=lb y.natAbs) lim_lb rfl rfl (by omega) (by omega) (by rw[e];omega)
 rw[e] at hp
 exact Tc rfl hp (nE lim_lb rfl hlen (by rw[aU];exact aiN))
