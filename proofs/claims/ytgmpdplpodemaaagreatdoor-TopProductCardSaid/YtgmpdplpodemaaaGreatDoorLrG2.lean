/- Lr2 Lr3 Lr4 Lq1 Lq2 Lr5 Lr6 Fa1. No condition. -/
import Derived.Test.YtgmpdplpodemaaaGreatDoorLpG11
set_option linter.all false
set_option maxHeartbeats 4000000
set_option maxRecDepth 20000
namespace Go.Proofs.YtgmpdplpodemaaaGreatDoor
section
open Go Go.Sy Go.Bp Go.Lm
attribute [local irreducible] AO AL AC OpT ACall Ends DGo aK Thn Blk Nxt
variable {n N M k i m j r q up:Nat} {z z' zq zr neg nx ny:Bool} {l a b u vl L R T Q Lx Ly:List Int} {v x y d f g c rv e:Int}
def agV(z z':Bool)(_:Unit):St:=⟨44,0,[(0,.isl z [] 0),(1,.isl z' [] 0),(5,.isl true [] 0),(6,.val (.int .u64 0)),(7,.val (.int .i64 0))],[]⟩
theorem TI:ACall Tryz.prog 159 [.isl z [] 0,.isl z' [] 0] [] 0 (.isl true [] 0) []:=by
 have ht:=PLift.up (zZ (z:=true) (l:=[]) (n:=0) rfl (by decide))
 rw[show cI .u32 (List.take (trN [] 0) [])=[] from rfl,show trN [] 0=0 from rfl,show cI .u32 []=[] from rfl] at ht
 refine az Tryz.func159 Tryz.ntmps159 rfl ?_
 repeat' (first|(refine ah ?_;refine ak [] ([].length) (agV z z') (λ_=>0) (()) rfl (by unfold agV;exact jZ) ?_;(rintro⟨⟩;(simp-dsimp only[agV];refine zqS ?_)))|refine zqN ?_|refine aM ht.down ?_|refine aY ?_|refine mf ?_|refine mW ?_|refine mY ?_|refine aZ ?_|(refine bf ?_ ?_<;>intro hc<;>try exact zqM))
 all_goals exact aB []
theorem agW:(pL a b i).take i=pL a b i:=List.take_of_length_le (by rw[pL_len];exact Nat.le_refl _)
def Jq(z z':Bool)(a b:List Int)(n m K:Nat)(i:{i:Nat // i<=K+1}):St:=
 ⟨44,0,[(0,.isl z (cI .u32 a) n),(1,.isl z' (cI .u32 b) m),(5,fw i.val 0 1),(6,.val (.int .u64 (pC a b i.val))),(7,.val (.int .i64 i.val))],fA i.val 0 (cI .u32 (pL a b i.val)) 136⟩
theorem agX{K:Nat}(ha:Lim a)(hb:Lim b)(hl:a.length=n)(hm:b.length=m)(hK:Nat.max n m=K)(hp:0<K)(hn:K<2^39):ACall Tryz.prog 159 [.isl z (cI .u32 a) n,.isl z' (cI .u32 b) m] [] 0 (.isl false (cI .u32 (lb (val a+val b).toNat)) (lb (val a+val b).toNat).length) []:=by
 have hnK:n<=K:=by rw[<-hK];exact Nat.le_max_left _ _
 have hmK:m<=K:=by rw[<-hK];exact Nat.le_max_right _ _
 have hK2:∀i,n<=i->m<=i->K<=i:=λi h1 h2=>by rw[<-hK];exact Nat.max_le.2 ⟨h1,h2⟩
 have hT:∀i,n<=i->m<=i->i<=K+1->pC a b i=0->PLift (ACall Tryz.prog 158 [.isl false (cI .u32 (pL a b i)) i] [] 0 (.isl false (cI .u32 (lb (val a+val b).toNat)) (lb (val a+val b).toNat).length) []):=λi h1 h2 h3 h4=>⟨by
  obtain⟨g1,g2⟩:=agR ha hb (i:=i) omgz omgz h4
  have:=uO (z:=false) g1 (n:=i) pL_len omgz
  rw[g2] at this;exact this⟩
 have hlim:=λ(s:Bool) (i:Nat) (h:i<2^50)=>PLift.up (uP (z:=z) ha hl (show n<2^47 by omega) h)
 have hlim2:=λ(s:Bool) (i:Nat) (h:i<2^50)=>PLift.up (uP (z:=z') hb hm (show m<2^47 by omega) h)
 have hend:∀i,K<=i->pC a b (i+1)=0:=λi h=>agS ha hb omgz omgz
 generalize lb (val a+val b).toNat=V at hT⊢
 have zx1:=ae;have zx2:=ae;have zx3:=ae;have zx4:=ae;have zx5:=ae;have hb0:=ae
 refine az Tryz.func159 Tryz.ntmps159 rfl ?_
 have zx6:= @agp;have zx7:= @Ze;have zx8:= @pL_len;have zx9:= @agW;have zx10:= @fF;have zx11:=aA;have zx12:=aA;repeat' (first|((first|refine bT (r:=9) 0 ?_|refine bS (r:=9) 0 ?_);refine o5 ?_;intro K hK;refine hK _ _ ?_;clear hK K)|(refine ah ?_;refine ak [9] ([9].length) (Jq z z' a b n m K) (λi=>K+1-i.val) (⟨0,Nat.zero_le _⟩) rfl (by unfold Jq;exact cO) ?_;(rintro⟨i,hi⟩;have hpr:=nL (a:=a) (b:=b) (i:=i);have hgo:i<K\/(K<=i/\¬pC a b i=0/\i<K+1)\/(K<=i/\pC a b i=0):=(by rcases Nat.lt_or_ge i K with h|h;exact .inl h;by_cases hc:pC a b i=0;exact .inr (.inr ⟨h,hc⟩);refine .inr (.inl ⟨h,hc,Nat.lt_of_le_of_ne hi λe=>hc ?_⟩);rw[e];exact hend K (Nat.le_refl _));rcases Nat.lt_or_ge i n with hin|hin<;>rcases Nat.lt_or_ge i m with him|him<;>rcases hgo with hgo|⟨hgo,zx5,hgo2⟩|⟨hgo,zx5⟩<;>first|(exfalso;omega)|(exfalso;have:=hK2 i hin him;omega)|(have hTi:=hT i hin him hi zx5;have hi0:0<i:=omgz;(simp-dsimp only[Jq];refine zqS ?_))|(obtain⟨zx2,zx3⟩:=agQ (i:=i) ha hb;have zx4:=pL_s (a:=a) (b:=b) (i:=i);have har:=ha.at i;have hbr:=hb.at i;have hr2:=nL (a:=a) (b:=b) (i:=i+1);generalize zx1:a.getD i 0+b.getD i 0+pC a b i=x at*;generalize pX a b i=px at*;rcases Nat.eq_zero_or_pos i with hi0|hi0<;>first|((try(have hcp:0<pC a b i:=omgz));(simp-dsimp only[Jq];refine zqS ?_)))))|(refine aj ?_;refine Nxt.mk [2] (⟨i+1,omgz⟩) rfl (by unfold Jq;exact cO) zqO)|(refine aj ?_;refine Nxt.mk [1] (⟨i+1,omgz⟩) rfl (by unfold Jq;exact cO) zqO)|(refine aj ?_;refine Nxt.mk [0] (⟨i+1,omgz⟩) rfl (by unfold Jq;exact cO) zqO)|refine zqN ?_|refine jq hTi.down ?_|refine jq (hlim true i omgz).down ?_|refine jq (hlim2 true i omgz).down ?_|refine nQ ?_|refine sK ?_|refine sM ?_|refine sO ?_|refine nR ?_|(refine nS ?_ ?_<;>intro hc<;>try exact zqM))
 all_goals exact aB []
def Jr(z z':Bool)(a b:List Int)(n m:Nat)(i:{i:Nat // i<=n}):St:=
 ⟨36,0,[(0,.isl z (cI .u32 a) n),(1,.isl z' (cI .u32 b) m),(5,fw i.val 0 1),(6,.val (.int .u64 (mC a b i.val))),(7,.val (.int .i64 i.val))],fA i.val 0 (cI .u32 (mL a b i.val)) 136⟩
theorem agY(ha:Lim a)(hb:Lim b)(hl:a.length=n)(hm:b.length=m)(hp:0<n)(hle:m<=n)(hn:n<2^39)(hv:val b<=val a):ACall Tryz.prog 198 [.isl z (cI .u32 a) n,.isl z' (cI .u32 b) m] [] 0 (.isl false (cI .u32 (lb (val a-val b).toNat)) (lb (val a-val b).toNat).length) []:=by
 have hT:=PLift.up (by
  obtain⟨g1,g2⟩:=FO ha hb omgz hv
  have:=uO (z:=false) g1 (n:=a.length) p8 omgz
  rw[g2,hl] at this;exact this)
 have hlim:=λ(i:Nat) (h:i<2^50)=>PLift.up (uP (z:=z) ha hl (show n<2^47 by omega) h)
 have hlim2:=λ(i:Nat) (h:i<2^50)=>PLift.up (uP (z:=z') hb hm (show m<2^47 by omega) h)
 generalize lb (val a-val b).toNat=V at hT⊢
 have zx1:=ae;have zx2:=ae;have zx3:=ae;have zx4:=ae
 refine az Tryz.func198 Tryz.ntmps198 rfl ?_
 have zx5:= @mL_z;have zx6:= @mC_0;have zx7:= @p8;have zx8:= @acP;have zx9:= @fF;repeat' (first|((first|refine bT (r:=9) 0 ?_|refine bS (r:=9) 0 ?_);refine sJ ?_;intro K hK;refine hK _ _ ?_;clear hK K)|(refine ah ?_;refine ak [9] ([9].length) (Jr z z' a b n m) (λi=>n-i.val) (⟨0,Nat.zero_le _⟩) rfl (by unfold Jr;exact aO) ?_;(rintro⟨i,hi⟩;have hpr:=wm (a:=a) (b:=b) (i:=i);rcases Nat.lt_or_eq_of_le hi with hil|hil<;>first|(subst hil;(simp-dsimp only[Jr];refine zqS ?_))|(obtain⟨zx2,zx3,he0⟩:=agT (i:=i) ha hb;have zx4:=mL_s (a:=a) (b:=b) (i:=i);have har:=ha.at i;have hbr:=hb.at i;have hr2:=wm (a:=a) (b:=b) (i:=i+1);generalize zx1:a.getD i 0+1000000000-b.getD i 0-mC a b i=x at*;generalize mX a b i=px at*;rcases Nat.eq_zero_or_pos i with hi0|hi0<;>(simp-dsimp only[Jr];refine zqS ?_))))|(refine aj ?_;refine Nxt.mk [2] (⟨i+1,omgz⟩) rfl (by unfold Jr;exact aO) zqO)|(refine aj ?_;refine Nxt.mk [1] (⟨i+1,omgz⟩) rfl (by unfold Jr;exact aO) zqO)|(refine aj ?_;refine Nxt.mk [0] (⟨i+1,omgz⟩) rfl (by unfold Jr;exact aO) zqO)|refine zqN ?_|refine fC hT.down ?_|refine fC (hlim i omgz).down ?_|refine fC (hlim2 i omgz).down ?_|refine mh ?_|refine kg ?_|refine ko ?_|refine kr ?_|refine mo ?_|(refine mq ?_ ?_<;>intro hc<;>try exact zqM))
 all_goals exact aB []
def rtT(a:List Int)(d:Int)(up i:Nat):List Int:=List.replicate up 0++scL a d i
theorem ajL:rtT a d up 0=List.replicate up 0:=List.append_nil _
theorem ajM:rtT a d up (i+1)=rtT a d up i++[(scC a d i+a.getD i 0*d)%1000000000]:=by unfold rtT;rw[FU,List.append_assoc]
theorem agZ:(rtT a d up i).take (up+i)=rtT a d up i:=List.take_of_length_le (by unfold rtT;rw[List.length_append,List.length_replicate,jc];exact Nat.le_refl _)
theorem Dz:(rtT a d up i).length=up+i:=by unfold rtT;rw[List.length_append,List.length_replicate,jc]
def Js(z:Bool)(a:List Int)(n:Nat)(d:Int)(up:Nat)(i:{i:Nat // i<=n+1}):St:=
 ⟨40,0,[(0,.isl z (cI .u32 a) n),(1,.val (.int .u64 d)),(7,.sl 0 0 (up+i.val) 1),(8,.val (.int .u64 (scC a d i.val))),(9,.val (.int .i64 i.val))],[(0,some (.cells (cI .u32 (rtT a d up i.val)) 136))]⟩
theorem Cc(ha:Lim a)(hl:a.length=n)(hd:0<=d/\d<1000000000)(hn:n<2^29)(hup:up<2^29):ACall Tryz.prog 160 [.isl z (cI .u32 a) n,.val (.int .u64 d),.val (.int .i64 up)] [] 0 (.isl false (cI .u32 (lb (bp up*(val a*d)).toNat)) (lb (bp up*(val a*d)).toNat).length) []:=by
 have hT:∀i,n<=i->i<=n+1->scC a d i=0->PLift (ACall Tryz.prog 158 [.isl false (cI .u32 (rtT a d up i)) (up+i)] [] 0 (.isl false (cI .u32 (lb (bp up*(val a*d)).toNat)) (lb (bp up*(val a*d)).toNat).length) []):=λi h1 h2 h3=>⟨by
  obtain⟨g1,g2⟩:=ZI (k:=up) ha hd (i:=i) omgz h3
  have:=uO (z:=false) (l:=rtT a d up i) g1 (n:=up+i) Dz omgz
  rw[show val (rtT a d up i)=_ from g2] at this;exact this⟩
 have hlim:=λ(i:Nat) (h:i<2^50)=>PLift.up (uP (z:=z) ha hl (show n<2^47 by omega) h)
 have hend:scC a d (n+1)=0:=ZJ ha hd omgz
 have zx8:=ajL (a:=a) (d:=d) (up:=up)
 generalize lb (bp up*(val a*d)).toNat=V at hT⊢
 have zx1:=ae;have zx2:=ae;have zx3:=ae;have zx4:=ae;have zx5:=ae;have zx6:=ae;have zx7:=ae
 refine az Tryz.func160 Tryz.ntmps160 rfl ?_
 have zx9:= @FT;have zx10:= @Dz;have zx11:= @agZ;have zx12:=aA;repeat' (first|((first|refine bT (r:=9) 0 ?_|refine bS (r:=9) 0 ?_);refine o5 ?_;intro K hK;refine hK _ _ ?_;clear hK K)|(refine ah ?_;refine ak [0] ([0].length) (Js z a n d up) (λi=>n+1-i.val) (⟨0,Nat.zero_le _⟩) rfl (by unfold Js;exact cO) ?_;(rintro⟨i,hi⟩;have hcr:=qZ (i:=i) ha hd;have hgo:i<n\/(n<=i/\0<scC a d i/\i<n+1)\/(n<=i/\scC a d i=0):=(by rcases Nat.lt_or_ge i n with h|h;exact .inl h;by_cases hc:scC a d i=0;exact .inr (.inr ⟨h,hc⟩);refine .inr (.inl ⟨h,omgz,Nat.lt_of_le_of_ne hi λe=>hc ?_⟩);rw[e];exact hend);rcases hgo with hgo|⟨hgo,hcp,hgo2⟩|⟨hgo,zx5⟩<;>first|(have hTi:=hT i hgo hi zx5;(simp-dsimp only[Js];refine zqS ?_))|(have har:=ha.at i;have hmr:=lH har hd;have zx6:=BS (u:=a) (d:=d) (i:=i);have zx4:=ajM (a:=a) (d:=d) (up:=up) (i:=i);have hrl:=Dz (a:=a) (d:=d) (up:=up) (i:=i);have zx1:a.getD i 0*d+scC a d i=scC a d i+a.getD i 0*d:=Int.add_comm _ _;generalize zx7:a.getD i 0*d=pp at*;(simp-dsimp only[Js];refine zqS ?_))))|(refine aj ?_;refine Nxt.mk [2] (⟨i+1,omgz⟩) rfl (by unfold Js;exact cO) zqO)|(refine aj ?_;refine Nxt.mk [1] (⟨i+1,omgz⟩) rfl (by unfold Js;exact cO) zqO)|(refine aj ?_;refine Nxt.mk [0] (⟨i+1,omgz⟩) rfl (by unfold Js;exact cO) zqO)|refine zqN ?_|refine jq hTi.down ?_|refine jq (hlim i omgz).down ?_|refine nQ ?_|refine sK ?_|refine sM ?_|refine sO ?_|refine nR ?_|(refine nS ?_ ?_<;>intro hc<;>try exact zqM))
 all_goals exact aB []
end
section
open Go Go.Sy Go.Bp Go.Lm
attribute [local irreducible] AO AL AC OpT ACall Ends DGo aK Thn Blk Nxt
variable {n N M k i m j r q up A B:Nat} {z z' zq zr neg nx ny:Bool} {l a b u vl L R T Q Lx Ly:List Int} {v x y d f g c rv e:Int} {W W2 X Y:IV}
theorem ZN(h1:(lb A).length<2^38)(h2:(lb B).length<2^38):ACall Tryz.prog 159 [.isl z (cI .u32 (lb A)) (lb A).length,.isl z' (cI .u32 (lb B)) (lb B).length] [] 0 (.isl (A+B==0) (cI .u32 (lb (A+B))) (lb (A+B)).length) []:=by
 by_cases h:A+B=0
 ·have e1:A=0:=by omega
  have e2:B=0:=by omega
  subst e1;subst e2;exact TI
 ·have e0:(A+B==0)=false:=by simpa using h
  have hK:0<Nat.max (lb A).length (lb B).length:=by
   refine Nat.pos_of_ne_zero λhc=>h ?_
   have a1:(lb A).length<=0:=Nat.le_trans (Nat.le_max_left _ _) (Nat.le_of_eq hc)
   have a2:(lb B).length<=0:=Nat.le_trans (Nat.le_max_right _ _) (Nat.le_of_eq hc)
   have e1:=iR.1 (List.length_eq_zero_iff.1 (show(lb A).length=0 by omega))
   have e2:=iR.1 (List.length_eq_zero_iff.1 (show(lb B).length=0 by omega))
   omega
  have:=agX (z:=z) (z':=z') (a:=lb A) (b:=lb B) lim_lb lim_lb rfl rfl rfl hK (Nat.max_lt.2 ⟨omgz,omgz⟩)
  rw[aS,aS,show((A:Int)+B).toNat=A+B by omega] at this
  rw[e0];exact this
def rmP(A:Nat)(b:List Int)(i:Nat):Nat:=A*(val (b.take i)).toNat
theorem ajN:rmP A b 0=0:=by unfold rmP;rw[kM];rfl
theorem ajO(hb:Lim b):rmP A b (i+1)=rmP A b i+(bp i*((A:Int)*b.getD i 0)).toNat:=by
 unfold rmP
 have h1:=(bA (l:=b.take i) hb.take).1
 have h2:=(hb.at i).1
 have h3:=iH (k:=i)
 rw[fU]
 obtain⟨w,hw⟩:=Int.eq_ofNat_of_zero_le h1
 obtain⟨x,hx⟩:=Int.eq_ofNat_of_zero_le h2
 obtain⟨p,hp⟩:=Int.eq_ofNat_of_zero_le (Int.le_of_lt h3)
 rw[hw,hx,hp]
 have e1:((w:Int)+(p:Int)*(x:Int)).toNat=w+p*x:=by rw[<-Int.natCast_mul,<-Int.natCast_add,Int.toNat_natCast]
 have e2:((p:Int)*((A:Int)*(x:Int))).toNat=p*(A*x):=by rw[<-Int.natCast_mul,<-Int.natCast_mul,Int.toNat_natCast]
 rw[e1,e2,Int.toNat_natCast,Nat.mul_add,Nat.mul_left_comm A p x]
theorem ag0(hb:Lim b)(h:i<=b.length):rmP A b i<=A*(val b).toNat:=by
 unfold rmP
 refine Nat.mul_le_mul (Nat.le_refl _) ?_
 have e:=gu (l:=b) i
 have h1:=(bA (l:=b.drop i) hb.drop).1
 have h3:=iH (k:=min i b.length)
 have:=Int.mul_nonneg (Int.le_of_lt h3) h1
 omega
theorem ZO:rmP A b b.length=A*(val b).toNat:=by unfold rmP;rw[List.take_length]
def rmI(z z':Bool)(A:Nat)(b:List Int)(n m:Nat)(i:{i:Nat // i<=m}):St:=
 ⟨24,0,[(0,.isl z (cI .u32 (lb A)) n),(1,.isl z' (cI .u32 b) m),(5,.isl (rmP A b i.val==0) (cI .u32 (lb (rmP A b i.val))) (lb (rmP A b i.val)).length),(6,.val (.int .i64 i.val))],[]⟩
theorem ZP(hb:Lim b)(hn:(lb A).length=n)(hm:b.length=m)(hn2:n<2^28)(hm2:m<2^28)(hP:(lb (A*(val b).toNat)).length<2^38):
 ACall Tryz.prog 111 [.isl z (cI .u32 (lb A)) n,.isl z' (cI .u32 b) m] [] 0 (.isl (A*(val b).toNat==0) (cI .u32 (lb (A*(val b).toNat))) (lb (A*(val b).toNat)).length) []:=by
 have hti:=λ(i:Nat) (h:i<m)=>PLift.up (by
  have:=Cc (z:=z) (a:=lb A) (n:=n) (d:=b.getD i 0) (up:=i) lim_lb hn (hb.at i) omgz omgz
  rw[aS] at this;exact this)
 have hti:=PLift.up hti
 have had:∀i,i<m->PLift (ACall Tryz.prog 159 [.isl (rmP A b i==0) (cI .u32 (lb (rmP A b i))) (lb (rmP A b i)).length,.isl false (cI .u32 (lb (bp i*((A:Int)*b.getD i 0)).toNat)) (lb (bp i*((A:Int)*b.getD i 0)).toNat).length] [] 0 (.isl (rmP A b (i+1)==0) (cI .u32 (lb (rmP A b (i+1)))) (lb (rmP A b (i+1))).length) []):=λi hi=>⟨by
  have l0:=ag0 (A:=A) hb (show i+1<=b.length by omega)
  have e:=ajO (A:=A) hb (i:=i)
  have l1:=jT (show rmP A b i<=A*(val b).toNat by omega)
  have l2:=jT (show(bp i*((A:Int)*b.getD i 0)).toNat<=A*(val b).toNat by omega)
  rw[e]
  exact ZN omgz omgz⟩
 have e1:=ZO (A:=A) (b:=b)
 rw[hm] at e1
 rw[<-e1]
 have e0:=ajN (A:=A) (b:=b)
 have zx2:(rmP A b 0==0)=true:=by rw[e0];rfl
 have zx3:cI .u32 (lb (rmP A b 0))=[]:=by rw[e0];rfl
 have zx4:(lb (rmP A b 0)).length=0:=by rw[e0];rfl
 clear e1 hP e0
 refine az Tryz.func111 Tryz.ntmps111 rfl ?_
 have zx1:= @gd0;have zx5:=aA;have zx6:=aA;repeat' (first|(refine ah ?_;refine ak [] ([].length) (rmI z z' A b n m) (λi=>m-i.val) (⟨0,Nat.zero_le _⟩) rfl (by unfold rmI;exact dK) ?_;(rintro⟨i,hi⟩;have hbr:=hb.at i;rcases Nat.lt_or_eq_of_le hi with hil|hil<;>first|(subst hil;(simp-dsimp only[rmI];refine zqS ?_))|(simp-dsimp only[rmI];refine zqS ?_)))|(refine aj ?_;refine Nxt.mk [] (⟨i+1,omgz⟩) rfl (by unfold rmI;exact dK) zqO)|refine zqN ?_|refine o7 (hti.down i hil).down ?_|refine o7 (had i hil).down ?_|refine kI ?_|refine kJ ?_|(refine kK ?_ ?_<;>intro hc<;>try exact zqM))
 all_goals exact aB []
theorem ZQ(h:B<=A)(h0:0<A)(h1:(lb A).length<2^38):ACall Tryz.prog 198 [.isl z (cI .u32 (lb A)) (lb A).length,.isl z' (cI .u32 (lb B)) (lb B).length] [] 0 (.isl false (cI .u32 (lb (A-B))) (lb (A-B)).length) []:=by
 have hl:0<(lb A).length:=Nat.pos_of_ne_zero λhc=>by have:=iR.1 (List.length_eq_zero_iff.1 hc);omega
 have:=agY (z:=z) (z':=z') (a:=lb A) (b:=lb B) lim_lb lim_lb rfl rfl hl (jT h) omgz (by rw[aS,aS];omega)
 rw[aS,aS,show((A:Int)-B).toNat=A-B by omega] at this
 exact this
theorem NR{q:Bool} {P:List Int} {zp:Bool}(hq:(nx !=ny)=q)(hp:ACall Tryz.prog 111 [.isl z (cI .u32 Lx) n,.isl z' (cI .u32 Ly) m] [] 0 (.isl zp (cI .u32 P) k) [])(hr:ACall Tryz.prog 110 [.val (.bool q),.isl zp (cI .u32 P) k] [] 0 (.tup [.agg (aa.cells W),.val (.int .i64 e)]) []):
 ACall Tryz.prog 59 [.agg [.val (.bool nx),.isl z (cI .u32 Lx) n],.agg [.val (.bool ny),.isl z' (cI .u32 Ly) m]] [] 0 (.tup [.agg (aa.cells W),.val (.int .i64 e)]) []:=by
 subst hq
 have hp:=PLift.up hp
 rcases Bool.eq_false_or_eq_true nx with hnx|hnx<;>rcases Bool.eq_false_or_eq_true ny with hny|hny
 all_goals subst hnx
 all_goals subst hny
 all_goals have hr:=PLift.up hr
 all_goals(refine az Tryz.func59 Tryz.ntmps59 rfl ?_)
 all_goals repeat' (first|refine zqN ?_|refine aM hp.down ?_|refine aM hr.down ?_|refine aY ?_|refine aZ ?_|(refine bf ?_ ?_<;>intro hc<;>try exact zqM)|refine zqR [(1,13,[2],0)] ?_|refine zqD ?_|fail)
 all_goals exact aB []
theorem ag1:sg (decide (x<0) !=decide (y<0)) ((x.natAbs*y.natAbs:Nat):Int)=x*y:=by
 obtain⟨a,ha⟩:∃a,x.natAbs=a:=⟨_,rfl⟩
 obtain⟨b,hb⟩:∃b,y.natAbs=b:=⟨_,rfl⟩
 rw[ha,hb]
 unfold sg
 rw[Int.natCast_mul]
 by_cases hx:x<0<;>by_cases hy:y<0
 ·have:x= -(a:Int):=by omega
  have:y= -(b:Int):=by omega
  subst x;subst y
  rw[decide_eq_true hx,decide_eq_true hy,Int.neg_mul,Int.mul_neg,Int.neg_neg];rfl
 ·have:x= -(a:Int):=by omega
  have:y=(b:Int):=by omega
  subst x;subst y
  rw[decide_eq_true hx,decide_eq_false hy,Int.neg_mul];rfl
 ·have:x=(a:Int):=by omega
  have:y= -(b:Int):=by omega
  subst x;subst y
  rw[decide_eq_false hx,decide_eq_true hy,Int.mul_neg];rfl
 ·have:x=(a:Int):=by omega
  have:y=(b:Int):=by omega
  subst x;subst y
  rw[decide_eq_false hx,decide_eq_false hy];rfl
theorem TJ(h:D300 x)(h2:D300 y):ACall Tryz.prog 59 [.agg (aa.cells (iV z x)),.agg (aa.cells (iV z' y))] [] 0 (rV (x*y)) []:=by
 have f1:=h.few;have f2:=h2.few
 have hlen:(lb (x.natAbs*y.natAbs)).length<2^30:=by
  have:x.natAbs*y.natAbs<10^600:=zX (s:=300) (t:=300) (u:=600) h h2 rfl
  have:=Dm this;omega
 have e:x.natAbs*(val (lb y.natAbs)).toNat=x.natAbs*y.natAbs:=by rw[aS,Int.toNat_natCast]
 have hp:=ZP (z:=z) (z':=z') (A:=x.natAbs) (b:=lb y.natAbs) lim_lb rfl rfl omgz omgz (by rw[e];omega)
 rw[e] at hp
 exact NR rfl hp (Cb lim_lb rfl hlen (by rw[aS];exact ag1))
end
section
open Go Go.Sy Go.Bp Go.Lm
attribute [local irreducible] AO AL AC OpT ACall Ends DGo aK Thn Blk Nxt
variable {n N M k i m j r q up A B V:Nat} {z z' zq zr neg nx ny:Bool} {l a b u vl L R T Q Lx Ly:List Int} {v x y d f g c rv e:Int} {W W2 X Y:IV}
def rR(a:List Int)(V i:Nat):Nat:=(val (a.drop i)%(V:Int)).toNat
theorem rq(hV:0<V):((rR a V i:Nat):Int)=val (a.drop i)%(V:Int):=by
 unfold rR
 exact Int.toNat_of_nonneg (Int.emod_nonneg _ omgz)
theorem ag2(h:a.length<=i):rR a V i=0:=by unfold rR;rw[List.drop_eq_nil_of_le h,jO,Int.zero_emod];rfl
def rW(a:List Int)(V i:Nat):Nat:=(a.getD i 0+1000000000*((rR a V (i+1):Nat):Int)).toNat
theorem xR(ha:Lim a):((rW a V i:Nat):Int)=a.getD i 0+1000000000*((rR a V (i+1):Nat):Int):=by
 have:=(ha.at i).1
 unfold rW;omega
theorem rR_s(ha:Lim a)(hi:i<a.length)(hV:0<V):rR a V i=rW a V i%V:=by
 have h:=agP (V:=(V:Int)) ha hi omgz
 rw[<-rq hV,<-rq hV,<-xR ha,<-Int.natCast_emod] at h
 exact Int.ofNat.inj h
theorem rW_q(ha:Lim a)(hi:i<a.length)(hV:0<V):(a.getD i 0+1000000000*(val (a.drop (i+1))%(V:Int)))/(V:Int)=((rW a V i/V:Nat):Int):=by
 rw[<-rq hV,<-xR ha,Int.natCast_ediv]
theorem ajP(ha:Lim a)(hV:0<V):rW a V i<V*1000000000:=by
 have h:=xR (V:=V) (i:=i) ha
 have h2:=rq (a:=a) (i:=i+1) hV
 have h3:=Int.emod_lt_of_pos (val (a.drop (i+1))) (show(0:Int)<V by omega)
 have:=(ha.at i).2
 omega
theorem ajQ(ha:Lim a)(hi:i<a.length)(hV:0<V):(rW a V i:Int)<=val a:=by
 have h:=xR (V:=V) (i:=i) ha
 have h2:=rq (a:=a) (i:=i+1) hV
 have h3:=(bA (l:=a.drop (i+1)) ha.drop).1
 have h4:=Int.emod_lt_of_pos (val (a.drop (i+1))) (show(0:Int)<V by omega)
 have h5:val (a.drop (i+1))%(V:Int)<=val (a.drop (i+1)):=by
  have e:=Int.mul_ediv_add_emod (val (a.drop (i+1))) V
  have:=Int.mul_nonneg (show(0:Int)<=V by omega) (Int.ediv_nonneg h3 (show(0:Int)<=V by omega))
  omega
 have h6:=gI hi
 have h7:=gu (l:=a) i
 have h8:=iH (k:=min i a.length)
 have h9:=(bA (l:=a.take i) ha.take).1
 have h10:1*val (a.drop i)<=bp (min i a.length)*val (a.drop i):=Int.mul_le_mul_of_nonneg_right omgz (bA (l:=a.drop i) ha.drop).1
 omega
def fl(k n:Nat):Bool:=k==n
theorem fl_n:fl n n=true:=by unfold fl;simp
theorem fl_s(h:k<n):fl k n=false:=by unfold fl;simp;omega
def NS(z z':Bool)(a b:List Int)(n m:Nat)(V:Nat)(k:{k:Nat // k<=n}):St:=
 ⟨63,0,[(0,.isl z (cI .u32 a) n),(1,.isl z' (cI .u32 b) m),(6,.sl 0 0 n 1),(7,.isl (fl k.val n) (cI .u32 (lb (rR a V k.val))) (lb (rR a V k.val)).length),(8,.val (.int .i64 ((k.val:Int)-1)))],[(0,some (.cells (cI .u32 (rqv a V n k.val)) 136))]⟩
def rbI(z z':Bool)(a b Q:List Int)(n m:Nat)(V Wn i T:Nat)(p:{p:Nat×Nat // 1<=p.1/\p.1<p.2/\p.2<=T/\V*p.1<=Wn/\Wn<V*p.2}):St:=
 ⟨63,0,[(0,.isl z (cI .u32 a) n),(1,.isl z' (cI .u32 b) m),(6,.sl 0 0 n 1),(7,.isl false (cI .u32 (lb Wn)) (lb Wn).length),(8,.val (.int .i64 i)),(9,.val (.int .u64 p.val.1)),(10,.val (.int .u64 p.val.2))],[(0,some (.cells (cI .u32 Q) 136))]⟩
theorem ZR(ha:Lim a)(hn:a.length=n)(hb:Lim b)(hm:b.length=m)(htb:Tr b)(hv:val b=(V:Int))(hV:0<V)(hn2:n<2^27)(hm2:m<2^27):
 ACall Tryz.prog 157 [.isl z (cI .u32 a) n,.isl z' (cI .u32 b) m] [] 0 (.tup [.isl false (cI .u32 (lb (val a/(V:Int)).toNat)) (lb (val a/(V:Int)).toNat).length,.isl (fl 0 n) (cI .u32 (lb (rR a V 0))) (lb (rR a V 0)).length]) []:=by
 have hbl:b=lb V:=by
  have:=SH hb htb
  rw[hv,Int.toNat_natCast] at this;exact this
 have hln:∀x:Nat,(x:Int)<=val a->(lb x).length<=n:=λx zx8=>by
  have hr:=bA ha
  rw[hn] at hr
  refine Decidable.not_not.1 λhc=>?_
  have:=KV (l:=lb x) lim_lb jC (λe=>by rw[e] at hc;simp at hc)
  rw[aS] at this
  have h2:=BR (j:=n) (k:=(lb x).length-1) omgz
  omega
 have hlR:∀i,(lb (rR a V i)).length<=m:=λi=>by
  have h1:=rq (a:=a) (i:=i) hV
  have h2:=Int.emod_lt_of_pos (val (a.drop i)) (show(0:Int)<V by omega)
  rw[<-hm,hbl];exact jT omgz
 have htr:∀i,i<n->PLift (ACall Tryz.prog 158 [.sl 0 0 (1+(lb (rR a V (i+1))).length) 1] [.cells (.val (.int .u32 (a.getD i 0))::cI .u32 (lb (rR a V (i+1)))) 136] 0 (.isl false (cI .u32 (lb (rW a V i))) (lb (rW a V i)).length) []):=λi hi=>⟨by
  have hl:=hlR (i+1)
  have hcl:=ZH (n:=rR a V (i+1)) (ha.at i)
  have:=Ca (l:=a.getD i 0::lb (rR a V (i+1))) (n:=1+(lb (rR a V (i+1))).length) hcl.1 (by rw[List.length_cons];omega) omgz
  rw[hcl.2] at this
  exact this⟩
 have hWl:∀i,i<n->(lb (rW a V i)).length<=n:=λi hi=>hln _ (ajQ ha omgz hV)
 have hcm:∀X:Nat,(lb X).length<2^30->PLift (ACall Tryz.prog 197 [.isl false (cI .u32 (lb X)) (lb X).length,.isl z' (cI .u32 b) m] [] 0 (.val (.int .i64 (fE X V))) []):=λX hX=>⟨by
  have:=wW (z:=false) (z':=z') (a:=lb X) (b:=b) lim_lb hb jC htb omgz omgz
  rw[hm,show oI (lb X) b=fE X V by unfold oI fE;rw[aS,hv]] at this
  exact this⟩
 have htm:∀d:Nat,d<1000000000->PLift (ACall Tryz.prog 160 [.isl z' (cI .u32 b) m,.val (.int .u64 d),.val (.int .i64 0)] [] 0 (.isl false (cI .u32 (lb (V*d))) (lb (V*d)).length) []):=λd hd=>⟨by
  have:=Cc (z:=z') (a:=b) (n:=m) (d:=(d:Int)) (up:=0) hb hm ⟨omgz,omgz⟩ omgz (by decide)
  rw[hv,SF,Int.one_mul,<-Int.natCast_mul,Int.toNat_natCast] at this
  exact this⟩
 have hcm2:∀X Y:Nat,(lb X).length<2^30->(lb Y).length<2^30->PLift (ACall Tryz.prog 197 [.isl false (cI .u32 (lb X)) (lb X).length,.isl false (cI .u32 (lb Y)) (lb Y).length] [] 0 (.val (.int .i64 (fE X Y))) []):=λX Y hX hY=>⟨by
  have:=wW (z:=false) (z':=false) (a:=lb X) (b:=lb Y) lim_lb lim_lb jC jC omgz omgz
  rw[show oI (lb X) (lb Y)=fE X Y by unfold oI fE;rw[aS,aS]] at this
  exact this⟩
 have hVd:∀d:Nat,d<1000000000->(lb (V*d)).length<2^30:=λd hd=>by
  have hr:=bA hb
  rw[hv,hm] at hr
  refine Nat.lt_of_le_of_lt (m:=m+1) (Decidable.not_not.1 λhc=>?_) omgz
  have:=KV (l:=lb (V*d)) lim_lb jC (λe=>by rw[e] at hc;simp at hc)
  rw[aS] at this
  have h2:=BR (j:=m+1) (k:=(lb (V*d)).length-1) omgz
  rw[vZ] at h2
  have h3:V*d<=V*1000000000:=Nat.mul_le_mul (Nat.le_refl _) omgz
  omega
 have hq0:=ZG (V:=(V:Int)) ha hn omgz
 have hqt:=PLift.up (by
  have:=uO (z:=false) (l:=rqv a V n 0) ZF (n:=n) (Ll (Nat.zero_le _)) omgz
  rw[hq0] at this;exact this)
 have hqset:∀i,i<n->(rqv a V n (i+1)).set i ((rW a V i/V:Nat):Int)=rqv a V n i:=λi hi=>Lp ha hn hi omgz (rW_q ha omgz hV)
 have hqsame:∀i,i<n->rW a V i<V->rqv a V n i=rqv a V n (i+1):=λi hi h=>(TH ha hn hi omgz (by rw[rW_q ha omgz hV,Nat.div_eq_of_lt h];rfl)).symm
 have hql:∀i,i<=n->(rqv a V n i).length=n:=λi hi=>Ll hi
 have hRs:∀i,i<n->rR a V i=rW a V i%V:=λi hi=>rR_s ha omgz hV
 have hWb:=λ(i:Nat)=>ajP (i:=i) ha hV
 have hsb:∀X Y:Nat,Y<=X->0<X->(lb X).length<2^30->PLift (ACall Tryz.prog 198 [.isl false (cI .u32 (lb X)) (lb X).length,.isl false (cI .u32 (lb Y)) (lb Y).length] [] 0 (.isl false (cI .u32 (lb (X-Y))) (lb (X-Y)).length) []):=λX Y h1 h2 h3=>⟨ZQ h1 h2 omgz⟩
 have hrt:rR a V n=0:=ag2 omgz
 have zx2:cI .u32 (lb (rR a V n))=[]:=by rw[hrt];rfl
 have zx3:(lb (rR a V n)).length=0:=by rw[hrt];rfl
 have zx4:rqv a V n n=List.replicate n 0:=ZE
 have zx5:(rqv a V n 0).take n=rqv a V n 0:=List.take_of_length_le (by rw[hql 0 (Nat.zero_le _)];exact Nat.le_refl _)
 generalize lb (val a/(V:Int)).toNat=QQ at*
 clear hq0 hbl hln hv
 have zx8:=ae;have zx9:=ae;have zx10:=ae;have zx11:=ae;have zx12:=ae;have zx13:=ae;have zx14:=ae;have zx15:=ae;have zx16:=ae;have zx17:=ae;have zx18:=ae
 refine az Tryz.func157 Tryz.ntmps157 rfl ?_
 have zx1:= @gd0;have zx6:= @fl_n;have zx7:= @fl_s;have zx19:= @a1s;have zx20:=aA;repeat' (first|((first|refine bT (r:=16) 0 ?_|refine bS (r:=16) 0 ?_);refine Kj ?_;intro K hK;refine hK _ _ ?_;clear hK K)|(refine ah ?_;refine ak [0] ([0].length) (rbI z z' a b Qa n m V Wn i T) (λp=>p.val.2-p.val.1) (⟨(1,T),hp0⟩) rfl (by unfold rbI;exact mr) ?_;(rintro⟨⟨lo,hi⟩,q1,q2,q3,q4,q5⟩;dsimp only at q1 q2 q3 q4 q5;rcases Nat.lt_or_ge 1 (hi-lo) with hgo|hgo<;>first|(obtain⟨mid,hmd⟩:∃mid,(lo+hi)/2=mid:=⟨_,rfl⟩;have zx11:((lo:Int)+(hi:Int))/2=(mid:Int):=omgz;have hm1:lo<mid/\mid<hi:=omgz;have htm1:=htm mid omgz;have hvl:=hVd mid omgz;have hcm3:=hcm2 (V*mid) Wn hvl hWn;rcases Nat.lt_or_ge Wn (V*mid) with hc|hc<;>first|(have zx15:fE ((V*mid:Nat):Int) (Wn:Int)=1:=(by unfold fE;rw[if_neg omgz,if_pos omgz]);rw[zx15] at hcm3;(simp-dsimp only[rbI];refine zqS ?_))|(have zx15:fE ((V*mid:Nat):Int) (Wn:Int)<=0:=(by unfold fE;rw[if_neg (by omega:¬(Wn:Int)<((V*mid:Nat):Int))];split<;>decide);generalize fE ((V*mid:Nat):Int) (Wn:Int)=cc at zx15 hcm3;(simp-dsimp only[rbI];refine zqS ?_)))|(have hhi:hi=lo+1:=omgz;have hqd:Wn/V=lo:=(by rw[Nat.div_eq_of_lt_le (by rw[Nat.mul_comm];exact q4) (by rw[Nat.mul_comm,<-hhi];exact q5)]);have zx12:=hseti;rw[hqd] at zx12;have htm2:=htm lo omgz;have hsb1:=hsb Wn (V*lo) q4 omgz hWn;have zx18:Wn-V*lo=rRi:=(by have:=Nat.div_add_mod Wn V;rw[hqd] at this;omega);rw[zx18] at hsb1;(simp-dsimp only[rbI];refine zqS ?_))))|(refine aj ?_;refine Nxt.mk [0] (⟨(mid,hi),by dsimp only;omega,by dsimp only;omega,q3,by dsimp only;omega,q5⟩) rfl (by unfold rbI;exact mr) zqO)|(refine aj ?_;refine Nxt.mk [0] (⟨(lo,mid),q1,by dsimp only;omega,by dsimp only;omega,q4,by dsimp only;omega⟩) rfl (by unfold rbI;exact mr) zqO)|(refine ah ?_;refine ak [0] ([0].length) (NS z z' a b n m V) (λk=>k.val) (⟨n,Nat.le_refl _⟩) rfl (by unfold NS;exact mr) ?_;(rintro⟨k,hk⟩;rcases Nat.eq_zero_or_pos k with hk0|hk0<;>first|(subst hk0;(simp-dsimp only[NS];refine zqS ?_))|(obtain⟨i,rfl⟩:∃i,k=i+1:=⟨k-1,omgz⟩;have hil:i<n:=omgz;have hai:=ha.at i;have htri:=htr i hil;have hWn':=hWl i hil;have hRl:=hlR (i+1);have hWn:(lb (rW a V i)).length<2^30:=omgz;have hcm1:=hcm (rW a V i) hWn;have hql1:=hql (i+1) hk;have hwb:=hWb i;have zx14:=hRs i hil;have hseti:=hqset i hil;have hqsm:=hqsame i hil;generalize rW a V i=Wn at*;rcases Nat.lt_or_ge Wn V with zx17|zx17<;>first|(have zx16:fE (Wn:Int) (V:Int)= -1:=(by unfold fE;rw[if_pos omgz]);rw[zx16] at hcm1;have zx13:=hqsm zx17;rw[Nat.mod_eq_of_lt zx17] at zx14;(simp-dsimp only[NS];refine zqS ?_))|(have zx16:0<=fE (Wn:Int) (V:Int):=(by unfold fE;rw[if_neg omgz];split<;>decide);generalize fE (Wn:Int) (V:Int)=cy at zx16 hcm1;obtain⟨rRi,hrri⟩:∃x,Wn%V=x:=⟨_,rfl⟩;rw[hrri] at zx14;obtain⟨T,hTT⟩:∃T:Nat,1000000000=T:=⟨_,rfl⟩;have hTI:(1000000000:Int)=(T:Int):=omgz;have hp0:1<=1/\1<T/\T<=T/\V*1<=Wn/\Wn<V*T:=(by rw[<-hTT];exact⟨Nat.le_refl _,by decide,Nat.le_refl _,omgz,hwb⟩);generalize hQa:rqv a (V:Int) n (i+1)=Qa at*;(simp-dsimp only[NS];refine zqS ?_)))))|(refine aj ?_;refine Nxt.mk [0] (⟨i,omgz⟩) rfl (by unfold NS;exact mr) zqO)|refine zqN ?_|((first|refine ay rfl (λK hK=>?_)|refine au (λK hK=>?_));(first|refine ai (f:=158) (dst:=some 29) [2] 0 false ?_|refine ai (f:=158) (dst:=some 61) [] 0 false ?_|refine ai (f:=197) (dst:=some 32) [] 0 false ?_|refine ai (f:=197) (dst:=some 46) [] 0 false ?_|refine ai (f:=160) (dst:=some 44) [] 0 false ?_|refine ai (f:=160) (dst:=some 58) [] 0 false ?_|refine ai (f:=198) [] 0 false ?_);refine QF ?_;(first|refine⟨_,_,htri.down,?_⟩|refine⟨_,_,hqt.down,?_⟩|refine⟨_,_,hcm1.down,?_⟩|refine⟨_,_,hcm3.down,?_⟩|refine⟨_,_,htm1.down,?_⟩|refine⟨_,_,htm2.down,?_⟩|refine⟨_,_,hsb1.down,?_⟩);refine Kj ?_;apply hK;clear hK K)|refine QB ?_|refine QC ?_|refine QD ?_|refine QE ?_|refine QG ?_|(refine QH ?_ ?_<;>intro hc<;>try exact zqM))
 all_goals exact aB []
theorem Ls(h1:(lb A).length<2^27)(h2:(lb B).length<2^27)(h0:0<B):ACall Tryz.prog 157 [.isl z (cI .u32 (lb A)) (lb A).length,.isl z' (cI .u32 (lb B)) (lb B).length] [] 0 (.tup [.isl false (cI .u32 (lb (A/B))) (lb (A/B)).length,.isl (A==0) (cI .u32 (lb (A%B))) (lb (A%B)).length]) []:=by
 have:=ZR (z:=z) (z':=z') (a:=lb A) (b:=lb B) (V:=B) lim_lb rfl lim_lb rfl jC aS h0 h1 h2
 have e:rR (lb A) B 0=A%B:=by
  unfold rR
  rw[List.drop_zero,aS,<-Int.natCast_emod,Int.toNat_natCast]
 have e2:fl 0 (lb A).length=(A==0):=by
  have:(lb A).length=0↔A=0:=by rw[List.length_eq_zero_iff,iR]
  unfold fl
  rw[Bool.eq_iff_iff,beq_iff_eq,beq_iff_eq]
  omega
 rw[aS,<-Int.natCast_ediv,Int.toNat_natCast,e,e2] at this
 exact this
theorem NT{qb:Bool}(hq:(nx !=ny)=qb)(hm:¬m=0)
 (hd:ACall Tryz.prog 157 [.isl z (cI .u32 Lx) n,.isl z' (cI .u32 Ly) m] [] 0 (.tup [.isl zq (cI .u32 Q) q,.isl zr (cI .u32 R) r]) [])
 (hr:ACall Tryz.prog 110 [.val (.bool qb),.isl zq (cI .u32 Q) q] [] 0 (.tup [.agg (aa.cells W),.val (.int .i64 0)]) [])
 (hr2:ACall Tryz.prog 110 [.val (.bool nx),.isl zr (cI .u32 R) r] [] 0 (.tup [.agg (aa.cells W2),.val (.int .i64 0)]) []):
 ACall Tryz.prog 113 [.agg [.val (.bool nx),.isl z (cI .u32 Lx) n],.agg [.val (.bool ny),.isl z' (cI .u32 Ly) m]] [] 0 (.tup [.agg (aa.cells W),.agg (aa.cells W2),.val (.int .i64 0)]) []:=by
 subst hq
 have hd:=PLift.up hd
 rcases Bool.eq_false_or_eq_true nx with hnx|hnx<;>rcases Bool.eq_false_or_eq_true ny with hny|hny
 all_goals subst hnx
 all_goals subst hny
 all_goals have hr:=PLift.up hr
 all_goals have hr2:=PLift.up hr2
 all_goals(refine az Tryz.func113 Tryz.ntmps113 rfl ?_)
 all_goals(have zx1:= @hm;have zx2:=aA;have zx3:=aA;repeat' (first|refine zqN ?_|refine eG hd.down ?_|refine eG hr.down ?_|refine eG hr2.down ?_|refine dm ?_|refine dn ?_|(refine dw ?_ ?_<;>intro hc<;>try exact zqM)|refine zqR [(6,2,[5],0),(6,3,[6],0)] ?_|refine zqD ?_|fail))
 all_goals exact aB []
theorem uQ(h:D300 x)(h2:D300 y)(h0:¬y=0):ACall Tryz.prog 113 [.agg (aa.cells (iV z x)),.agg (aa.cells (iV z' y))] [] 0 (.tup [.agg (aa.cells (iC (x.tdiv y))),.agg (aa.cells (iC (x.tmod y))),.val (.int .i64 0)]) []:=by
 have f1:=h.few;have f2:=h2.few
 have hd:=Ls (z:=z) (z':=z') (A:=x.natAbs) (B:=y.natAbs) omgz omgz omgz
 have l1:=jT (show x.natAbs/y.natAbs<=x.natAbs from Nat.div_le_self _ _)
 have l2:=jT (show x.natAbs%y.natAbs<=x.natAbs from Nat.mod_le _ _)
 have r1:=qh (z:=false) (neg:=decide (x<0) !=decide (y<0)) (l:=lb (x.natAbs/y.natAbs)) (v:=x.tdiv y) lim_lb rfl omgz (by rw[aS];exact Li) (Jo h)
 have r2:=qh (z:=(x.natAbs==0)) (neg:=decide (x<0)) (l:=lb (x.natAbs%y.natAbs)) (v:=x.tmod y) lim_lb rfl omgz (by rw[aS];exact Dw) (Jp h)
 have hl:(lb y.natAbs).length=0↔y=0:=by rw[List.length_eq_zero_iff,iR];omega
 exact NT rfl (λe=>h0 (hl.1 e)) hd r1 r2
structure ah1(G:Nat)(p:Gp):Prop where
 g:Nat.gcd p.X p.Y=G
 lx:(lb p.X).length<=34
 ly:(lb p.Y).length<=34
def TK(G:Nat)(p:{p:Gp // ah1 G p}):St:=
 ⟨32,0,[(4,.pt 0 0),(5,.isl p.val.z (cI .u32 (lb p.val.X)) (lb p.val.X).length),(6,.isl p.val.z' (cI .u32 (lb p.val.Y)) (lb p.val.Y).length)],[(0,some (.cells [.val (.bool false),.isl true [] 0] 58))]⟩
theorem DC(h:D300 x)(h2:D300 y):ACall Tryz.prog 109 [.agg (aa.cells (iV z x)),.agg (aa.cells (iV z' y))] [] 0 (.agg (aa.cells (iC ((Int.gcd x y:Nat):Int)))) []:=by
 have f1:=h.few;have f2:=h2.few
 have hgd:=zY h h2
 have hok:ah1 (Int.gcd x y) ⟨x.natAbs,y.natAbs,z,z'⟩:=⟨rfl,f1,f2⟩
 have hres:∀zz,PLift (ACall Tryz.prog 110 [.val (.bool false),.isl zz (cI .u32 (lb (Int.gcd x y))) (lb (Int.gcd x y)).length] [] 0 (.tup [.agg (aa.cells (iC ((Int.gcd x y:Nat):Int))),.val (.int .i64 0)]) []):=λzz=>⟨qh (z:=zz) (neg:=false) (l:=lb (Int.gcd x y)) (v:=((Int.gcd x y:Nat):Int)) lim_lb rfl (by
  have:=hgd.few
  rw[Int.natAbs_natCast] at this;omega) (by rw[aS];rfl) hgd⟩
 have hdv:∀p:Gp,ah1 (Int.gcd x y) p->0<(lb p.Y).length->PLift (ACall Tryz.prog 157 [.isl p.z (cI .u32 (lb p.X)) (lb p.X).length,.isl p.z' (cI .u32 (lb p.Y)) (lb p.Y).length] [] 0 (.tup [.isl false (cI .u32 (lb (p.X/p.Y))) (lb (p.X/p.Y)).length,.isl (p.X==0) (cI .u32 (lb (p.X%p.Y))) (lb (p.X%p.Y)).length]) []):=λp hp hl=>⟨by
  have l1:=hp.lx;have l2:=hp.ly
  exact Ls (z:=p.z) (z':=p.z') (A:=p.X) (B:=p.Y) omgz omgz (Nat.pos_of_ne_zero λe=>by rw[e] at hl;simp[Zd] at hl)⟩
 generalize Int.gcd x y=G at*
 unfold iV at*
 rw[bJ,bJ] at*
 dsimp only at*
 generalize decide (x<0)=nx at*
 generalize decide (y<0)=ny at*
 clear h h2
 have zx1:=ae
 refine az Tryz.func109 Tryz.ntmps109 rfl ?_
 have zx2:=aA;have zx3:=aA;repeat' (first|(refine ah ?_;refine ak [2] ([2].length) (TK G) (λp=>p.val.Y) (⟨⟨_,_,_,_⟩,hok⟩) rfl (by unfold TK;exact ed) ?_;(rintro⟨⟨X,Y,zx,zy⟩,hp⟩;rcases Nat.eq_zero_or_pos (lb Y).length with zx1|zx1<;>first|(have hY0:Y=0:=iR.1 (List.length_eq_zero_iff.1 zx1);have hXG:X=G:=(by have:=hp.g;dsimp only at this;rw[hY0,Nat.gcd_zero_right] at this;exact this);subst hXG;have hR:=hres zx;(simp-dsimp only[TK];refine zqS ?_))|(have hd:=hdv ⟨X,Y,zx,zy⟩ hp zx1;dsimp only at hd;have hY0:0<Y:=Nat.pos_of_ne_zero (λe=>by rw[e] at zx1;simp[Zd] at zx1);have hml:X%Y<Y:=Nat.mod_lt X hY0;generalize(X==0)=zq at hd;(simp-dsimp only[TK];refine zqS ?_))))|(refine aj ?_;refine Nxt.mk [0] (⟨⟨Y,X%Y,zy,zq⟩,⟨by have:=hp.g;dsimp only at this⊢;rw[Nat.gcd_comm,<-Nat.gcd_rec,Nat.gcd_comm];exact this,hp.ly,Nat.le_trans (jT (Nat.mod_le _ _)) hp.lx⟩⟩) rfl (by unfold TK;exact ed) zqO)|refine zqN ?_|refine eG hd.down ?_|refine eG hR.down ?_|refine dm ?_|refine dn ?_|(refine dw ?_ ?_<;>intro hc<;>try exact zqM)|refine zqR [] ?_|refine zqD ?_|fail)
 all_goals exact aB []
def eqL(a b:List Int)(i:Nat):Prop:=∀j,j<i->a.getD j default=b.getD j default
theorem acS(h:eqL a b i)(h2:a.getD i default=b.getD i default):eqL a b (i+1):=λj hj=>by
 by_cases e:j=i
 ·subst e;exact h2
 ·exact h j omgz
theorem ZT(h:eqL a b k)(ha:a.length=k)(hb:b.length=k):a=b:=by
 apply List.ext_getElem omgz
 intro j h1 h2
 have:=h j omgz
 rw[List.getD_eq_getElem?_getD,List.getElem?_eq_getElem h1,List.getD_eq_getElem?_getD,List.getElem?_eq_getElem h2] at this
 exact this
def Bf(nx:Bool)(z z':Bool)(a b:List Int)(n:Nat)(i:{i:Nat // i<=n/\eqL a b i}):St:=
 ⟨38,0,[(2,.pt 0 0),(3,.pt 1 0),(5,.val (.int .i64 i.val))],[(0,some (.cells [.val (.bool nx),.isl z (cI .u32 a) n] 58)),(1,some (.cells [.val (.bool nx),.isl z' (cI .u32 b) n] 58))]⟩
theorem NU(ha:a.length=n)(hb:b.length=n)(hn:n<2^47):ACall Tryz.prog 61 [.agg [.val (.bool nx),.isl z (cI .u32 a) n],.agg [.val (.bool nx),.isl z' (cI .u32 b) n]] [] 0 (.val (.bool (decide (a=b)))) []:=by
 have h0:0<=n/\eqL a b 0:=⟨Nat.zero_le _,λj hj=>absurd hj omgz⟩
 have zx1:=ae
 rcases Bool.eq_false_or_eq_true nx with hnx|hnx
 all_goals subst hnx
 all_goals(refine az Tryz.func61 Tryz.ntmps61 rfl ?_)
 all_goals(have zx2:=aA;have zx3:=aA;repeat' (first|(refine ah ?_;refine ak [0,1] ([0,1].length) (Bf true z z' a b n) (λi=>n-i.val) (⟨0,h0⟩) rfl (by unfold Bf;exact ed) ?_;(rintro⟨i,hi,he⟩;rcases Nat.lt_or_eq_of_le hi with hil|hil<;>first|(subst hil;(simp-dsimp only[Bf];refine zqS ?_))|(rcases Decidable.em (a.getD i default=b.getD i default) with zx1|zx1<;>(simp-dsimp only[Bf];refine zqS ?_))))|(refine aj ?_;refine Nxt.mk [0,1] (⟨i+1,omgz,acS he zx1⟩) rfl (by unfold Bf;exact ed) zqO)|(refine ah ?_;refine ak [0,1] ([0,1].length) (Bf false z z' a b n) (λi=>n-i.val) (⟨0,h0⟩) rfl (by unfold Bf;exact ed) ?_;(rintro⟨i,hi,he⟩;rcases Nat.lt_or_eq_of_le hi with hil|hil<;>first|(subst hil;(simp-dsimp only[Bf];refine zqS ?_))|(rcases Decidable.em (a.getD i default=b.getD i default) with zx1|zx1<;>(simp-dsimp only[Bf];refine zqS ?_))))|(refine aj ?_;refine Nxt.mk [0,1] (⟨i+1,omgz,acS he zx1⟩) rfl (by unfold Bf;exact ed) zqO)|refine zqN ?_|refine dm ?_|refine dn ?_|(refine dw ?_ ?_<;>intro hc<;>try exact zqM)|refine zqR [] ?_|refine zqD ?_|fail))
 all_goals first
  |(have e:a=b:=ZT he ha hb;rw[decide_eq_true e];exact aB [];done)
  |(have e:¬a=b:=(λe=>zx1 (by rw[e]));rw[decide_eq_false e];exact aB [];done)
  |skip
theorem Jt(h:¬nx=ny):ACall Tryz.prog 61 [.agg [.val (.bool nx),.isl z (cI .u32 a) n],.agg [.val (.bool ny),.isl z' (cI .u32 b) m]] [] 0 (.val (.bool false)) []:=by
 rcases Bool.eq_false_or_eq_true nx with hnx|hnx<;>rcases Bool.eq_false_or_eq_true ny with hny|hny
 all_goals subst hnx
 all_goals subst hny
 all_goals first
  |(exact absurd rfl h;done)
  |skip
 all_goals clear h
 all_goals(refine az Tryz.func61 Tryz.ntmps61 rfl ?_)
 all_goals repeat' (first|refine zqN ?_|refine aY ?_|refine aZ ?_|(refine bf ?_ ?_<;>intro hc<;>try exact zqM)|refine zqR [] ?_|refine zqD ?_|fail)
 all_goals(exact aB [])
theorem Ju(h:nx=ny)(hl:¬n=m)(hn:n<2^47)(hm:m<2^47):ACall Tryz.prog 61 [.agg [.val (.bool nx),.isl z (cI .u32 a) n],.agg [.val (.bool ny),.isl z' (cI .u32 b) m]] [] 0 (.val (.bool false)) []:=by
 subst h
 rcases Bool.eq_false_or_eq_true nx with hnx|hnx
 all_goals subst hnx
 all_goals(refine az Tryz.func61 Tryz.ntmps61 rfl ?_)
 all_goals(have zx1:= @hl;have zx2:=aA;have zx3:=aA;repeat' (first|refine zqN ?_|refine dm ?_|refine dn ?_|(refine dw ?_ ?_<;>intro hc<;>try exact zqM)|refine zqR [] ?_|refine zqD ?_|fail))
 all_goals(exact aB [])
theorem Jv(h:¬(nx=ny/\n=m))(hn:n<2^47)(hm:m<2^47):ACall Tryz.prog 61 [.agg [.val (.bool nx),.isl z (cI .u32 a) n],.agg [.val (.bool ny),.isl z' (cI .u32 b) m]] [] 0 (.val (.bool false)) []:=by
 by_cases h1:nx=ny
 ·exact Ju h1 (λe=>h ⟨h1,e⟩) hn hm
 ·exact Jt h1
theorem wB(h1:X.l.length<2^47)(h2:Y.l.length<2^47):ACall Tryz.prog 61 [.agg (aa.cells X),.agg (aa.cells Y)] [] 0 (.val (.bool (decide (X.neg=Y.neg/\X.l=Y.l)))) []:=by
 rw[bJ,bJ]
 by_cases h:X.neg=Y.neg/\X.l.length=Y.l.length
 ·have:=NU (nx:=X.neg) (z:=X.z) (z':=Y.z) (a:=X.l) (b:=Y.l) (n:=Y.l.length) h.2 rfl h2
  rw[h.2,<-h.1]
  have e:decide (X.neg=X.neg/\X.l=Y.l)=decide (X.l=Y.l):=by simp
  rw[e];exact this
 ·have e:¬(X.neg=Y.neg/\X.l=Y.l):=λe=>h ⟨e.1,by rw[e.2]⟩
  rw[decide_eq_false e]
  exact Jv h h1 h2
theorem acT:(iV z x).l=lb x.natAbs:=rfl
theorem TL(h:D300 x)(h2:D300 y):ACall Tryz.prog 61 [.agg (aa.cells (iV z x)),.agg (aa.cells (iV z' y))] [] 0 (.val (.bool (decide (x=y)))) []:=by
 have f1:=h.few;have f2:=h2.few
 have:=wB (X:=iV z x) (Y:=iV z' y) (by show(lb x.natAbs).length<_;omega) (by show(lb y.natAbs).length<_;omega)
 have e:decide ((iV z x).neg=(iV z' y).neg/\(iV z x).l=(iV z' y).l)=decide (x=y):=by
  refine decide_eq_decide.2 ⟨λhc=>?_,λhc=>by rw[hc];exact⟨rfl,rfl⟩⟩
  have h3:=congrArg val hc.2
  rw[acT,acT,aS,aS] at h3
  have h4:=decide_eq_decide.1 (show decide (x<0)=decide (y<0) from hc.1)
  omega
 rw[e] at this;exact this
end
section
open Go Go.Sy Go.Bp Go.Lm Go.Rt
attribute [local irreducible] AO AL AC OpT ACall Ends DGo aK Thn Blk Nxt
variable {n N M k i m j:Nat} {z z':Bool} {a b v x y e s c:Int} {A B A1 B1 G G2 P Q R1 R2 Z1 X1 Y1:IV} {p q:Rat}
structure RV where
 num:IV
 den:IV
deriving DecidableEq
instance:Inhabited RV:=⟨⟨default,default⟩⟩
instance:aa RV 4:=⟨λx=>[.val (.bool x.num.neg),.isl x.num.z (cI .u32 x.num.l) x.num.l.length,.val (.bool x.den.neg),.isl x.den.z (cI .u32 x.den.l) x.den.l.length],λ_=>rfl,λ_=>rfl,λ_=>rfl⟩
theorem ax(x:RV):aa.cells x=[.val (.bool x.num.neg),.isl x.num.z (cI .u32 x.num.l) x.num.l.length,.val (.bool x.den.neg),.isl x.den.z (cI .u32 x.den.l) x.den.l.length]:=rfl
theorem rv_0(x:RV):(aa.cells x)[0]? =some (.val (.bool x.num.neg)):=rfl
theorem rv_1(x:RV):(aa.cells x)[1]? =some (.isl x.num.z (cI .u32 x.num.l) x.num.l.length):=rfl
theorem rv_2(x:RV):(aa.cells x)[2]? =some (.val (.bool x.den.neg)):=rfl
theorem rv_3(x:RV):(aa.cells x)[3]? =some (.isl x.den.z (cI .u32 x.den.l) x.den.l.length):=rfl
attribute [push_cast] ax rv_0 rv_1 rv_2 rv_3
variable {X Y:RV}
def rQ(z:Bool)(q:Rat):RV:=⟨iV z q.num,iV false q.den⟩
def rC(q:Rat):RV:=⟨iC q.num,iC q.den⟩
theorem mF:rC q=rQ (q.num==0) q:=by
 unfold rC rQ
 rw[wV,wV,show((q.den:Int)==0)=false by simpa using q.den_nz]
def rZ:RV:=⟨⟨true,false,[]⟩,⟨true,false,[]⟩⟩
theorem TP:ACall Tryz.prog 145 [] [] 0 (.agg (aa.cells (iC 1))) []:=by
 have h:=PLift.up (wy (v:=1) (by decide) (by decide))
 obtain⟨W,hW⟩:∃W,W=iC 1:=⟨_,rfl⟩
 rw[<-hW] at h⊢
 refine az Tryz.func145 Tryz.ntmps145 rfl ?_
 repeat' (first|refine zqN ?_|refine aM h.down ?_|refine aY ?_|refine aZ ?_|(refine bf ?_ ?_<;>intro hc<;>try exact zqM))
 all_goals exact aB []
theorem DF(hs0:¬s<0)(hg:ACall Tryz.prog 143 [.agg (aa.cells A),.agg (aa.cells B)] [] 0 (.tup [.agg (aa.cells G),.val (.int .i64 0)]) [])
 (hs:ACall Tryz.prog 138 [.agg (aa.cells B)] [] 0 (.val (.int .i64 s)) []) (h1:ACall Tryz.prog 206 [.agg (aa.cells A),.agg (aa.cells G)] [] 0 (.tup [.agg (aa.cells P),.agg (aa.cells R1),.val (.int .i64 0)]) [])
 (h2:ACall Tryz.prog 206 [.agg (aa.cells B),.agg (aa.cells G)] [] 0 (.tup [.agg (aa.cells Q),.agg (aa.cells R2),.val (.int .i64 0)]) []):
 ACall Tryz.prog 182 [.agg (aa.cells A),.agg (aa.cells B)] [] 0 (.tup [.agg (aa.cells (⟨P,Q⟩:RV)),.val (.int .i64 0)]) []:=by
 have hg:=PLift.up hg;have hs:=PLift.up hs;have h1:=PLift.up h1;have h2:=PLift.up h2
 rw[bJ A,bJ B]
 refine az Tryz.func182 Tryz.ntmps182 rfl ?_
 repeat' (first|refine zqN ?_|refine aM hg.down ?_|refine aM hs.down ?_|refine aM h1.down ?_|refine aM h2.down ?_|refine aY ?_|refine aZ ?_|(refine bf ?_ ?_<;>intro hc<;>try exact zqM)|refine zqR [(5,6,[2],0)] ?_|refine zqD ?_|fail)
 all_goals exact aB []
theorem wC(hs0:s<0)(hg:ACall Tryz.prog 143 [.agg (aa.cells A),.agg (aa.cells B)] [] 0 (.tup [.agg (aa.cells G),.val (.int .i64 0)]) [])
 (hs:ACall Tryz.prog 138 [.agg (aa.cells B)] [] 0 (.val (.int .i64 s)) []) (hz:ACall Tryz.prog 176 [.val (.int .i64 0)] [] 0 (.agg (aa.cells Z1)) [])
 (hsb:ACall Tryz.prog 179 [.agg (aa.cells Z1),.agg (aa.cells G)] [] 0 (.tup [.agg (aa.cells G2),.val (.int .i64 0)]) [])
 (h1:ACall Tryz.prog 206 [.agg (aa.cells A),.agg (aa.cells G2)] [] 0 (.tup [.agg (aa.cells P),.agg (aa.cells R1),.val (.int .i64 0)]) [])
 (h2:ACall Tryz.prog 206 [.agg (aa.cells B),.agg (aa.cells G2)] [] 0 (.tup [.agg (aa.cells Q),.agg (aa.cells R2),.val (.int .i64 0)]) []):
 ACall Tryz.prog 182 [.agg (aa.cells A),.agg (aa.cells B)] [] 0 (.tup [.agg (aa.cells (⟨P,Q⟩:RV)),.val (.int .i64 0)]) []:=by
 have hg:=PLift.up hg;have hs:=PLift.up hs;have h1:=PLift.up h1;have h2:=PLift.up h2;have hz:=PLift.up hz;have hsb:=PLift.up hsb
 rw[bJ A,bJ B]
 refine az Tryz.func182 Tryz.ntmps182 rfl ?_
 repeat' (first|refine zqN ?_|refine aM hg.down ?_|refine aM hs.down ?_|refine aM hz.down ?_|refine aM hsb.down ?_|refine aM h1.down ?_|refine aM h2.down ?_|refine aY ?_|refine aZ ?_|(refine bf ?_ ?_<;>intro hc<;>try exact zqM)|refine zqR [(5,6,[2],0)] ?_|refine zqD ?_|fail)
 all_goals exact aB []
theorem ag5:D300 0:=by unfold D300;decide+kernel
theorem TQ:D300 1:=by
 unfold D300
 have:1<10^300:=by decide+kernel
 exact this
theorem mG(ha:IOk z a)(hb:IOk z' b)(h0:¬b=0):ACall Tryz.prog 182 [.agg (aa.cells (iV z a)),.agg (aa.cells (iV z' b))] [] 0 (.tup [.agg (aa.cells (rC (Rat.divInt a b))),.val (.int .i64 0)]) []:=by
 have hgd:=zY ha.d hb.d
 have hg0:¬((Int.gcd a b:Nat):Int)=0:=by have:=xS (a:=a) h0;omega
 have hg:=TG ha hb
 have hs:=qc (z:=z') hb.d
 unfold rC
 by_cases hn:b<0
 ·have hz:=wy (v:=0) (by decide) (by decide)
  rw[wV] at hg hz
  have hsb:=Lh (z:=(0:Int)==0) (z':=((Int.gcd a b:Nat):Int)==0) ag5 hgd
  have hgd2:D300 (0-((Int.gcd a b:Nat):Int)):=by unfold D300 at*;omega
  unfold rV at hsb
  rw[qf hgd2,qg hgd2,Int.zero_sub] at hsb
  rw[Int.zero_sub] at hgd2
  rw[uR hn,uS hn]
  have h1:=Dx (z:=z) (z':=(-((Int.gcd a b:Nat):Int))==0) ha (IOk.of hgd2) omgz
  have h2:=Dx (z:=z') (z':=(-((Int.gcd a b:Nat):Int))==0) hb (IOk.of hgd2) omgz
  refine wC (s:=sgn b) ?_ hg hs hz hsb h1 h2
  unfold sgn;rw[if_neg h0,if_pos hn];decide
 ·have hp:0<b:=by omega
  rw[wV] at hg
  rw[Ab hp,Ac hp]
  have h1:=Dx (z:=z) (z':=((Int.gcd a b:Nat):Int)==0) ha (IOk.of hgd) hg0
  have h2:=Dx (z:=z') (z':=((Int.gcd a b:Nat):Int)==0) hb (IOk.of hgd) hg0
  refine DF (s:=sgn b) ?_ hg hs h1 h2
  unfold sgn;rw[if_neg h0,if_neg hn];decide
theorem NW(h1:ACall Tryz.prog 142 [.agg (aa.cells A)] [] 0 (.val (.bool true)) [])(h2:ACall Tryz.prog 142 [.agg (aa.cells B)] [] 0 (.val (.bool true)) [])(hs0:¬s=0)
 (hs:ACall Tryz.prog 138 [.agg (aa.cells B)] [] 0 (.val (.int .i64 s)) []) (hr:ACall Tryz.prog 182 [.agg (aa.cells A),.agg (aa.cells B)] [] 0 (.tup [.agg (aa.cells X),.val (.int .i64 e)]) []):
 ACall Tryz.prog 183 [.agg (aa.cells A),.agg (aa.cells B)] [] 0 (.tup [.agg (aa.cells X),.val (.int .i64 e)]) []:=by
 have h1:=PLift.up h1;have h2:=PLift.up h2;have hs:=PLift.up hs;have hr:=PLift.up hr
 rw[bJ A,bJ B]
 refine az Tryz.func183 Tryz.ntmps183 rfl ?_
 have zx1:= @hs0;have zx2:=aA;have zx3:=aA;repeat' (first|refine zqN ?_|refine eG h1.down ?_|refine eG h2.down ?_|refine eG hs.down ?_|refine eG hr.down ?_|refine dm ?_|refine dn ?_|(refine dw ?_ ?_<;>intro hc<;>try exact zqM))
 all_goals exact aB []
theorem ZU(ha:IOk z a)(hb:IOk z' b)(h0:¬b=0):ACall Tryz.prog 183 [.agg (aa.cells (iV z a)),.agg (aa.cells (iV z' b))] [] 0 (.tup [.agg (aa.cells (rC (Rat.divInt a b))),.val (.int .i64 0)]) []:=
 NW (xQ ha.d) (xQ hb.d) (by unfold sgn;rw[if_neg h0];split<;>decide) (qc hb.d) (mG ha hb h0)
theorem ZV(h1:ACall Tryz.prog 176 [.val (.int .i64 a)] [] 0 (.agg (aa.cells A)) [])(h2:ACall Tryz.prog 176 [.val (.int .i64 b)] [] 0 (.agg (aa.cells B)) [])(hr:ACall Tryz.prog 183 [.agg (aa.cells A),.agg (aa.cells B)] [] 0 (.tup [.agg (aa.cells X),.val (.int .i64 e)]) []):
 ACall Tryz.prog 140 [.val (.int .i64 a),.val (.int .i64 b)] [] 0 (.tup [.agg (aa.cells X),.val (.int .i64 e)]) []:=by
 have h1:=PLift.up h1;have h2:=PLift.up h2;have hr:=PLift.up hr
 refine az Tryz.func140 Tryz.ntmps140 rfl ?_
 repeat' (first|refine zqN ?_|refine aM h1.down ?_|refine aM h2.down ?_|refine aM hr.down ?_|refine aY ?_|refine aZ ?_|(refine bf ?_ ?_<;>intro hc<;>try exact zqM))
 all_goals exact aB []
abbrev I64(v:Int):Prop:= -9223372036854775808<=v/\v<=9223372036854775807
theorem Lt(h:I64 v):D300 v:=by
 have:(9223372036854775808:Nat)<10^300:=by decide+kernel
 unfold D300;obtain⟨h1,h2⟩:=h;omega
theorem ajR(ha:I64 a)(hb:I64 b)(h0:¬b=0):ACall Tryz.prog 140 [.val (.int .i64 a),.val (.int .i64 b)] [] 0 (.tup [.agg (aa.cells (rC (Rat.divInt a b))),.val (.int .i64 0)]) []:=
 ZV (wy ha.1 ha.2) (wy hb.1 hb.2) (ZU (z:=a==0) (z':=b==0) (IOk.of (Lt ha)) (IOk.of (Lt hb)) h0)
theorem TR(h1:ACall Tryz.prog 142 [.agg (aa.cells X.num)] [] 0 (.val (.bool false)) []):ACall Tryz.prog 102 [.agg (aa.cells X)] [] 0 (.val (.bool false)) []:=by
 have h1:=PLift.up h1
 rw[ax X]
 refine az Tryz.func102 Tryz.ntmps102 rfl ?_
 repeat' (first|refine zqN ?_|refine aM h1.down ?_|refine aY ?_|refine aZ ?_|(refine bf ?_ ?_<;>intro hc<;>try exact zqM)|refine zqR [] ?_|refine zqD ?_|fail)
 all_goals exact aB []
theorem TS(h1:ACall Tryz.prog 142 [.agg (aa.cells X.num)] [] 0 (.val (.bool true)) [])(h2:ACall Tryz.prog 142 [.agg (aa.cells X.den)] [] 0 (.val (.bool false)) []):ACall Tryz.prog 102 [.agg (aa.cells X)] [] 0 (.val (.bool false)) []:=by
 have h1:=PLift.up h1;have h2:=PLift.up h2
 rw[ax X]
 refine az Tryz.func102 Tryz.ntmps102 rfl ?_
 repeat' (first|refine zqN ?_|refine aM h1.down ?_|refine aM h2.down ?_|refine aY ?_|refine aZ ?_|(refine bf ?_ ?_<;>intro hc<;>try exact zqM)|refine zqR [] ?_|refine zqD ?_|fail)
 all_goals exact aB []
theorem TU(h1:ACall Tryz.prog 142 [.agg (aa.cells X.num)] [] 0 (.val (.bool true)) [])(h2:ACall Tryz.prog 142 [.agg (aa.cells X.den)] [] 0 (.val (.bool true)) [])(hs0:s<=0)
 (hs:ACall Tryz.prog 138 [.agg (aa.cells X.den)] [] 0 (.val (.int .i64 s)) []):ACall Tryz.prog 102 [.agg (aa.cells X)] [] 0 (.val (.bool false)) []:=by
 have h1:=PLift.up h1;have h2:=PLift.up h2;have hs:=PLift.up hs
 rw[ax X]
 refine az Tryz.func102 Tryz.ntmps102 rfl ?_
 repeat' (first|refine zqN ?_|refine aM h1.down ?_|refine aM h2.down ?_|refine aM hs.down ?_|refine aY ?_|refine aZ ?_|(refine bf ?_ ?_<;>intro hc<;>try exact zqM)|refine zqR [] ?_|refine zqD ?_|fail)
 all_goals exact aB []
theorem TV(h1:ACall Tryz.prog 142 [.agg (aa.cells X.num)] [] 0 (.val (.bool true)) [])(h2:ACall Tryz.prog 142 [.agg (aa.cells X.den)] [] 0 (.val (.bool true)) [])(hs0:¬s<=0)
 (hs:ACall Tryz.prog 138 [.agg (aa.cells X.den)] [] 0 (.val (.int .i64 s)) []) (hg:ACall Tryz.prog 143 [.agg (aa.cells X.num),.agg (aa.cells X.den)] [] 0 (.tup [.agg (aa.cells G),.val (.int .i64 0)]) [])
 (h3:ACall Tryz.prog 145 [] [] 0 (.agg (aa.cells Z1)) []) (hcq:ACall Tryz.prog 144 [.agg (aa.cells G),.agg (aa.cells Z1)] [] 0 (.val (.int .i64 c)) []):ACall Tryz.prog 102 [.agg (aa.cells X)] [] 0 (.val (.bool (decide (c=0)))) []:=by
 have h1:=PLift.up h1;have h2:=PLift.up h2;have hs:=PLift.up hs;have hg:=PLift.up hg;have h3:=PLift.up h3;have hcq:=PLift.up hcq
 rw[ax X]
 refine az Tryz.func102 Tryz.ntmps102 rfl ?_
 repeat' (first|refine zqN ?_|refine aM h1.down ?_|refine aM h2.down ?_|refine aM hs.down ?_|refine aM hg.down ?_|refine aM h3.down ?_|refine aM hcq.down ?_|refine aY ?_|refine aZ ?_|(refine bf ?_ ?_<;>intro hc<;>try exact zqM)|refine zqR [] ?_|refine zqD ?_|fail)
 all_goals exact aB []
end
section
open Go Go.Sy Go.Bp Go.Lm Go.Rt
attribute [local irreducible] AO AL AC OpT ACall Ends DGo aK Thn Blk Nxt
variable {n N M k i m j:Nat} {z z':Bool} {a b v x y e s c:Int} {A B A1 B1 G G2 P Q R1 R2 Z1 X1 Y1:IV} {p q:Rat} {X Y W:RV}
structure RIn(X:RV):Prop where
 rn:R32 X.num.l
 rd:R32 X.den.l
 zn:X.num.z=true->X.num.l=[]
 zd:X.den.z=true->X.den.l=[]
 ln:X.num.l.length<2^47
 ld:X.den.l.length<2^47
def RIs(X:RV)(q:Rat):Prop:=∃z,X=rQ z q/\(z=true->q.num=0)/\D300 q.num/\D300 q.den
theorem qi{z':Bool}(h:iV z x=iV z' y):x=y:=by
 unfold iV at h
 simp only[IV.mk.injEq] at h
 obtain⟨_,h1,h2⟩:=h
 have h3:=congrArg val h2
 rw[aS,aS] at h3
 have h4:=decide_eq_decide.1 h1
 omega
theorem RIs.inj(h:RIs X p)(h2:RIs X q):p=q:=by
 obtain⟨z,e,_⟩:=h;obtain⟨z',e2,_⟩:=h2
 rw[e] at e2
 unfold rQ at e2
 simp only[RV.mk.injEq] at e2
 have h1:=qi e2.1
 have h2:=qi e2.2
 exact Rat.ext h1 omgz
theorem Lu(hX:RIn X):(∃q,RIs X q)↔∃z a z' b,X=⟨iV z a,iV z' b⟩/\D300 a/\D300 b/\0<b/\Int.gcd a b=1:=by
 constructor
 ·rintro⟨q,z,e,h1,h2,h3⟩
  exact⟨z,q.num,false,q.den,e,h2,h3,by have:=lI (q:=q);omega,NV⟩
 ·rintro⟨z,a,z',b,e,h1,h2,h3,h4⟩
  obtain⟨g1,g2⟩:=TN h3 h4
  have zn:=hX.zn;have zd:=hX.zd
  subst e
  have hz':z'=false:=by
   cases z' with
   |false=>rfl
   |true=>
    have:=iR.1 (zd rfl)
    omega
  subst hz'
  refine⟨Rat.divInt a b,z,?_,λhz=>?_,by rw[g1];exact h1,by rw[g2];exact h2⟩
  ·unfold rQ;rw[g1,g2]
  ·have:=iR.1 (zn hz)
   rw[g1];omega
theorem Lv{X:IV}(hr:R32 X.l)(hz:X.z=true->X.l=[])(hv:vB X=true):∃v,X=iV X.z v/\IOk X.z v:=by
 obtain⟨v,e,h⟩:=ajK hv hr
 refine⟨v,e,h,λhzt=>?_⟩
 have hl:=hz hzt
 rw[e] at hl
 have:=iR.1 hl
 omega
theorem NY(hX:RIn X):∃r:Bool,(r=true↔∃q,RIs X q)/\ACall Tryz.prog 102 [.agg (aa.cells X)] [] 0 (.val (.bool r)) []:=by
 have v1:=wu (X:=X.num) rfl hX.ln hX.rn
 have v2:=wu (X:=X.den) rfl hX.ld hX.rd
 rw[Lu hX]
 by_cases c1:vB X.num=true
 ·rw[c1] at v1
  obtain⟨a,ea,ia⟩:=Lv hX.rn hX.zn c1
  by_cases c2:vB X.den=true
  ·rw[c2] at v2
   obtain⟨b,eb,ib⟩:=Lv hX.rd hX.zd c2
   have hs:=qc (z:=X.den.z) ib.d
   rw[<-eb] at hs
   by_cases c3:sgn b<=0
   ·refine⟨false,⟨λh=>by(cases h),?_⟩,TU v1 v2 c3 hs⟩
    rintro⟨z,a',z',b',e,_,_,h3,_⟩
    have e2:X.den=iV z' b':=by rw[e]
    rw[eb] at e2
    have:=qi e2
    exfalso
    unfold sgn at c3
    rw[if_neg omgz,if_neg omgz] at c3
    omega
   ·have hg:=TG (z:=X.num.z) (z':=X.den.z) ia ib
    rw[<-ea,<-eb] at hg
    have hgd:=zY ia.d ib.d
    have hc:=Tp (z:=((Int.gcd a b:Nat):Int)==0) (z':=(1:Int)==0) hgd TQ
    have hb0:0<b:=by
     unfold sgn at c3
     by_cases h1:b=0
     ·rw[if_pos h1] at c3;omega
     ·by_cases h2:b<0
      ·rw[if_neg h1,if_pos h2] at c3;omega
      ·omega
    refine⟨_,?_,TV v1 v2 c3 hs hg TP hc⟩
    rw[decide_eq_true_eq]
    constructor
    ·intro h
     refine⟨X.num.z,a,X.den.z,b,?_,ia.d,ib.d,hb0,?_⟩
     ·rw[<-ea,<-eb]
     ·unfold fE at h
      repeat' split at h<;>try omega
    ·rintro⟨z,a',z',b',e,_,_,_,h4⟩
     have e1:X.num=iV z a':=by rw[e]
     have e2:X.den=iV z' b':=by rw[e]
     rw[ea] at e1;rw[eb] at e2
     rw[<-qi e1,<-qi e2] at h4
     rw[h4];rfl
  ·rw[Bool.not_eq_true _ |>.mp c2] at v2
   refine⟨false,⟨λh=>by(cases h),?_⟩,TS v1 v2⟩
   rintro⟨z,a',z',b',e,_,h2,_⟩
   have e2:X.den=iV z' b':=by rw[e]
   exact absurd (by rw[e2];exact BX h2) c2
 ·rw[Bool.not_eq_true _ |>.mp c1] at v1
  refine⟨false,⟨λh=>by(cases h),?_⟩,TR v1⟩
  rintro⟨z,a',z',b',e,h1,_⟩
  have e1:X.num=iV z a':=by rw[e]
  exact absurd (by rw[e1];exact BX h1) c1
structure ROk(z:Bool)(q:Rat):Prop where
 n:IOk z q.num
 d:D300 q.den
theorem ROk.in_(h:ROk z q):RIn (rQ z q):=⟨Dt,Dt,λhz=>(by show lb _=[];rw[h.n.z hz];rfl),(λhz=>nomatch hz),(by have:=h.n.d.few;show(lb _).length<_;omega),(by have:=h.d.few;show(lb _).length<_;omega)⟩
theorem ROk.is(h:ROk z q):RIs (rQ z q) q:=⟨z,rfl,h.n.z,h.n.d,h.d⟩
theorem jU(h:ROk z q):ACall Tryz.prog 102 [.agg (aa.cells (rQ z q))] [] 0 (.val (.bool true)) []:=by
 obtain⟨r,h1,h2⟩:=NY h.in_
 rw[h1.2 ⟨q,h.is⟩] at h2;exact h2
theorem DJ(h1:ACall Tryz.prog 181 [.agg (aa.cells X.num),.agg (aa.cells Y.den)] [] 0 (.tup [.agg (aa.cells A),.val (.int .i64 0)]) [])(h2:ACall Tryz.prog 181 [.agg (aa.cells Y.num),.agg (aa.cells X.den)] [] 0 (.tup [.agg (aa.cells B),.val (.int .i64 0)]) []):
 ACall Tryz.prog 184 [.agg (aa.cells X),.agg (aa.cells Y)] [] 0 (.tup [.agg (aa.cells A),.agg (aa.cells B),.val (.int .i64 0)]) []:=by
 have h1:=PLift.up h1;have h2:=PLift.up h2
 rw[ax X,ax Y]
 refine az Tryz.func184 Tryz.ntmps184 rfl ?_
 repeat' (first|refine zqN ?_|refine aM h1.down ?_|refine aM h2.down ?_|refine aY ?_|refine aZ ?_|(refine bf ?_ ?_<;>intro hc<;>try exact zqM)|refine zqR [(7,2,[5],0),(7,3,[6],0)] ?_|refine zqD ?_|fail)
 all_goals exact aB []
theorem nE(h:D300 x)(h2:D300 y)(h3:D300 (x*y)):ACall Tryz.prog 181 [.agg (aa.cells (iV z x)),.agg (aa.cells (iV z' y))] [] 0 (.tup [.agg (aa.cells (iC (x*y))),.val (.int .i64 0)]) []:=by
 have:=agO (z:=z) (z':=z') h h2
 unfold rV at this
 rw[qf h3,qg h3] at this;exact this
theorem ZW(h:D300 x)(h2:D300 y)(h3:D300 (x+y)):ACall Tryz.prog 214 [.agg (aa.cells (iV z x)),.agg (aa.cells (iV z' y))] [] 0 (.tup [.agg (aa.cells (iC (x+y))),.val (.int .i64 0)]) []:=by
 have:=agN (z:=z) (z':=z') h h2
 unfold rV at this
 rw[qf h3,qg h3] at this;exact this
theorem ZX(h:D300 x)(h2:D300 y)(h3:D300 (x-y)):ACall Tryz.prog 179 [.agg (aa.cells (iV z x)),.agg (aa.cells (iV z' y))] [] 0 (.tup [.agg (aa.cells (iC (x-y))),.val (.int .i64 0)]) []:=by
 have:=Lh (z:=z) (z':=z') h h2
 unfold rV at this
 rw[qf h3,qg h3] at this;exact this
theorem sW(h:ROk z p)(h2:ROk z' q)(d1:D300 (p.num*q.den))(d2:D300 (q.num*p.den)):
 ACall Tryz.prog 184 [.agg (aa.cells (rQ z p)),.agg (aa.cells (rQ z' q))] [] 0 (.tup [.agg (aa.cells (iC (p.num*q.den))),.agg (aa.cells (iC (q.num*p.den))),.val (.int .i64 0)]) []:=
 DJ (nE h.n.d h2.d d1) (nE h2.n.d h.d d2)
theorem NZ(v1:ACall Tryz.prog 102 [.agg (aa.cells X)] [] 0 (.val (.bool true)) [])(v2:ACall Tryz.prog 102 [.agg (aa.cells Y)] [] 0 (.val (.bool true)) [])(hx:ACall Tryz.prog 184 [.agg (aa.cells X),.agg (aa.cells Y)] [] 0 (.tup [.agg (aa.cells A),.agg (aa.cells B),.val (.int .i64 0)]) [])
 (hcq:ACall Tryz.prog 144 [.agg (aa.cells A),.agg (aa.cells B)] [] 0 (.val (.int .i64 c)) []):
 ACall Tryz.prog 141 [.agg (aa.cells X),.agg (aa.cells Y)] [] 0 (.tup [.val (.int .i64 c),.val (.int .i64 0)]) []:=by
 have v1:=PLift.up v1;have v2:=PLift.up v2;have hx:=PLift.up hx;have hcq:=PLift.up hcq
 rw[ax X,ax Y]
 refine az Tryz.func141 Tryz.ntmps141 rfl ?_
 repeat' (first|refine zqN ?_|refine aM v1.down ?_|refine aM v2.down ?_|refine aM hx.down ?_|refine aM hcq.down ?_|refine aY ?_|refine aZ ?_|(refine bf ?_ ?_<;>intro hc<;>try exact zqM))
 all_goals exact aB []
theorem ZY(h:ROk z p)(h2:ROk z' q)(d1:D300 (p.num*q.den))(d2:D300 (q.num*p.den)):
 ACall Tryz.prog 141 [.agg (aa.cells (rQ z p)),.agg (aa.cells (rQ z' q))] [] 0 (.tup [.val (.int .i64 (fE (p.num*q.den) (q.num*p.den))),.val (.int .i64 0)]) []:=
 NZ (jU h) (jU h2) (sW h h2 d1 d2) (Tp d1 d2)
theorem uT{F:FuncId} [eU Tryz.prog F](v1:ACall Tryz.prog 102 [.agg (aa.cells X)] [] 0 (.val (.bool true)) [])(v2:ACall Tryz.prog 102 [.agg (aa.cells Y)] [] 0 (.val (.bool true)) [])(hx:ACall Tryz.prog 184 [.agg (aa.cells X),.agg (aa.cells Y)] [] 0 (.tup [.agg (aa.cells A),.agg (aa.cells B),.val (.int .i64 0)]) [])
 (hf:ACall Tryz.prog F [.agg (aa.cells A),.agg (aa.cells B)] [] 0 (.tup [.agg (aa.cells P),.val (.int .i64 0)]) []) (hm:ACall Tryz.prog 181 [.agg (aa.cells X.den),.agg (aa.cells Y.den)] [] 0 (.tup [.agg (aa.cells Q),.val (.int .i64 0)]) [])
 (hr:ACall Tryz.prog 182 [.agg (aa.cells P),.agg (aa.cells Q)] [] 0 (.tup [.agg (aa.cells W),.val (.int .i64 e)]) []):
 ACall Tryz.prog 178 [.agg (aa.cells X),.agg (aa.cells Y),.fn F []] [] 0 (.tup [.agg (aa.cells W),.val (.int .i64 e)]) []:=by
 have v1:=PLift.up v1;have v2:=PLift.up v2;have hx:=PLift.up hx;have hf:=PLift.up hf;have hm:=PLift.up hm;have hr:=PLift.up hr
 rw[ax X,ax Y]
 refine az Tryz.func178 Tryz.ntmps178 rfl ?_
 repeat' (first|refine zqN ?_|((first|refine ay rfl (λK hK=>?_)|refine au (λK hK=>?_));(first|refine ai (f:=102) (dst:=some 14) [] 0 false ?_|refine ai (f:=102) (dst:=some 18) [] 0 false ?_|refine ai (f:=184) [] 0 false ?_|refine gq (f:=F) (dst:=some 37) [] 0 false ?_|refine ai (f:=181) [] 0 false ?_|refine ai (f:=182) [] 0 false ?_);refine mg ?_;(first|refine⟨_,_,v1.down,?_⟩|refine⟨_,_,v2.down,?_⟩|refine⟨_,_,hx.down,?_⟩|refine⟨_,_,hf.down,?_⟩|refine⟨_,_,hm.down,?_⟩|refine⟨_,_,hr.down,?_⟩);refine jo ?_;apply hK;clear hK K)|refine aY ?_|refine aZ ?_|(refine bf ?_ ?_<;>intro hc<;>try exact zqM))
 all_goals exact aB []
theorem N7(h:ACall Tryz.prog 178 [.agg (aa.cells X),.agg (aa.cells Y),.fn 214 []] [] 0 (.tup [.agg (aa.cells W),.val (.int .i64 e)]) []):ACall Tryz.prog 196 [.agg (aa.cells X),.agg (aa.cells Y)] [] 0 (.tup [.agg (aa.cells W),.val (.int .i64 e)]) []:=by
 have h:=PLift.up h
 rw[ax X,ax Y]
 refine az Tryz.func196 Tryz.ntmps196 rfl ?_
 repeat' (first|refine zqN ?_|refine aM h.down ?_|refine aY ?_|refine aZ ?_|(refine bf ?_ ?_<;>intro hc<;>try exact zqM))
 all_goals exact aB []
theorem N8(h:ACall Tryz.prog 178 [.agg (aa.cells X),.agg (aa.cells Y),.fn 179 []] [] 0 (.tup [.agg (aa.cells W),.val (.int .i64 e)]) []):ACall Tryz.prog 137 [.agg (aa.cells X),.agg (aa.cells Y)] [] 0 (.tup [.agg (aa.cells W),.val (.int .i64 e)]) []:=by
 have h:=PLift.up h
 rw[ax X,ax Y]
 refine az Tryz.func137 Tryz.ntmps137 rfl ?_
 repeat' (first|refine zqN ?_|refine aM h.down ?_|refine aY ?_|refine aZ ?_|(refine bf ?_ ?_<;>intro hc<;>try exact zqM))
 all_goals exact aB []
structure Two(p q:Rat):Prop where
 x:D300 (p.num*q.den)
 y:D300 (q.num*p.den)
 d:D300 (p.den*q.den)
theorem Two.add(h:ROk z p)(h2:ROk z' q)(t:Two p q)(d:D300 (p.num*q.den+q.num*p.den)):ACall Tryz.prog 196 [.agg (aa.cells (rQ z p)),.agg (aa.cells (rQ z' q))] [] 0 (.tup [.agg (aa.cells (rC (p+q))),.val (.int .i64 0)]) []:=by
 rw[ag3]
 exact N7 (uT (jU h) (jU h2) (sW h h2 t.x t.y) (ZW t.x t.y d) (nE h.d h2.d t.d) (mG (IOk.of d) (IOk.of t.d) (by
  have a:=lI (q:=p);have b:=lI (q:=q)
  have:=Int.mul_pos (show(0:Int)<p.den by omega) (show(0:Int)<q.den by omega);omega)))
theorem Two.sub(h:ROk z p)(h2:ROk z' q)(t:Two p q)(d:D300 (p.num*q.den-q.num*p.den)):ACall Tryz.prog 137 [.agg (aa.cells (rQ z p)),.agg (aa.cells (rQ z' q))] [] 0 (.tup [.agg (aa.cells (rC (p-q))),.val (.int .i64 0)]) []:=by
 rw[ag4]
 exact N8 (uT (jU h) (jU h2) (sW h h2 t.x t.y) (ZX t.x t.y d) (nE h.d h2.d t.d) (mG (IOk.of d) (IOk.of t.d) (by
  have a:=lI (q:=p);have b:=lI (q:=q)
  have:=Int.mul_pos (show(0:Int)<p.den by omega) (show(0:Int)<q.den by omega);omega)))
theorem rY(h1:ACall Tryz.prog 181 [.agg (aa.cells A),.agg (aa.cells B)] [] 0 (.tup [.agg (aa.cells P),.val (.int .i64 0)]) [])(h2:ACall Tryz.prog 181 [.agg (aa.cells A1),.agg (aa.cells B1)] [] 0 (.tup [.agg (aa.cells Q),.val (.int .i64 0)]) [])
 (hr:ACall Tryz.prog 182 [.agg (aa.cells P),.agg (aa.cells Q)] [] 0 (.tup [.agg (aa.cells W),.val (.int .i64 e)]) []):
 ACall Tryz.prog 139 [.agg (aa.cells A),.agg (aa.cells B),.agg (aa.cells A1),.agg (aa.cells B1)] [] 0 (.tup [.agg (aa.cells W),.val (.int .i64 e)]) []:=by
 have h1:=PLift.up h1;have h2:=PLift.up h2;have hr:=PLift.up hr
 rw[bJ A,bJ B,bJ A1,bJ B1]
 refine az Tryz.func139 Tryz.ntmps139 rfl ?_
 repeat' (first|refine zqN ?_|refine aM h1.down ?_|refine aM h2.down ?_|refine aM hr.down ?_|refine aY ?_|refine aZ ?_|(refine bf ?_ ?_<;>intro hc<;>try exact zqM))
 all_goals exact aB []
theorem N9(v1:ACall Tryz.prog 102 [.agg (aa.cells X)] [] 0 (.val (.bool true)) [])(v2:ACall Tryz.prog 102 [.agg (aa.cells Y)] [] 0 (.val (.bool true)) [])
 (hq:ACall Tryz.prog 139 [.agg (aa.cells X.num),.agg (aa.cells Y.num),.agg (aa.cells X.den),.agg (aa.cells Y.den)] [] 0 (.tup [.agg (aa.cells W),.val (.int .i64 e)]) []):
 ACall Tryz.prog 99 [.agg (aa.cells X),.agg (aa.cells Y)] [] 0 (.tup [.agg (aa.cells W),.val (.int .i64 e)]) []:=by
 have v1:=PLift.up v1;have v2:=PLift.up v2;have hq:=PLift.up hq
 rw[ax X,ax Y]
 refine az Tryz.func99 Tryz.ntmps99 rfl ?_
 repeat' (first|refine zqN ?_|refine aM v1.down ?_|refine aM v2.down ?_|refine aM hq.down ?_|refine aY ?_|refine aZ ?_|(refine bf ?_ ?_<;>intro hc<;>try exact zqM))
 all_goals exact aB []
theorem Two.mul(h:ROk z p)(h2:ROk z' q)(t:D300 (p.den*q.den))(d:D300 (p.num*q.num)):ACall Tryz.prog 99 [.agg (aa.cells (rQ z p)),.agg (aa.cells (rQ z' q))] [] 0 (.tup [.agg (aa.cells (rC (p*q))),.val (.int .i64 0)]) []:=by
 rw[TM]
 exact N9 (jU h) (jU h2) (rY (nE h.n.d h2.n.d d) (nE h.d h2.d t) (mG (IOk.of d) (IOk.of t) (by
  have a:=lI (q:=p);have b:=lI (q:=q)
  have:=Int.mul_pos (show(0:Int)<p.den by omega) (show(0:Int)<q.den by omega);omega)))
theorem mH{a b:Nat}(h:a<10^140)(h2:b<10^140):a*b<10^280:=zX (s:=140) (t:=140) (u:=280) h h2 rfl
theorem Ad{v:Int}(h:v.natAbs<10^280+10^280):D300 v:=by
 have:(10:Nat)^280+10^280<10^300:=by decide+kernel
 unfold D300;omega
theorem wD(h:Sm p)(h2:Sm q):Two p q:=by
 refine⟨Ad ?_,Ad ?_,Ad ?_⟩
 ·rw[Int.natAbs_mul,Int.natAbs_natCast];have:=mH h.1 h2.2;omega
 ·rw[Int.natAbs_mul,Int.natAbs_natCast];have:=mH h2.1 h.2;omega
 ·rw[<-Int.natCast_mul,Int.natAbs_natCast];have:=mH h.2 h2.2;omega
theorem DK(h:Sm p):D300 p.num/\D300 p.den:=by
 have h1:=h.1;have h2:=h.2
 have e:(10:Nat)^140<10^280:=by decide+kernel
 exact⟨Ad omgz,Ad (by rw[Int.natAbs_natCast];omega)⟩
theorem ajS(h:Sm p):ROk (p.num==0) p:=⟨IOk.of (DK h).1,(DK h).2⟩
structure SmZ(z:Bool)(q:Rat):Prop where
 s:Sm q
 z:z=true->q.num=0
theorem SmZ.ok(h:SmZ z p):ROk z p:=⟨⟨(DK h.s).1,h.z⟩,(DK h.s).2⟩
theorem lh(h:Sm p):SmZ (p.num==0) p:=⟨h,λh=>by simpa using h⟩
theorem addS(h:SmZ z p)(h2:SmZ z' q):ACall Tryz.prog 196 [.agg (aa.cells (rQ z p)),.agg (aa.cells (rQ z' q))] [] 0 (.tup [.agg (aa.cells (rC (p+q))),.val (.int .i64 0)]) []:=
 Two.add h.ok h2.ok (wD h.s h2.s) (Ad (by
  have a:=mH h.s.1 h2.s.2;have b:=mH h2.s.1 h.s.2
  have e1:(p.num*q.den).natAbs<10^280:=by rw[Int.natAbs_mul,Int.natAbs_natCast];exact a
  have e2:(q.num*p.den).natAbs<10^280:=by rw[Int.natAbs_mul,Int.natAbs_natCast];exact b
  generalize(10:Nat)^280=T at*
  omega))
theorem subS(h:SmZ z p)(h2:SmZ z' q):ACall Tryz.prog 137 [.agg (aa.cells (rQ z p)),.agg (aa.cells (rQ z' q))] [] 0 (.tup [.agg (aa.cells (rC (p-q))),.val (.int .i64 0)]) []:=
 Two.sub h.ok h2.ok (wD h.s h2.s) (Ad (by
  have a:=mH h.s.1 h2.s.2;have b:=mH h2.s.1 h.s.2
  have e1:(p.num*q.den).natAbs<10^280:=by rw[Int.natAbs_mul,Int.natAbs_natCast];exact a
  have e2:(q.num*p.den).natAbs<10^280:=by rw[Int.natAbs_mul,Int.natAbs_natCast];exact b
  generalize(10:Nat)^280=T at*
  omega))
theorem mulS(h:SmZ z p)(h2:SmZ z' q):ACall Tryz.prog 99 [.agg (aa.cells (rQ z p)),.agg (aa.cells (rQ z' q))] [] 0 (.tup [.agg (aa.cells (rC (p*q))),.val (.int .i64 0)]) []:=
 Two.mul h.ok h2.ok (wD h.s h2.s).d (Ad (by
  have a:=mH h.s.1 h2.s.1
  rw[Int.natAbs_mul]
  generalize(10:Nat)^280=T at*
  omega))
end
section
open Go Go.Sy Go.Bp Go.Lm Go.Rt
attribute [local irreducible] AO AL AC OpT ACall Ends DGo aK Thn Blk Nxt
variable {n N M k i m j:Nat} {z z' neg:Bool} {l:List Int} {a b v x y e s c:Int} {A B A1 B1 G G2 P Q R1 R2 Z1 X1 Y1:IV} {p q:Rat} {X Y W:RV}
def nY(z neg:Bool)(l:List Int)(n:Nat)(i:{i:Nat // i<=n/\∀j,j<i->l.getD j default<1000000000}):St:=
 ⟨39,0,[(1,.pt 0 0),(3,.val (.int .i64 i.val))],[(0,some (.cells [.val (.bool neg),.isl z (cI .u32 l) n] 58))]⟩
theorem Jw(hl:l.length=n)(hn:n<2^47)(h:¬∀j,j<n->l.getD j default<1000000000):ACall Tryz.prog 107 [.agg [.val (.bool neg),.isl z (cI .u32 l) n]] [] 0 (.val (.bool false)) []:=by
 have h0:0<=n/\∀j,j<0->l.getD j default<1000000000:=⟨Nat.zero_le _,λj hj=>absurd hj omgz⟩
 have zx1:=ae
 refine az Tryz.func107 Tryz.ntmps107 rfl ?_
 have zx2:=aA;have zx3:=aA;repeat' (first|(refine ah ?_;refine ak [0] ([0].length) (nY z neg l n) (λi=>n-i.val) (⟨0,h0⟩) rfl (by unfold nY;exact ed) ?_;(rintro⟨i,hi,hok⟩;rcases Nat.lt_or_eq_of_le hi with hil|hil<;>first|(exfalso;subst hil;exact h hok)|(rcases Decidable.em (1000000000<=l.getD i default) with zx1|zx1<;>(simp-dsimp only[nY];refine zqS ?_))))|(refine aj ?_;refine Nxt.mk [0] (⟨i+1,omgz,λj hj=>by rcases Nat.lt_or_eq_of_le (Nat.le_of_lt_succ hj) with h|h;exact hok j h;rw[h];omega⟩) rfl (by unfold nY;exact ed) zqO)|refine zqN ?_|refine dm ?_|refine dn ?_|(refine dw ?_ ?_<;>intro hc<;>try exact zqM))
 all_goals exact aB []
theorem TW(h:∀j,j<n->l.getD j default<1000000000)(hl:l.length=n)(h0:n=0):ACall Tryz.prog 107 [.agg [.val (.bool neg),.isl z (cI .u32 l) n]] [] 0 (.val (.bool (!neg))) []:=by
 subst h0
 have hz:0<=0/\∀j,j<0->l.getD j default<1000000000:=⟨Nat.zero_le _,h⟩
 rcases Bool.eq_false_or_eq_true neg with hneg|hneg
 all_goals subst hneg
 all_goals(refine az Tryz.func107 Tryz.ntmps107 rfl ?_)
 all_goals repeat' (first|(refine ah ?_;refine ak [0] ([0].length) (nY z true l 0) (λi=>0) (⟨0,hz⟩) rfl (by unfold nY;exact jZ) ?_;(rintro⟨i,hi,hok⟩;have hi0:i=0:=omgz;subst hi0;(simp-dsimp only[nY];refine zqS ?_)))|(refine ah ?_;refine ak [0] ([0].length) (nY z false l 0) (λi=>0) (⟨0,hz⟩) rfl (by unfold nY;exact jZ) ?_;(rintro⟨i,hi,hok⟩;have hi0:i=0:=omgz;subst hi0;(simp-dsimp only[nY];refine zqS ?_)))|refine zqN ?_|refine aY ?_|refine aZ ?_|(refine bf ?_ ?_<;>intro hc<;>try exact zqM))
 all_goals exact aB []
theorem TY{dd:Nat} {w:Int}(h:∀j,j<n+1->l.getD j default<1000000000)(hl:l.length=n+1)(hn:n<2^47)(hw:l.getD n default=w)(hw0:¬w=0)(hd:ACall Tryz.prog 156 [.isl z (cI .u32 l) (n+1)] [] 0 (.val (.int .i64 (dd:Int))) []):ACall Tryz.prog 107 [.agg [.val (.bool neg),.isl z (cI .u32 l) (n+1)]] [] 0 (.val (.bool (decide ((dd:Int)<=300)))) []:=by
 have hz:0<=n+1/\∀j,j<0->l.getD j default<1000000000:=⟨Nat.zero_le _,λj hj=>absurd hj omgz⟩
 have hd:=PLift.up hd
 have zx1:=ae
 refine az Tryz.func107 Tryz.ntmps107 rfl ?_
 have zx2:= @hw;have zx3:= @hw0;have zx4:= @a1s;have zx5:=aA;have zx6:=aA;repeat' (first|(refine ah ?_;refine ak [0] ([0].length) (nY z neg l (n+1)) (λi=>n+1-i.val) (⟨0,hz⟩) rfl (by unfold nY;exact dK) ?_;(rintro⟨i,hi,hok⟩;rcases Nat.lt_or_eq_of_le hi with hil|hil<;>first|(subst hil;(simp-dsimp only[nY];refine zqS ?_))|(have zx1:¬1000000000<=l.getD i default:=(by have:=h i hil;omega);(simp-dsimp only[nY];refine zqS ?_))))|(refine aj ?_;refine Nxt.mk [0] (⟨i+1,omgz,λj hj=>h j omgz⟩) rfl (by unfold nY;exact dK) zqO)|refine zqN ?_|refine o7 hd.down ?_|refine kI ?_|refine kJ ?_|(refine kK ?_ ?_<;>intro hc<;>try exact zqM))
 all_goals exact aB []
theorem TZ(h:∀j,j<n+1->l.getD j default<1000000000)(hl:l.length=n+1)(hn:n<2^47)(hw:l.getD n default=0):ACall Tryz.prog 107 [.agg [.val (.bool neg),.isl z (cI .u32 l) (n+1)]] [] 0 (.val (.bool false)) []:=by
 have hz:0<=n+1/\∀j,j<0->l.getD j default<1000000000:=⟨Nat.zero_le _,λj hj=>absurd hj omgz⟩
 have zx1:=ae
 refine az Tryz.func107 Tryz.ntmps107 rfl ?_
 have zx2:= @hw;have zx3:= @a1s;repeat' (first|(refine ah ?_;refine ak [0] ([0].length) (nY z neg l (n+1)) (λi=>n+1-i.val) (⟨0,hz⟩) rfl (by unfold nY;exact ed) ?_;(rintro⟨i,hi,hok⟩;rcases Nat.lt_or_eq_of_le hi with hil|hil<;>first|(subst hil;(simp-dsimp only[nY];refine zqS ?_))|(have zx1:¬1000000000<=l.getD i default:=(by have:=h i hil;omega);(simp-dsimp only[nY];refine zqS ?_))))|(refine aj ?_;refine Nxt.mk [0] (⟨i+1,omgz,λj hj=>h j omgz⟩) rfl (by unfold nY;exact ed) zqO)|refine zqN ?_|refine dm ?_|refine dn ?_|(refine dw ?_ ?_<;>intro hc<;>try exact zqM))
 all_goals exact aB []
theorem ZZ(hl:l.length=n):l.any (λy=>decide (1000000000<=y))=true↔¬∀j,j<n->l.getD j default<1000000000:=by
 rw[List.any_eq_true]
 constructor
 ·rintro⟨y,h1,h2⟩ h
  obtain⟨j,hj,rfl⟩:=List.getElem_of_mem h1
  have:=h j omgz
  rw[gd0,ja hj] at this
  have:=of_decide_eq_true h2
  omega
 ·intro h
  refine Decidable.not_not.1 λhc=>h λj hj=>Decidable.not_not.1 λh2=>hc ⟨l.getD j 0,?_,?_⟩
  ·rw[ja omgz];exact List.getElem_mem _
  ·exact decide_eq_true (by rw[gd0] at h2;omega)
theorem sZ{X:IV}(hl:X.l.length=n)(hn:n<2^47)(hr:R32 X.l):ACall Tryz.prog 107 [.agg (aa.cells X)] [] 0 (.val (.bool (vB X))) []:=by
 have h0:=Zr (X:=X);have h1:=agE (X:=X);have h2:=agF (X:=X);have h3:=Zt (X:=X)
 have ha:=ZZ hl
 have hdg:=λh=>z8 (z:=X.z) hl hn (Dr hr h)
 obtain⟨z,neg,l⟩:=X
 rw[bJ]
 dsimp only at*
 rw[hl] at h0 h1 h2 h3⊢
 generalize vB ⟨z,neg,l⟩=r at*
 by_cases hall:∀j,j<n->l.getD j default<1000000000
 ·have hna:¬l.any (λy=>decide (1000000000<=y))=true:=λhc=>ha.1 hc hall
  rcases Nat.eq_zero_or_pos n with hz|hz
  ·rw[h0 hz];exact TW hall hl hz
  ·obtain⟨n,rfl⟩:∃m,n=m+1:=⟨_,(Nat.succ_pred_eq_of_pos hz).symm⟩
   rw[Nat.add_sub_cancel] at h1 h2 h3
   by_cases hw:l.getD n default=0
   ·rw[h1 omgz (.inl hw)]
    exact TZ hall hl omgz hw
   ·have hv:=TY (z:=z) (neg:=neg) hall hl omgz rfl hw (hdg hna)
    by_cases h34:34<n+1
    ·rw[h1 omgz (.inr h34)]
     have e:decide (((dg9 l:Nat):Int)<=300)=false:=decide_eq_false (by
      rw[FW omgz,hl];omega)
     rw[e] at hv;exact hv
    ·rw[h3 omgz (λhc=>hc.elim hw h34) hna]
     have e:decide (dg9 l<=300)=decide (((dg9 l:Nat):Int)<=300):=decide_eq_decide.2 omgz
     rw[e];exact hv
 ·have hb:=Jw (z:=z) (neg:=neg) hl hn hall
  have hany:=ha.2 hall
  have hn0:¬n=0:=λe=>hall λj hj=>absurd hj omgz
  by_cases hc:l.getD (n-1) 0=0\/34<n
  ·rw[h1 hn0 hc];exact hb
  ·rw[h2 hn0 hc hany];exact hb
theorem uU(h:D300 v):ACall Tryz.prog 107 [.agg (aa.cells (iV z v))] [] 0 (.val (.bool true)) []:=by
 have:=sZ (X:=iV z v) rfl (by show(lb v.natAbs).length<_;have:=h.few;omega) Dt
 rw[BX h] at this;exact this
theorem Jy(h1:ACall Tryz.prog 107 [.agg (aa.cells A)] [] 0 (.val (.bool true)) [])(h2:ACall Tryz.prog 107 [.agg (aa.cells B)] [] 0 (.val (.bool true)) [])(hs0:0<s)
 (hs:ACall Tryz.prog 108 [.agg (aa.cells B)] [] 0 (.val (.int .i64 s)) []) (hg:ACall Tryz.prog 109 [.agg (aa.cells A),.agg (aa.cells B)] [] 0 (.agg (aa.cells G)) [])
 (h3:ACall Tryz.prog 113 [.agg (aa.cells A),.agg (aa.cells G)] [] 0 (.tup [.agg (aa.cells P),.agg (aa.cells R1),.val (.int .i64 0)]) []) (h4:ACall Tryz.prog 113 [.agg (aa.cells B),.agg (aa.cells G)] [] 0 (.tup [.agg (aa.cells Q),.agg (aa.cells R2),.val (.int .i64 0)]) []):
 ACall Tryz.prog 60 [.agg (aa.cells A),.agg (aa.cells B)] [] 0 (.tup [.agg (aa.cells (⟨P,Q⟩:RV)),.val (.int .i64 0)]) []:=by
 have h1:=PLift.up h1;have h2:=PLift.up h2;have hs:=PLift.up hs;have hg:=PLift.up hg;have h3:=PLift.up h3;have h4:=PLift.up h4
 rw[bJ A,bJ B]
 refine az Tryz.func60 Tryz.ntmps60 rfl ?_
 repeat' (first|refine zqN ?_|refine aM h1.down ?_|refine aM h2.down ?_|refine aM hs.down ?_|refine aM hg.down ?_|refine aM h3.down ?_|refine aM h4.down ?_|refine aY ?_|refine aZ ?_|(refine bf ?_ ?_<;>intro hc<;>try exact zqM)|refine zqR [(6,4,[2],0),(6,5,[2],0)] ?_|refine zqD ?_|fail)
 all_goals exact aB []
theorem Ae(h1:ACall Tryz.prog 107 [.agg (aa.cells A)] [] 0 (.val (.bool true)) [])(h2:ACall Tryz.prog 107 [.agg (aa.cells B)] [] 0 (.val (.bool true)) [])(hs0:s<0)
 (hs:ACall Tryz.prog 108 [.agg (aa.cells B)] [] 0 (.val (.int .i64 s)) []) (hn1:ACall Tryz.prog 112 [.agg (aa.cells A)] [] 0 (.agg (aa.cells A1)) []) (hn2:ACall Tryz.prog 112 [.agg (aa.cells B)] [] 0 (.agg (aa.cells B1)) [])
 (hg:ACall Tryz.prog 109 [.agg (aa.cells A1),.agg (aa.cells B1)] [] 0 (.agg (aa.cells G)) [])
 (h3:ACall Tryz.prog 113 [.agg (aa.cells A1),.agg (aa.cells G)] [] 0 (.tup [.agg (aa.cells P),.agg (aa.cells R1),.val (.int .i64 0)]) []) (h4:ACall Tryz.prog 113 [.agg (aa.cells B1),.agg (aa.cells G)] [] 0 (.tup [.agg (aa.cells Q),.agg (aa.cells R2),.val (.int .i64 0)]) []):
 ACall Tryz.prog 60 [.agg (aa.cells A),.agg (aa.cells B)] [] 0 (.tup [.agg (aa.cells (⟨P,Q⟩:RV)),.val (.int .i64 0)]) []:=by
 have h1:=PLift.up h1;have h2:=PLift.up h2;have hs:=PLift.up hs;have hg:=PLift.up hg;have h3:=PLift.up h3;have h4:=PLift.up h4;have hn1:=PLift.up hn1;have hn2:=PLift.up hn2
 rw[bJ A,bJ B]
 refine az Tryz.func60 Tryz.ntmps60 rfl ?_
 repeat' (first|refine zqN ?_|refine aM h1.down ?_|refine aM h2.down ?_|refine aM hs.down ?_|refine aM hn1.down ?_|refine aM hn2.down ?_|refine aM hg.down ?_|refine aM h3.down ?_|refine aM h4.down ?_|refine aY ?_|refine aZ ?_|(refine bf ?_ ?_<;>intro hc<;>try exact zqM)|refine zqR [(6,4,[3],0),(6,5,[4],0)] ?_|refine zqD ?_|fail)
 all_goals exact aB []
theorem Ce(ha:D300 a)(hb:D300 b)(h0:¬b=0):ACall Tryz.prog 60 [.agg (aa.cells (iV z a)),.agg (aa.cells (iV z' b))] [] 0 (.tup [.agg (aa.cells (rC (Rat.divInt a b))),.val (.int .i64 0)]) []:=by
 unfold rC
 by_cases hn:b<0
 ·have ha2:D300 (-a):=by unfold D300;rw[Int.natAbs_neg];exact ha
  have hb2:D300 (-b):=by unfold D300;rw[Int.natAbs_neg];exact hb
  have hgd:=zY ha2 hb2
  have hg0:¬((Int.gcd (-a) (-b):Nat):Int)=0:=by have:=xS (a:= -a) (b:= -b) omgz;omega
  have hn1:=Lr (z:=z) ha
  have hn2:=Lr (z:=z') hb
  rw[wV] at hn1 hn2
  have hg:=DC (z:= -a==0) (z':= -b==0) ha2 hb2
  rw[wV] at hg
  have h3:=uQ (z:= -a==0) (z':=((Int.gcd (-a) (-b):Nat):Int)==0) ha2 hgd hg0
  have h4:=uQ (z:= -b==0) (z':=((Int.gcd (-a) (-b):Nat):Int)==0) hb2 hgd hg0
  have e1:(Rat.divInt a b).num=(-a).tdiv ((Int.gcd (-a) (-b):Nat):Int):=by
   rw[uR hn,Int.gcd_neg,Int.neg_gcd,Int.neg_tdiv,Int.tdiv_neg]
  have e2:((Rat.divInt a b).den:Int)=(-b).tdiv ((Int.gcd (-a) (-b):Nat):Int):=by
   rw[uS hn,Int.gcd_neg,Int.neg_gcd,Int.neg_tdiv,Int.tdiv_neg]
  rw[e1,e2]
  refine Ae (s:=sgn b) (uU ha) (uU hb) ?_ Aa hn1 hn2 hg h3 h4
  unfold sgn;rw[if_neg h0,if_pos hn];decide
 ·have hp:0<b:=by omega
  have hgd:=zY ha hb
  have hg0:¬((Int.gcd a b:Nat):Int)=0:=by have:=xS (a:=a) h0;omega
  have hg:=DC (z:=z) (z':=z') ha hb
  rw[wV] at hg
  have h3:=uQ (z:=z) (z':=((Int.gcd a b:Nat):Int)==0) ha hgd hg0
  have h4:=uQ (z:=z') (z':=((Int.gcd a b:Nat):Int)==0) hb hgd hg0
  rw[Ab hp,Ac hp]
  refine Jy (s:=sgn b) (uU ha) (uU hb) ?_ Aa hg h3 h4
  unfold sgn;rw[if_neg h0,if_neg hn];decide
theorem T9(h1:ACall Tryz.prog 76 [.val (.int .i64 a)] [] 0 (.agg (aa.cells A)) [])(h2:ACall Tryz.prog 76 [.val (.int .i64 b)] [] 0 (.agg (aa.cells B)) [])(hr:ACall Tryz.prog 60 [.agg (aa.cells A),.agg (aa.cells B)] [] 0 (.tup [.agg (aa.cells X),.val (.int .i64 e)]) []):
 ACall Tryz.prog 32 [.val (.int .i64 a),.val (.int .i64 b)] [] 0 (.tup [.agg (aa.cells X),.val (.int .i64 e)]) []:=by
 have h1:=PLift.up h1;have h2:=PLift.up h2;have hr:=PLift.up hr
 refine az Tryz.func32 Tryz.ntmps32 rfl ?_
 repeat' (first|refine zqN ?_|refine aM h1.down ?_|refine aM h2.down ?_|refine aM hr.down ?_|refine aY ?_|refine aZ ?_|(refine bf ?_ ?_<;>intro hc<;>try exact zqM))
 all_goals exact aB []
theorem ag6(ha:I64 a)(hb:I64 b)(h0:¬b=0):ACall Tryz.prog 32 [.val (.int .i64 a),.val (.int .i64 b)] [] 0 (.tup [.agg (aa.cells (rC (Rat.divInt a b))),.val (.int .i64 0)]) []:=
 T9 (rf ha.1 ha.2) (rf hb.1 hb.2) (Ce (z:=a==0) (z':=b==0) (Lt ha) (Lt hb) h0)
theorem Oa(h1:ACall Tryz.prog 107 [.agg (aa.cells X.num)] [] 0 (.val (.bool false)) []):ACall Tryz.prog 58 [.agg (aa.cells X)] [] 0 (.val (.bool false)) []:=by
 have h1:=PLift.up h1
 rw[ax X]
 refine az Tryz.func58 Tryz.ntmps58 rfl ?_
 repeat' (first|refine zqN ?_|refine aM h1.down ?_|refine aY ?_|refine aZ ?_|(refine bf ?_ ?_<;>intro hc<;>try exact zqM))
 all_goals exact aB []
theorem Ob(h1:ACall Tryz.prog 107 [.agg (aa.cells X.num)] [] 0 (.val (.bool true)) [])(h2:ACall Tryz.prog 107 [.agg (aa.cells X.den)] [] 0 (.val (.bool false)) []):ACall Tryz.prog 58 [.agg (aa.cells X)] [] 0 (.val (.bool false)) []:=by
 have h1:=PLift.up h1;have h2:=PLift.up h2
 rw[ax X]
 refine az Tryz.func58 Tryz.ntmps58 rfl ?_
 repeat' (first|refine zqN ?_|refine aM h1.down ?_|refine aM h2.down ?_|refine aY ?_|refine aZ ?_|(refine bf ?_ ?_<;>intro hc<;>try exact zqM))
 all_goals exact aB []
theorem Oc(h1:ACall Tryz.prog 107 [.agg (aa.cells X.num)] [] 0 (.val (.bool true)) [])(h2:ACall Tryz.prog 107 [.agg (aa.cells X.den)] [] 0 (.val (.bool true)) [])(hs0:s<=0)
 (hs:ACall Tryz.prog 108 [.agg (aa.cells X.den)] [] 0 (.val (.int .i64 s)) []):ACall Tryz.prog 58 [.agg (aa.cells X)] [] 0 (.val (.bool false)) []:=by
 have h1:=PLift.up h1;have h2:=PLift.up h2;have hs:=PLift.up hs
 rw[ax X]
 refine az Tryz.func58 Tryz.ntmps58 rfl ?_
 repeat' (first|refine zqN ?_|refine aM h1.down ?_|refine aM h2.down ?_|refine aM hs.down ?_|refine aY ?_|refine aZ ?_|(refine bf ?_ ?_<;>intro hc<;>try exact zqM))
 all_goals exact aB []
theorem Od{r:Bool}(h1:ACall Tryz.prog 107 [.agg (aa.cells X.num)] [] 0 (.val (.bool true)) [])(h2:ACall Tryz.prog 107 [.agg (aa.cells X.den)] [] 0 (.val (.bool true)) [])(hs0:¬s<=0)
 (hs:ACall Tryz.prog 108 [.agg (aa.cells X.den)] [] 0 (.val (.int .i64 s)) []) (hg:ACall Tryz.prog 109 [.agg (aa.cells X.num),.agg (aa.cells X.den)] [] 0 (.agg (aa.cells G)) [])
 (h3:ACall Tryz.prog 76 [.val (.int .i64 1)] [] 0 (.agg (aa.cells Z1)) []) (hcq:ACall Tryz.prog 61 [.agg (aa.cells G),.agg (aa.cells Z1)] [] 0 (.val (.bool r)) []):ACall Tryz.prog 58 [.agg (aa.cells X)] [] 0 (.val (.bool r)) []:=by
 have h1:=PLift.up h1;have h2:=PLift.up h2;have hs:=PLift.up hs;have hg:=PLift.up hg;have h3:=PLift.up h3;have hcq:=PLift.up hcq
 rw[ax X]
 refine az Tryz.func58 Tryz.ntmps58 rfl ?_
 repeat' (first|refine zqN ?_|refine aM h1.down ?_|refine aM h2.down ?_|refine aM hs.down ?_|refine aM hg.down ?_|refine aM h3.down ?_|refine aM hcq.down ?_|refine aY ?_|refine aZ ?_|(refine bf ?_ ?_<;>intro hc<;>try exact zqM))
 all_goals exact aB []
theorem Jz(hX:RIn X):∃r:Bool,(r=true↔∃q,RIs X q)/\ACall Tryz.prog 58 [.agg (aa.cells X)] [] 0 (.val (.bool r)) []:=by
 have v1:=sZ (X:=X.num) rfl hX.ln hX.rn
 have v2:=sZ (X:=X.den) rfl hX.ld hX.rd
 rw[Lu hX]
 by_cases c1:vB X.num=true
 ·rw[c1] at v1
  obtain⟨a,ea,ia⟩:=Lv hX.rn hX.zn c1
  by_cases c2:vB X.den=true
  ·rw[c2] at v2
   obtain⟨b,eb,ib⟩:=Lv hX.rd hX.zd c2
   have hs:=Aa (z:=X.den.z) (v:=b)
   rw[<-eb] at hs
   by_cases c3:sgn b<=0
   ·refine⟨false,⟨λh=>by(cases h),?_⟩,Oc v1 v2 c3 hs⟩
    rintro⟨z,a',z',b',e,_,_,h3,_⟩
    have e2:X.den=iV z' b':=by rw[e]
    rw[eb] at e2
    have:=qi e2
    exfalso
    unfold sgn at c3
    rw[if_neg omgz,if_neg omgz] at c3
    omega
   ·have hg:=DC (z:=X.num.z) (z':=X.den.z) ia.d ib.d
    rw[<-ea,<-eb] at hg
    have hgd:=zY ia.d ib.d
    have h1:=rf (v:=1) (by decide) (by decide)
    rw[wV] at hg h1
    have hc:=TL (z:=((Int.gcd a b:Nat):Int)==0) (z':=(1:Int)==0) hgd TQ
    have hb0:0<b:=by
     unfold sgn at c3
     by_cases h1:b=0
     ·rw[if_pos h1] at c3;omega
     ·by_cases h2:b<0
      ·rw[if_neg h1,if_pos h2] at c3;omega
      ·omega
    refine⟨_,?_,Od v1 v2 c3 hs hg h1 hc⟩
    rw[decide_eq_true_eq]
    constructor
    ·intro h
     refine⟨X.num.z,a,X.den.z,b,?_,ia.d,ib.d,hb0,omgz⟩
     rw[<-ea,<-eb]
    ·rintro⟨z,a',z',b',e,_,_,_,h4⟩
     have e1:X.num=iV z a':=by rw[e]
     have e2:X.den=iV z' b':=by rw[e]
     rw[ea] at e1;rw[eb] at e2
     rw[<-qi e1,<-qi e2] at h4
     rw[h4];rfl
  ·rw[Bool.not_eq_true _ |>.mp c2] at v2
   refine⟨false,⟨λh=>by(cases h),?_⟩,Ob v1 v2⟩
   rintro⟨z,a',z',b',e,_,h2,_⟩
   have e2:X.den=iV z' b':=by rw[e]
   exact absurd (by rw[e2];exact BX h2) c2
 ·rw[Bool.not_eq_true _ |>.mp c1] at v1
  refine⟨false,⟨λh=>by(cases h),?_⟩,Oa v1⟩
  rintro⟨z,a',z',b',e,h1,_⟩
  have e1:X.num=iV z a':=by rw[e]
  exact absurd (by rw[e1];exact BX h1) c1
theorem Gc(h:ROk z q):ACall Tryz.prog 58 [.agg (aa.cells (rQ z q))] [] 0 (.val (.bool true)) []:=by
 obtain⟨r,h1,h2⟩:=Jz h.in_
 rw[h1.2 ⟨q,h.is⟩] at h2;exact h2
end
section
open Go Go.Sy Go.Bp Go.Lm Go.Rt
attribute [local irreducible] AO AL AC OpT ACall Ends DGo aK Thn Blk Nxt
variable {n N M k i m j:Nat} {z z' neg:Bool} {l:List Int} {a b v x y e s c:Int} {A B C A1 B1 G G2 P Q R1 R2 Z1 X1 Y1:IV} {p q:Rat} {X Y W:RV}
theorem Oe{r1 r2:Bool}(h1:ACall Tryz.prog 61 [.agg (aa.cells X.num),.agg (aa.cells Y.num)] [] 0 (.val (.bool r1)) [])(h2:ACall Tryz.prog 61 [.agg (aa.cells X.den),.agg (aa.cells Y.den)] [] 0 (.val (.bool r2)) []):
 ACall Tryz.prog 23 [.agg (aa.cells X),.agg (aa.cells Y)] [] 0 (.val (.bool (r1&&r2))) []:=by
 have h2:=PLift.up h2
 rw[ax X,ax Y]
 cases r1
 all_goals have h1:=PLift.up h1
 all_goals(refine az Tryz.func23 Tryz.ntmps23 rfl ?_)
 all_goals repeat' (first|refine zqN ?_|refine aM h1.down ?_|refine aM h2.down ?_|refine aY ?_|refine aZ ?_|(refine bf ?_ ?_<;>intro hc<;>try exact zqM))
 all_goals exact aB []
def ag7(X Y:RV):Bool:=decide (X.num.neg=Y.num.neg/\X.num.l=Y.num.l)&&decide (X.den.neg=Y.den.neg/\X.den.l=Y.den.l)
structure ab0(X:RV):Prop where
 n:X.num.l.length<2^47
 d:X.den.l.length<2^47
theorem LA(hX:ab0 X)(hY:ab0 Y):ACall Tryz.prog 23 [.agg (aa.cells X),.agg (aa.cells Y)] [] 0 (.val (.bool (ag7 X Y))) []:=
 Oe (wB hX.n hY.n) (wB hX.d hY.d)
theorem Cf:ag7 X X=true:=by unfold ag7;simp
theorem ag8(h:D300 q.num)(h2:D300 q.den):ab0 (rQ z q):=⟨by have:=h.few;show(lb _).length<_;omega,by have:=h2.few;show(lb _).length<_;omega⟩
theorem DL(h:Sm q):ab0 (rC q):=by rw[mF];exact ag8 (DK h).1 (DK h).2
theorem LB(h:D300 x)(h2:D300 y)(h3:D300 (x*y)):ACall Tryz.prog 59 [.agg (aa.cells (iV z x)),.agg (aa.cells (iV z' y))] [] 0 (.tup [.agg (aa.cells (iC (x*y))),.val (.int .i64 0)]) []:=by
 have:=TJ (z:=z) (z':=z') h h2
 unfold rV at this
 rw[qf h3,qg h3] at this;exact this
theorem ag9:(0:Int)<p.den*q.den:=by
 have a:=lI (q:=p);have b:=lI (q:=q)
 exact Int.mul_pos omgz omgz
theorem JA(v1:ACall Tryz.prog 58 [.agg (aa.cells X)] [] 0 (.val (.bool true)) [])(v2:ACall Tryz.prog 58 [.agg (aa.cells Y)] [] 0 (.val (.bool true)) [])
 (h1:ACall Tryz.prog 59 [.agg (aa.cells X.num),.agg (aa.cells Y.num)] [] 0 (.tup [.agg (aa.cells A),.val (.int .i64 0)]) []) (h2:ACall Tryz.prog 59 [.agg (aa.cells X.den),.agg (aa.cells Y.den)] [] 0 (.tup [.agg (aa.cells B),.val (.int .i64 0)]) [])
 (hm:ACall Tryz.prog 60 [.agg (aa.cells A),.agg (aa.cells B)] [] 0 (.tup [.agg (aa.cells W),.val (.int .i64 e)]) []):
 ACall Tryz.prog 22 [.agg (aa.cells X),.agg (aa.cells Y)] [] 0 (.tup [.agg (aa.cells W),.val (.int .i64 e)]) []:=by
 have v1:=PLift.up v1;have v2:=PLift.up v2;have h1:=PLift.up h1;have h2:=PLift.up h2;have hm:=PLift.up hm
 rw[ax X,ax Y]
 refine az Tryz.func22 Tryz.ntmps22 rfl ?_
 repeat' (first|refine zqN ?_|refine aM v1.down ?_|refine aM v2.down ?_|refine aM h1.down ?_|refine aM h2.down ?_|refine aM hm.down ?_|refine aY ?_|refine aZ ?_|(refine bf ?_ ?_<;>intro hc<;>try exact zqM))
 all_goals exact aB []
theorem Two.rmul(h:ROk z p)(h2:ROk z' q)(t:D300 (p.den*q.den))(d:D300 (p.num*q.num)):ACall Tryz.prog 22 [.agg (aa.cells (rQ z p)),.agg (aa.cells (rQ z' q))] [] 0 (.tup [.agg (aa.cells (rC (p*q))),.val (.int .i64 0)]) []:=by
 have hd:=ag9 (p:=p) (q:=q)
 rw[TM]
 exact JA (Gc h) (Gc h2) (LB h.n.d h2.n.d d) (LB h.d h2.d t) (Ce d t omgz)
end
section
open Go Go.Sy Go.Bp Go.Lm Go.Rt
attribute [local irreducible] AO AL AC OpT ACall Ends DGo aK Thn Blk Nxt
variable {n N M k i m j:Nat} {z z' neg:Bool} {l:List Int} {a b v x y e s c:Int} {A B C P Q:IV} {p q:Rat} {X Y W:RV}
theorem Ua(v:Int):Rat.divInt v 1=(v:Rat):=by
 rw[Rat.divInt_eq_div,show((1:Int):Rat)=1 from rfl];grind
theorem cmp_lt:decide (fE x y<0)=decide (x<y):=by
 refine decide_eq_decide.2 ?_
 unfold fE
 by_cases h:x<y
 ·rw[if_pos h];omega
 ·rw[if_neg h];split<;>omega
open Classical in
theorem RIs.ok(h:RIs X q):∃z,X=rQ z q/\ROk z q:=by
 obtain⟨z,e,h1,h2,h3⟩:=h
 exact⟨z,e,⟨h2,h1⟩,h3⟩
end
