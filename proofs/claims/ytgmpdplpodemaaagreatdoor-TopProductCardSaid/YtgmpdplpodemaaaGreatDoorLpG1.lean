/- Lp1 Lp0 Lp3. No condition. -/
import Derived.Test.YtgmpdplpodemaaaGreatDoorArgsG
import Derived.Lib.ItoaNum
set_option linter.all false
set_option maxHeartbeats 4000000
set_option maxRecDepth 20000
namespace Go.Proofs.YtgmpdplpodemaaaGreatDoor
section
open Go Go.Sy Go.Bp Go.Lm
attribute [local irreducible] AO AL AC OpT ACall Ends DGo aK Thn Blk Nxt
variable {n N M k i m j:Nat} {z z':Bool} {l a b:List Int} {v x y:Int}
theorem a1s(x:Int):x+1-1=x:=by omega
theorem gd0{i:Nat}:l.getD i default=l.getD i 0:=rfl
theorem SY(h:j<l.length):(l.take (j+1))[j]? =some (l.getD j default):=by
 rw[List.getElem?_take_of_lt omgz,List.getElem?_eq_getElem h,gd0,ja h]
theorem acO:(l.take (j+1)).take j=l.take j:=by rw[List.take_take,Nat.min_eq_left omgz]
def trI(z:Bool)(l:List Int)(n:Nat)(j:{j:Nat // j<=n/\trN l j=trN l n}):St:=
 ⟨21,0,[(0,.isl z (cI .u32 (l.take j.val)) j.val)],[]⟩
theorem nA(hl:l.length=n)(hn:n<2^47):ACall Tryz.prog 210 [.isl z (cI .u32 l) n] [] 0 (.isl z (cI .u32 (l.take (trN l n))) (trN l n)) []:=by
 have zx2:cI .u32 (l.take n)=cI .u32 l:=by rw[<-hl,List.take_length]
 have zx1:=ae;have hle:=sV (l:=l) (j:=n)
 refine az Tryz.func210 Tryz.ntmps210 rfl ?_
 have zx3:= @SY;have zx4:= @acO;have zx5:= @a1s;have zx6:=aA;repeat' (first|(refine ah ?_;refine ak [] ([].length) (trI z l n) (λj=>j.val) (⟨n,Nat.le_refl _,rfl⟩) rfl (by unfold trI;exact dK) ?_;(rintro⟨j,hj,ht⟩;rcases Nat.eq_zero_or_pos j with h0|h0<;>first|(subst h0;(simp-dsimp only[trI];refine zqS ?_))|(obtain⟨j,rfl⟩:∃j',j=j'+1:=⟨j-1,omgz⟩;have hjl:j<l.length:=omgz;rcases Decidable.em (l.getD j default=0) with zx1|zx1<;>(simp-dsimp only[trI];refine zqS ?_))))|(refine aj ?_;refine Nxt.mk [] (⟨j,omgz,by rw[<-FK zx1];exact ht⟩) rfl (by unfold trI;exact dK) zqO)|refine zqN ?_|refine kI ?_|refine uy ?_|refine uz ?_|refine uA ?_|refine kJ ?_|(refine kK ?_ ?_<;>intro hc<;>try exact zqM))
 all_goals first
  |(rw[acH] at ht;rw[<-ht];exact aB [];done)
  |(rw[FM zx1] at ht;rw[<-ht];exact aB [];done)
  |skip
def oI(a b:List Int):Int:=if val a<val b then-1 else if val b<val a then 1 else 0
theorem zV(h:val a<val b):oI a b= -1:=if_pos h
theorem Dn(h:val b<val a):oI a b=1:=by unfold oI;rw[if_neg omgz,if_pos h]
theorem S9(h:a=b):oI a b=0:=by subst h;unfold oI;rw[if_neg omgz,if_neg omgz]
def cpI(z z':Bool)(a b:List Int)(n:Nat)(k:{k:Nat // k<=n/\a.drop k=b.drop k}):St:=
 ⟨41,0,[(0,.isl z (cI .u32 a) n),(1,.isl z' (cI .u32 b) n),(5,.val (.int .i64 ((k.val:Int)-1)))],[]⟩
theorem FX(ha:Lim a)(hb:Lim b)(hta:Tr a)(htb:Tr b)(hl:a.length=n)(hm:b.length=m)(hn:n<2^47)(hn2:m<2^47)(hne:¬n=m):ACall Tryz.prog 192 [.isl z (cI .u32 a) n,.isl z' (cI .u32 b) m] [] 0 (.val (.int .i64 (oI a b))) []:=by
 have zx1:((n:Int)=m)=False:=eq_false omgz
 rcases Nat.lt_or_ge n m with h|h
 ·rw[zV (wh ha hb htb omgz)]
  refine az Tryz.func192 Tryz.ntmps192 rfl ?_
  have zx2:=aA;have zx3:=aA;repeat' (first|refine zqN ?_|refine dm ?_|refine dn ?_|(refine dw ?_ ?_<;>intro hc<;>try exact zqM)|refine zqR [] ?_|refine zqD ?_|fail)
  all_goals exact aB []
 ·rw[Dn (wh hb ha hta omgz)]
  refine az Tryz.func192 Tryz.ntmps192 rfl ?_
  have zx2:=aA;have zx3:=aA;repeat' (first|refine zqN ?_|refine dm ?_|refine dn ?_|(refine dw ?_ ?_<;>intro hc<;>try exact zqM)|refine zqR [] ?_|refine zqD ?_|fail)
  all_goals exact aB []
theorem K5(hi:i<a.length)(hi2:i<b.length)(h:a.drop (i+1)=b.drop (i+1))(he:a.getD i default=b.getD i default):a.drop i=b.drop i:=by
 rw[List.drop_eq_getElem_cons hi,List.drop_eq_getElem_cons hi2,h]
 rw[gd0,gd0,ja hi,ja hi2] at he
 rw[he]
theorem Dp(ha:Lim a)(hb:Lim b)(hl:a.length=n)(hm:b.length=n)(hn:n<2^47):ACall Tryz.prog 192 [.isl z (cI .u32 a) n,.isl z' (cI .u32 b) n] [] 0 (.val (.int .i64 (oI a b))) []:=by
 have h0:n<=n/\a.drop n=b.drop n:=⟨Nat.le_refl _,by rw[List.drop_eq_nil_of_le omgz,List.drop_eq_nil_of_le omgz]⟩
 have zx1:=ae;have zx2:=ae
 refine az Tryz.func192 Tryz.ntmps192 rfl ?_
 have zx3:= @a1s;repeat' (first|(refine ah ?_;refine ak [] ([].length) (cpI z z' a b n) (λk=>k.val) (⟨n,h0⟩) rfl (by unfold cpI;exact ed) ?_;(rintro⟨k,hk,hd⟩;rcases Nat.eq_zero_or_pos k with hk0|hk0<;>first|(subst hk0;(simp-dsimp only[cpI];refine zqS ?_))|(obtain⟨k,rfl⟩:∃k',k=k'+1:=⟨k-1,omgz⟩;have hka:k<a.length:=omgz;have hkb:k<b.length:=omgz;rcases Decidable.em (a.getD k default=b.getD k default) with zx1|zx1<;>rcases Decidable.em (a.getD k default<b.getD k default) with zx2|zx2<;>(simp-dsimp only[cpI];refine zqS ?_))))|(refine aj ?_;refine Nxt.mk [] (⟨k,omgz,K5 hka hkb hd zx1⟩) rfl (by unfold cpI;exact ed) zqO)|refine zqN ?_|refine dm ?_|refine dn ?_|(refine dw ?_ ?_<;>intro hc<;>try exact zqM)|refine zqR [] ?_|refine zqD ?_|fail)
 all_goals first
  |(rw[S9 (by simpa using hd)];exact aB [];done)
  |(rw[zV (cmp_lt ha hb (hl.trans hm.symm) hka hd zx2)];exact aB [];done)
  |(rw[Dn (cmp_lt hb ha (hm.trans hl.symm) hkb hd.symm (by show b.getD k default<a.getD k default;omega))];exact aB [];done)
  |skip
theorem nC(ha:Lim a)(hb:Lim b)(hta:Tr a)(htb:Tr b)(hl:a.length<2^47)(hm:b.length<2^47):ACall Tryz.prog 192 [.isl z (cI .u32 a) a.length,.isl z' (cI .u32 b) b.length] [] 0 (.val (.int .i64 (oI a b))) []:=by
 by_cases h:a.length=b.length
 ·have:=Dp (z:=z) (z':=z') ha hb rfl h.symm hl
  rw[h] at this⊢;exact this
 ·exact FX ha hb hta htb rfl rfl hl hm h
structure IV where
 z:Bool
 neg:Bool
 l:List Int
deriving DecidableEq
instance:Inhabited IV:=⟨⟨true,false,[]⟩⟩
instance:aa IV 2:=⟨λx=>[.val (.bool x.neg),.isl x.z (cI .u32 x.l) x.l.length],λ_=>rfl,λ_=>rfl,λ_=>rfl⟩
theorem bJ(x:IV):aa.cells x=[.val (.bool x.neg),.isl x.z (cI .u32 x.l) x.l.length]:=rfl
theorem iv_0(x:IV):(aa.cells x)[0]? =some (.val (.bool x.neg)):=rfl
theorem iv_1(x:IV):(aa.cells x)[1]? =some (.isl x.z (cI .u32 x.l) x.l.length):=rfl
attribute [push_cast] bJ iv_0 iv_1
def iV(z:Bool)(v:Int):IV:=⟨z,decide (v<0),lb v.natAbs⟩
def iC(v:Int):IV:=iV (v==0) v
def sgn(v:Int):Int:=if v=0 then 0 else if v<0 then-1 else 1
theorem Dq:ACall Tryz.prog 180 [.agg (aa.cells (iV z v))] [] 0 (.val (.int .i64 (sgn v))) []:=by
 have hl:(lb v.natAbs).length=0↔v=0:=by rw[List.length_eq_zero_iff,iR];omega
 unfold iV
 obtain⟨L,hL⟩:∃L,lb v.natAbs=L:=⟨_,rfl⟩
 rw[hL] at hl⊢
 have hn:=ae;have zx1:=ae
 rcases Int.lt_trichotomy v 0 with h|h|h
 ·have e:sgn v= -1:=by unfold sgn;rw[if_neg omgz,if_pos h]
  have hn:decide (v<0)=true:=decide_eq_true h
  have zx1:¬L.length=0:=λh2=>by have:=hl.1 h2;omega
  rw[e,hn]
  refine az Tryz.func180 Tryz.ntmps180 rfl ?_
  have zx2:=aA;have zx3:=aA;repeat' (first|refine zqN ?_|refine dm ?_|refine dn ?_|(refine dw ?_ ?_<;>intro hc<;>try exact zqM))
  all_goals exact aB []
 ·have e:sgn v=0:=by unfold sgn;rw[if_pos h]
  have zx1:L.length=0:=hl.2 h
  rw[e]
  refine az Tryz.func180 Tryz.ntmps180 rfl ?_
  have zx2:=aA;have zx3:=aA;repeat' (first|refine zqN ?_|refine dm ?_|refine dn ?_|(refine dw ?_ ?_<;>intro hc<;>try exact zqM))
  all_goals exact aB []
 ·have e:sgn v=1:=by unfold sgn;rw[if_neg omgz,if_neg omgz]
  have hn:decide (v<0)=false:=decide_eq_false omgz
  have zx1:¬L.length=0:=λh2=>by have:=hl.1 h2;omega
  rw[e,hn]
  refine az Tryz.func180 Tryz.ntmps180 rfl ?_
  have zx2:=aA;have zx3:=aA;repeat' (first|refine zqN ?_|refine dm ?_|refine dn ?_|(refine dw ?_ ?_<;>intro hc<;>try exact zqM))
  all_goals exact aB []
end
set_option maxRecDepth 200000
section
open Go Go.Sy Go.Bp Go.Lm
attribute [local irreducible] AO AL AC OpT ACall Ends DGo aK Thn Blk Nxt
variable {n k i m j u b c w q:Nat} {z:Bool} {l:List Int} {v x y:Int} {B:Bool}
def l8S:ByteArray:=⟨(([0,1,2,2,3,3,3,3,4,4,4,4,4,4,4,4,5,5,5,5,5,5,5,5,5,5,5,5,5,5,5,5,6,6,6,6,6,6,6,6,6,6,6,6,6,6,6,6,6,6,6,6,6,6,6,6,6,6,6,6,6,6,6,6].append [7,7,7,7,7,7,7,7,7,7,7,7,7,7,7,7,7,7,7,7,7,7,7,7,7,7,7,7,7,7,7,7,7,7,7,7,7,7,7,7,7,7,7,7,7,7,7,7,7,7,7,7,7,7,7,7,7,7,7,7,7,7,7,7]).append ([8,8,8,8,8,8,8,8,8,8,8,8,8,8,8,8,8,8,8,8,8,8,8,8,8,8,8,8,8,8,8,8,8,8,8,8,8,8,8,8,8,8,8,8,8,8,8,8,8,8,8,8,8,8,8,8,8,8,8,8,8,8,8,8].append [8,8,8,8,8,8,8,8,8,8,8,8,8,8,8,8,8,8,8,8,8,8,8,8,8,8,8,8,8,8,8,8,8,8,8,8,8,8,8,8,8,8,8,8,8,8,8,8,8,8,8,8,8,8,8,8,8,8,8,8,8,8,8,8])).toArray⟩
theorem xN:(⟨(([0,1,2,2,3,3,3,3,4,4,4,4,4,4,4,4,5,5,5,5,5,5,5,5,5,5,5,5,5,5,5,5,6,6,6,6,6,6,6,6,6,6,6,6,6,6,6,6,6,6,6,6,6,6,6,6,6,6,6,6,6,6,6,6].append [7,7,7,7,7,7,7,7,7,7,7,7,7,7,7,7,7,7,7,7,7,7,7,7,7,7,7,7,7,7,7,7,7,7,7,7,7,7,7,7,7,7,7,7,7,7,7,7,7,7,7,7,7,7,7,7,7,7,7,7,7,7,7,7]).append ([8,8,8,8,8,8,8,8,8,8,8,8,8,8,8,8,8,8,8,8,8,8,8,8,8,8,8,8,8,8,8,8,8,8,8,8,8,8,8,8,8,8,8,8,8,8,8,8,8,8,8,8,8,8,8,8,8,8,8,8,8,8,8,8].append [8,8,8,8,8,8,8,8,8,8,8,8,8,8,8,8,8,8,8,8,8,8,8,8,8,8,8,8,8,8,8,8,8,8,8,8,8,8,8,8,8,8,8,8,8,8,8,8,8,8,8,8,8,8,8,8,8,8,8,8,8,8,8,8])).toArray⟩:ByteArray)=l8S:=rfl
theorem xO:l8S.size=256:=by decide+kernel
def b8(x:Nat):Nat:=(l8S.get! x).toNat
theorem agB:∀x,x<256->(x=0/\b8 x=0)\/(1<=b8 x/\b8 x<=8/\2^(b8 x-1)<=x/\x<2^b8 x):=by decide+kernel
def smS:ByteArray:=⟨(([48,48,48,49,48,50,48,51,48,52,48,53,48,54,48,55,48,56,48,57,49,48,49,49,49,50,49,51,49,52,49,53,49,54,49,55,49,56,49,57,50,48,50,49,50,50,50,51,50,52].append [50,53,50,54,50,55,50,56,50,57,51,48,51,49,51,50,51,51,51,52,51,53,51,54,51,55,51,56,51,57,52,48,52,49,52,50,52,51,52,52,52,53,52,54,52,55,52,56,52,57]).append ([53,48,53,49,53,50,53,51,53,52,53,53,53,54,53,55,53,56,53,57,54,48,54,49,54,50,54,51,54,52,54,53,54,54,54,55,54,56,54,57,55,48,55,49,55,50,55,51,55,52].append [55,53,55,54,55,55,55,56,55,57,56,48,56,49,56,50,56,51,56,52,56,53,56,54,56,55,56,56,56,57,57,48,57,49,57,50,57,51,57,52,57,53,57,54,57,55,57,56,57,57])).toArray⟩
theorem gK:(⟨(([48,48,48,49,48,50,48,51,48,52,48,53,48,54,48,55,48,56,48,57,49,48,49,49,49,50,49,51,49,52,49,53,49,54,49,55,49,56,49,57,50,48,50,49,50,50,50,51,50,52].append [50,53,50,54,50,55,50,56,50,57,51,48,51,49,51,50,51,51,51,52,51,53,51,54,51,55,51,56,51,57,52,48,52,49,52,50,52,51,52,52,52,53,52,54,52,55,52,56,52,57]).append ([53,48,53,49,53,50,53,51,53,52,53,53,53,54,53,55,53,56,53,57,54,48,54,49,54,50,54,51,54,52,54,53,54,54,54,55,54,56,54,57,55,48,55,49,55,50,55,51,55,52].append [55,53,55,54,55,55,55,56,55,57,56,48,56,49,56,50,56,51,56,52,56,53,56,54,56,55,56,56,56,57,57,48,57,49,57,50,57,51,57,52,57,53,57,54,57,55,57,56,57,57])).toArray⟩:ByteArray)=smS:=rfl
theorem gF:smS.size=200:=by decide+kernel
theorem fdv(u s:Nat)(h:s<=64):Int.fdiv (u:Int) (2^min s (IntKind.bits .u64))=((u/2^s:Nat):Int):=by
 rw[show IntKind.bits .u64=64 from rfl,Nat.min_eq_left h,Int.fdiv_eq_ediv_of_nonneg _ (Int.pow_nonneg (by decide)),show(2:Int)^s=((2^s:Nat):Int) by simp,<-Int.natCast_ediv]
theorem fd16(u:Nat):Int.fdiv (u:Int) (2^min 16 (IntKind.bits .u64))=((u/65536:Nat):Int):=fdv u 16 (by decide)
theorem fd8(u:Nat):Int.fdiv (u:Int) (2^min 8 (IntKind.bits .u64))=((u/256:Nat):Int):=fdv u 8 (by decide)
theorem Zl{s:Nat}(h1:1<=b/\2^(b-1)<=u/\u<2^b)(h2:1<=c/\2^(c-1)<=u/2^s/\u/2^s<2^c):b=c+s:=by
 have hs:=Nat.two_pow_pos s
 have l1:2^(c-1+s)<=u:=by rw[Nat.pow_add];exact(Nat.le_div_iff_mul_le hs).1 h2.2.1
 have l2:u<2^(c+s):=by rw[Nat.pow_add];exact(Nat.div_lt_iff_lt_mul hs).1 h2.2.2
 have a1:c-1+s<b:=(Nat.pow_lt_pow_iff_right (show 1<2 by decide)).1 (Nat.lt_of_le_of_lt l1 h1.2.2)
 have a2:b-1<c+s:=(Nat.pow_lt_pow_iff_right (show 1<2 by decide)).1 (Nat.lt_of_le_of_lt h1.2.1 l2)
 omega
theorem xP(x:Nat):(l8S.get! x).toNat=b8 x:=rfl
theorem Ta(h0:0<u)(hu:u<4294967296)(hb:1<=b/\2^(b-1)<=u/\u<2^b):ACall Tryz.prog 239 [.val (.int .u64 u)] [] 0 (.val (.int .i64 b)) []:=by
 have zx1:=fd16 u;have zx2:=fd8 u;have zx3:=fd8 (u/65536)
 obtain⟨v,hv⟩:∃v,u/65536=v:=⟨_,rfl⟩
 obtain⟨w,hw⟩:∃w,u/256=w:=⟨_,rfl⟩
 obtain⟨x,hx2⟩:∃x,v/256=x:=⟨_,rfl⟩
 rw[hv] at zx1 zx3;rw[hw] at zx2;rw[hx2] at zx3
 have key:∀y s,y<256->y=u/2^s->0<y->b=b8 y+s/\b8 y<=8:=λy s hy e h0=>by
  rcases agB y hy with hx|hx
  ·omega
  ·exact⟨Zl (s:=s) hb (by rw[<-e];exact⟨hx.1,hx.2.2.1,hx.2.2.2⟩),hx.2.1⟩
 rcases Nat.lt_or_ge u 65536 with h1|h1
 ·rcases Nat.lt_or_ge u 256 with h2|h2
  ·obtain⟨e,hq8⟩:=key u 0 h2 (by rw[Nat.pow_zero,Nat.div_one]) h0
   generalize hq:b8 u=q at e hq8
   refine az Tryz.func239 Tryz.ntmps239 rfl ?_
   have zx4:= @xN;have zx5:= @xO;have zx6:= @xP;have zx7:= @hq;have zx8:=aA;have zx9:=aA;repeat' (first|refine zqN ?_|((first|refine ay rfl (λK hK=>?_)|refine au (λK hK=>?_));(first|apply dN);refine sJ ?_;apply hK;clear hK K)|refine mh ?_|refine mo ?_|(refine mq ?_ ?_<;>intro hc<;>try exact zqM))
   all_goals exact aB []
  ·obtain⟨e,hq8⟩:=key w 8 omgz hw.symm omgz
   generalize hq:b8 w=q at e hq8
   refine az Tryz.func239 Tryz.ntmps239 rfl ?_
   have zx4:= @xN;have zx5:= @xO;have zx6:= @xP;have zx7:= @hq;have zx8:=aA;have zx9:=aA;repeat' (first|refine zqN ?_|((first|refine ay rfl (λK hK=>?_)|refine au (λK hK=>?_));(first|apply dN);refine sJ ?_;apply hK;clear hK K)|refine mh ?_|refine mo ?_|(refine mq ?_ ?_<;>intro hc<;>try exact zqM))
   all_goals exact aB []
 ·rcases Nat.lt_or_ge v 256 with h2|h2
  ·obtain⟨e,hq8⟩:=key v 16 h2 hv.symm omgz
   generalize hq:b8 v=q at e hq8
   refine az Tryz.func239 Tryz.ntmps239 rfl ?_
   have zx4:= @xN;have zx5:= @xO;have zx6:= @xP;have zx7:= @hq;have zx8:=aA;have zx9:=aA;repeat' (first|refine zqN ?_|((first|refine ay rfl (λK hK=>?_)|refine au (λK hK=>?_));(first|apply dN);refine sJ ?_;apply hK;clear hK K)|refine mh ?_|refine mo ?_|(refine mq ?_ ?_<;>intro hc<;>try exact zqM))
   all_goals exact aB []
  ·obtain⟨e,hq8⟩:=key x 24 omgz (by rw[show(2:Nat)^24=16777216 from rfl];omega) omgz
   generalize hq:b8 x=q at e hq8
   refine az Tryz.func239 Tryz.ntmps239 rfl ?_
   have zx4:= @xN;have zx5:= @xO;have zx6:= @xP;have zx7:= @hq;have zx8:=aA;have zx9:=aA;repeat' (first|refine zqN ?_|((first|refine ay rfl (λK hK=>?_)|refine au (λK hK=>?_));(first|apply dN);refine sJ ?_;apply hK;clear hK K)|refine mh ?_|refine mo ?_|(refine mq ?_ ?_<;>intro hc<;>try exact zqM))
   all_goals exact aB []
theorem agC(h:b<=64):ACall Tryz.prog 238 [.val (.int .i64 b)] [] 0 (.val (.int .i64 (Lib.l10 b))) []:=by
 have zx1:Int.fdiv ((b:Int)*78913) (2^min 18 (IntKind.bits .i64))=((Lib.l10 b:Nat):Int):=by
  rw[show IntKind.bits .i64=64 from rfl,show min 18 64=18 from rfl,Int.fdiv_eq_ediv_of_nonneg _ (by decide)]
  unfold Lib.l10
  rw[show(2:Int)^18=((262144:Nat):Int) by rfl];omega
 refine az Tryz.func238 Tryz.ntmps238 rfl ?_
 have zx2:=aA;have zx3:=aA;repeat' (first|refine zqN ?_|refine dm ?_|refine dn ?_|(refine dw ?_ ?_<;>intro hc<;>try exact zqM))
 all_goals exact aB []
theorem Tc:ACall Tryz.prog 240 [.val (.bool B)] [] 0 (.val (.int .i64 (if B=true then 1 else 0))) []:=by
 cases B
 all_goals(refine az Tryz.func240 Tryz.ntmps240 rfl ?_)
 all_goals repeat' (first|refine zqN ?_|refine aY ?_|refine aZ ?_|(refine bf ?_ ?_<;>intro hc<;>try exact zqM))
 all_goals exact aB []
theorem agD{st:St} {g:Nat}:st.op (.global g)=GV g:=rfl
theorem ajJ:GV 1= .ipt (cI .u64 tabP) 0:=rfl
theorem Td:tabP.length=20:=rfl
theorem Zm:∀i,i<20->tabP[i]? =some ((10^i:Nat):Int):=by decide
theorem nDig(h:0<u):Lib.nDigits u=dgs u:=by
 obtain⟨h1,h2⟩:=zT h
 obtain⟨q,hq⟩:∃q,dgs u=q+1:=⟨_,(Nat.succ_pred_eq_of_pos h1).symm⟩
 have h3:=Dl (u:=u)
 rw[hq] at h2 h3⊢
 exact Lib.nDigits_unique q u h2 h3
theorem Zn(h0:0<u)(hu:u<4294967296):ACall Tryz.prog 230 [.val (.int .u64 u)] [] 0 (.val (.int .i64 (dgs u))) []:=by
 obtain⟨h1,h2⟩:=Lib.numDigits_eq u h0 omgz
 have hb:=Lib.bitLenAux_bounds 64 u omgz omgz
 have hbu:Lib.bitLenAux 64 u<=64:=by
  refine Decidable.not_not.1 λhc=>?_
  have:2^64<=2^(Lib.bitLenAux 64 u-1):=Nat.pow_le_pow_right (by decide) omgz
  omega
 rw[nDig h0] at h1
 rw[<-h1]
 unfold Lib.bitLen at*
 have h9:=PLift.up (Ta h0 hu hb)
 have h10:=PLift.up (agC hbu)
 generalize Lib.bitLenAux 64 u=b at*
 generalize Lib.l10 b=k at*
 have zx4:=Zm k omgz
 have hp:10^k<=10^19:=Nat.pow_le_pow_right (by decide) h2
 generalize 10^k=P at*
 have hle:(((P:Nat):Int)<=(u:Int))=(P<=u):=propext Int.ofNat_le
 have zx5:=ae
 by_cases zx5:P<=u
 all_goals(refine az Tryz.func230 Tryz.ntmps230 rfl ?_)
 all_goals(have zx1:= @agD;have zx2:= @ajJ;have zx3:= @Td;have zx6:=aA;repeat' (first|refine zqN ?_|refine o7 h9.down ?_|refine o7 h10.down ?_|refine o7 Tc ?_|refine kI ?_|refine kJ ?_|(refine kK ?_ ?_<;>intro hc<;>try exact zqM)))
 all_goals first
  |(rw[if_pos zx5];exact aB [];done)
  |(rw[if_neg zx5];exact aB [];done)
  |skip
end
section
open Go Go.Sy Go.Bp Go.Lm
attribute [local irreducible] AO AL AC OpT ACall Ends DGo aK Thn Blk Nxt
variable {n k i m j u b c w q:Nat} {z:Bool} {l C:List Int} {v x y:Int} {B:Bool}
def sb(x:Int):Int:=(((smS.get! x.toNat).toNat:Nat):Int)
theorem iy(x:Int):(((smS.get! x.toNat).toNat:Nat):Int)=sb x:=rfl
def st2(C:List Int)(i:Nat)(x:Int):List Int:=(C.set i (sb (x+1))).set (i-1) (sb x)
def f8I(u:Nat)(C:List Int)(nd:Nat)(k:{k:Nat // k=0}):St:=⟨167,1,[(0,.sl 0 1 nd 1),(1,.val (.int .u64 u)),(4,.val (.int .i64 nd))],[(0,some (.full (cI .u8 C) 271))]⟩
theorem f8_3(h1:100<=u)(hu:u<1000)(hC:C.length=24):∃C':List Int,C'.length=24/\ACall Tryz.prog 231 [.sl 0 1 3 1,.val (.int .u64 u)] [.full (cI .u8 C) 271] 1 (.tup []) [.full (cI .u8 C') 271]:=by
 refine⟨(st2 C 3 ((u:Int)%100*2)).set 1 (48+(u:Int)/100),by simp[st2,hC],?_⟩
 unfold st2
 refine az Tryz.func231 Tryz.ntmps231 rfl ?_
 have zx1:= @gK;have zx2:= @gF;have zx3:= @iy;have zx4:= @hC;have zx5:= @List.length_set.{0};have zx6:=aA;repeat' (first|(refine ah ?_;refine ak [0] ([0].length) (f8I u C 3) (λk=>k.val) (⟨0,rfl⟩) rfl (by unfold f8I;exact dK) ?_;(rintro⟨k,hk⟩;(simp-dsimp only[f8I];refine zqS ?_)))|refine zqN ?_|((first|refine ay rfl (λK hK=>?_)|refine au (λK hK=>?_)|refine aD (λK hK=>?_));(first|apply jN|apply dN);refine nP ?_;apply hK;clear hK K)|refine kI ?_|refine kJ ?_|(refine kK ?_ ?_<;>intro hc<;>try exact zqM)|refine zqR [(7,12,[3],0),(7,14,[3],0),(8,12,[3],0),(8,14,[3],0),(9,12,[3],0),(9,14,[3],0),(10,12,[3],0),(10,14,[3],0),(17,12,[3],0),(17,14,[3],0),(18,12,[3],0),(18,14,[3],0),(23,12,[3],0),(23,14,[3],0)] ?_|refine zqD ?_|fail)
 all_goals exact aB [0]
theorem f8_4(h1:1000<=u)(hu:u<10000)(hC:C.length=24):∃C':List Int,C'.length=24/\ACall Tryz.prog 231 [.sl 0 1 4 1,.val (.int .u64 u)] [.full (cI .u8 C) 271] 1 (.tup []) [.full (cI .u8 C') 271]:=by
 refine⟨st2 (st2 C 4 ((u:Int)%10000%100*2)) 2 ((u:Int)%10000/100*2),by simp[st2,hC],?_⟩
 unfold st2
 refine az Tryz.func231 Tryz.ntmps231 rfl ?_
 have zx1:= @gK;have zx2:= @gF;have zx3:= @iy;have zx4:= @hC;have zx5:= @List.length_set.{0};have zx6:=aA;repeat' (first|(refine ah ?_;refine ak [0] ([0].length) (f8I u C 4) (λk=>k.val) (⟨0,rfl⟩) rfl (by unfold f8I;exact dK) ?_;(rintro⟨k,hk⟩;(simp-dsimp only[f8I];refine zqS ?_)))|refine zqN ?_|((first|refine ay rfl (λK hK=>?_)|refine au (λK hK=>?_)|refine aD (λK hK=>?_));(first|apply jN|apply dN);refine nP ?_;apply hK;clear hK K)|refine kI ?_|refine kJ ?_|(refine kK ?_ ?_<;>intro hc<;>try exact zqM)|refine zqR [(7,12,[3],0),(7,14,[3],0),(8,12,[3],0),(8,14,[3],0),(9,12,[3],0),(9,14,[3],0),(10,12,[3],0),(10,14,[3],0),(17,12,[3],0),(17,14,[3],0),(18,12,[3],0),(18,14,[3],0),(23,12,[3],0),(23,14,[3],0)] ?_|refine zqD ?_|fail)
 all_goals exact aB [0]
theorem f8_5(h1:10000<=u)(hu:u<100000)(hC:C.length=24):∃C':List Int,C'.length=24/\ACall Tryz.prog 231 [.sl 0 1 5 1,.val (.int .u64 u)] [.full (cI .u8 C) 271] 1 (.tup []) [.full (cI .u8 C') 271]:=by
 refine⟨(st2 (st2 C 5 ((u:Int)%10000%100*2)) 3 ((u:Int)%10000/100*2)).set 1 (48+(u:Int)/10000),by simp[st2,hC],?_⟩
 unfold st2
 refine az Tryz.func231 Tryz.ntmps231 rfl ?_
 have zx1:= @gK;have zx2:= @gF;have zx3:= @iy;have zx4:= @hC;have zx5:= @List.length_set.{0};have zx6:=aA;repeat' (first|(refine ah ?_;refine ak [0] ([0].length) (f8I u C 5) (λk=>k.val) (⟨0,rfl⟩) rfl (by unfold f8I;exact dK) ?_;(rintro⟨k,hk⟩;(simp-dsimp only[f8I];refine zqS ?_)))|refine zqN ?_|((first|refine ay rfl (λK hK=>?_)|refine au (λK hK=>?_)|refine aD (λK hK=>?_));(first|apply jN|apply dN);refine nP ?_;apply hK;clear hK K)|refine kI ?_|refine kJ ?_|(refine kK ?_ ?_<;>intro hc<;>try exact zqM)|refine zqR [(7,12,[3],0),(7,14,[3],0),(8,12,[3],0),(8,14,[3],0),(9,12,[3],0),(9,14,[3],0),(10,12,[3],0),(10,14,[3],0),(17,12,[3],0),(17,14,[3],0),(18,12,[3],0),(18,14,[3],0),(23,12,[3],0),(23,14,[3],0)] ?_|refine zqD ?_|fail)
 all_goals exact aB [0]
theorem f8_6(h1:100000<=u)(hu:u<1000000)(hC:C.length=24):∃C':List Int,C'.length=24/\ACall Tryz.prog 231 [.sl 0 1 6 1,.val (.int .u64 u)] [.full (cI .u8 C) 271] 1 (.tup []) [.full (cI .u8 C') 271]:=by
 refine⟨st2 (st2 (st2 C 6 ((u:Int)%10000%100*2)) 4 ((u:Int)%10000/100*2)) 2 ((u:Int)/10000%100*2),by simp[st2,hC],?_⟩
 unfold st2
 refine az Tryz.func231 Tryz.ntmps231 rfl ?_
 have zx1:= @gK;have zx2:= @gF;have zx3:= @iy;have zx4:= @hC;have zx5:= @List.length_set.{0};have zx6:=aA;repeat' (first|(refine ah ?_;refine ak [0] ([0].length) (f8I u C 6) (λk=>k.val) (⟨0,rfl⟩) rfl (by unfold f8I;exact dK) ?_;(rintro⟨k,hk⟩;(simp-dsimp only[f8I];refine zqS ?_)))|refine zqN ?_|((first|refine ay rfl (λK hK=>?_)|refine au (λK hK=>?_)|refine aD (λK hK=>?_));(first|apply jN|apply dN);refine nP ?_;apply hK;clear hK K)|refine kI ?_|refine kJ ?_|(refine kK ?_ ?_<;>intro hc<;>try exact zqM)|refine zqR [(7,12,[3],0),(7,14,[3],0),(8,12,[3],0),(8,14,[3],0),(9,12,[3],0),(9,14,[3],0),(10,12,[3],0),(10,14,[3],0),(17,12,[3],0),(17,14,[3],0),(18,12,[3],0),(18,14,[3],0),(23,12,[3],0),(23,14,[3],0)] ?_|refine zqD ?_|fail)
 all_goals exact aB [0]
theorem f8_7(h1:1000000<=u)(hu:u<10000000)(hC:C.length=24):∃C':List Int,C'.length=24/\ACall Tryz.prog 231 [.sl 0 1 7 1,.val (.int .u64 u)] [.full (cI .u8 C) 271] 1 (.tup []) [.full (cI .u8 C') 271]:=by
 refine⟨(st2 (st2 (st2 C 7 ((u:Int)%10000%100*2)) 5 ((u:Int)%10000/100*2)) 3 ((u:Int)/10000%100*2)).set 1 (48+(u:Int)/10000/100),by simp[st2,hC],?_⟩
 unfold st2
 refine az Tryz.func231 Tryz.ntmps231 rfl ?_
 have zx1:= @gK;have zx2:= @gF;have zx3:= @iy;have zx4:= @hC;have zx5:= @List.length_set.{0};have zx6:=aA;repeat' (first|(refine ah ?_;refine ak [0] ([0].length) (f8I u C 7) (λk=>k.val) (⟨0,rfl⟩) rfl (by unfold f8I;exact dK) ?_;(rintro⟨k,hk⟩;(simp-dsimp only[f8I];refine zqS ?_)))|refine zqN ?_|((first|refine ay rfl (λK hK=>?_)|refine au (λK hK=>?_)|refine aD (λK hK=>?_));(first|apply jN|apply dN);refine nP ?_;apply hK;clear hK K)|refine kI ?_|refine kJ ?_|(refine kK ?_ ?_<;>intro hc<;>try exact zqM)|refine zqR [(7,12,[3],0),(7,14,[3],0),(8,12,[3],0),(8,14,[3],0),(9,12,[3],0),(9,14,[3],0),(10,12,[3],0),(10,14,[3],0),(17,12,[3],0),(17,14,[3],0),(18,12,[3],0),(18,14,[3],0),(23,12,[3],0),(23,14,[3],0)] ?_|refine zqD ?_|fail)
 all_goals exact aB [0]
end
