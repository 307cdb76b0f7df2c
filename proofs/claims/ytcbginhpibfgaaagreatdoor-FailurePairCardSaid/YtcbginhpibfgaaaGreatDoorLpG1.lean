/- Lp1 Lp4. No condition. -/
import Derived.Test.YtcbginhpibfgaaaGreatDoorLp3b
set_option linter.all false
set_option maxHeartbeats 4000000
set_option maxRecDepth 20000
namespace Go.Proofs.YtcbginhpibfgaaaGreatDoor
open Go Go.Sy Go.Bp Go.Lm
attribute [local irreducible] AO AL AC OpT ACall Ends DGo bK Thn Blk Nxt
variable {n N M k i m j:Nat} {z z':Bool} {l a b:List Int} {v x y:Int}
theorem a1s(x:Int):x+1-1=x:=by omega
theorem gd0{i:Nat}:l.getD i default=l.getD i 0:=rfl
theorem Xr(h:j<l.length):(l.take (j+1))[j]? =some (l.getD j default):=by
 rw[List.getElem?_take_of_lt (by omega),List.getElem?_eq_getElem h,gd0,iK h]
theorem aeS:(l.take (j+1)).take j=l.take j:=by rw[List.take_take,Nat.min_eq_left (by omega)]
def trI(z:Bool)(l:List Int)(n:Nat)(j:{j:Nat // j≤n∧trN l j=trN l n}):St:=
 ⟨21,0,[(0,.isl z (cI .u32 (l.take j.val)) j.val)],[]⟩
theorem mD(hl:l.length=n)(hn:n<2^47):ACall Tryz.prog 153 [.isl z (cI .u32 l) n] [] 0 (.isl z (cI .u32 (l.take (trN l n))) (trN l n)) []:=by
 have zx2:cI .u32 (l.take n)=cI .u32 l:=by rw[←hl,List.take_length]
 have zx1:=ae;have hle:=vg (l:=l) (j:=n)
 refine ak Tryz.func153 Tryz.ntmps153 rfl ?_
 have zx3:= @Xr;have zx4:= @aeS;have zx5:= @a1s;have zx6:=aC;repeat' (first|(refine ai ?_;refine au [] ([].length) (trI z l n) (fun j=>j.val) (⟨n,Nat.le_refl _,rfl⟩) rfl (by unfold trI;exact gY) ?_;(rintro⟨j,hj,ht⟩;rcases Nat.eq_zero_or_pos j with h0|h0<;>first|(subst h0;(simp-dsimp only[trI];refine zqS ?_))|(obtain⟨j,rfl⟩:∃j',j=j'+1:=⟨j-1,by omega⟩;have hjl:j<l.length:=(by omega);rcases Decidable.em (l.getD j default=0) with zx1|zx1<;>(simp-dsimp only[trI];refine zqS ?_))))|(refine ax ?_;refine Nxt.mk [] (⟨j,by omega,by rw[←LH zx1];exact ht⟩) rfl (by unfold trI;exact gY) zqO)|refine zqN ?_|refine kE ?_|refine AX ?_|refine AY ?_|refine AZ ?_|refine kF ?_|(refine kG ?_ ?_<;>intro hc<;>try exact zqM))
 all_goals first
  |(rw[aeL] at ht;rw[←ht];(refine Ends.mk2 zqI [] ?_;simp-dsimp(disch:=try exact vD) only[push_cast,simprocAttr,Tryz.f153];try exact zqF);done)
  |(rw[LJ zx1] at ht;rw[←ht];(refine Ends.mk2 zqI [] ?_;simp-dsimp(disch:=try exact vD) only[push_cast,simprocAttr,Tryz.f153];try exact zqF);done)
  |skip
def oh(a b:List Int):Int:=if val a<val b then-1 else if val b<val a then 1 else 0
theorem ES(h:val a<val b):oh a b= -1:=if_pos h
theorem JO(h:val b<val a):oh a b=1:=by unfold oh;rw[if_neg (by omega),if_pos h]
theorem Xt(h:a=b):oh a b=0:=by subst h;unfold oh;rw[if_neg (by omega),if_neg (by omega)]
def cpI(z z':Bool)(a b:List Int)(n:Nat)(k:{k:Nat // k≤n∧a.drop k=b.drop k}):St:=
 ⟨41,0,[(0,.isl z (cI .u32 a) n),(1,.isl z' (cI .u32 b) n),(5,.val (.int .i64 ((k.val:Int)-1)))],[]⟩
theorem LZ(ha:Lim a)(hb:Lim b)(hta:Tr a)(htb:Tr b)(hl:a.length=n)(hm:b.length=m)(hn:n<2^47)(hn2:m<2^47)(hne:¬n=m):ACall Tryz.prog 135 [.isl z (cI .u32 a) n,.isl z' (cI .u32 b) m] [] 0 (.val (.int .i64 (oh a b))) []:=by
 have zx1:((n:Int)=m)=False:=eq_false (by omega)
 rcases Nat.lt_or_ge n m with h|h
 ·rw[ES (yD ha hb htb (by omega))]
  refine ak Tryz.func135 Tryz.ntmps135 rfl ?_
  have zx2:=aC;have zx3:=aC;repeat' (first|refine zqN ?_|refine bM ?_|refine bO ?_|(refine bP ?_ ?_<;>intro hc<;>try exact zqM)|refine zqR 8 [⟨0,[],[24,27,28,29,30],[],[],0⟩,⟨1,[],[23,27,28,29,30],[],[],0⟩,⟨2,[0,1],[27,28,29,30],[],[],0⟩,⟨3,[0,1,2],[27,28,29,30],[],[],0⟩,⟨4,[],[23,24,25,26,28],[],[],0⟩,⟨5,[],[23,24,25,26,27],[],[],0⟩,⟨6,[4,5],[23,24,25,26],[],[],0⟩,⟨7,[4,5,6],[23,24,25,26],[],[],0⟩,⟨8,[0,1,2,3,4,5,6,7],[],[],[],0⟩] ?_|refine zqR 9 [⟨0,[],[33,36,37,38,39],[],[],0⟩,⟨1,[],[32,36,37,38,39],[],[],0⟩,⟨2,[0,1],[36,37,38,39],[],[],0⟩,⟨3,[0,1,2],[36,37,38,39],[],[],0⟩,⟨4,[],[32,33,34,35,37],[],[],0⟩,⟨5,[],[32,33,34,35,36],[],[],0⟩,⟨6,[4,5],[32,33,34,35],[],[],0⟩,⟨7,[4,5,6],[32,33,34,35],[],[],0⟩,⟨8,[0,1,2,3,4,5,6,7],[],[],[],0⟩] ?_|refine zqD ?_|fail)
  all_goals(refine Ends.mk2 zqI [] ?_;simp-dsimp(disch:=try exact vD) only[push_cast,simprocAttr,Tryz.f135];try exact zqF)
 ·rw[JO (yD hb ha hta (by omega))]
  refine ak Tryz.func135 Tryz.ntmps135 rfl ?_
  have zx2:=aC;have zx3:=aC;repeat' (first|refine zqN ?_|refine bM ?_|refine bO ?_|(refine bP ?_ ?_<;>intro hc<;>try exact zqM)|refine zqR 8 [⟨0,[],[24,27,28,29,30],[],[],0⟩,⟨1,[],[23,27,28,29,30],[],[],0⟩,⟨2,[0,1],[27,28,29,30],[],[],0⟩,⟨3,[0,1,2],[27,28,29,30],[],[],0⟩,⟨4,[],[23,24,25,26,28],[],[],0⟩,⟨5,[],[23,24,25,26,27],[],[],0⟩,⟨6,[4,5],[23,24,25,26],[],[],0⟩,⟨7,[4,5,6],[23,24,25,26],[],[],0⟩,⟨8,[0,1,2,3,4,5,6,7],[],[],[],0⟩] ?_|refine zqR 9 [⟨0,[],[33,36,37,38,39],[],[],0⟩,⟨1,[],[32,36,37,38,39],[],[],0⟩,⟨2,[0,1],[36,37,38,39],[],[],0⟩,⟨3,[0,1,2],[36,37,38,39],[],[],0⟩,⟨4,[],[32,33,34,35,37],[],[],0⟩,⟨5,[],[32,33,34,35,36],[],[],0⟩,⟨6,[4,5],[32,33,34,35],[],[],0⟩,⟨7,[4,5,6],[32,33,34,35],[],[],0⟩,⟨8,[0,1,2,3,4,5,6,7],[],[],[],0⟩] ?_|refine zqD ?_|fail)
  all_goals(refine Ends.mk2 zqI [] ?_;simp-dsimp(disch:=try exact vD) only[push_cast,simprocAttr,Tryz.f135];try exact zqF)
theorem Qp(hi:i<a.length)(hi2:i<b.length)(h:a.drop (i+1)=b.drop (i+1))(he:a.getD i default=b.getD i default):a.drop i=b.drop i:=by
 rw[List.drop_eq_getElem_cons hi,List.drop_eq_getElem_cons hi2,h]
 rw[gd0,gd0,iK hi,iK hi2] at he
 rw[he]
theorem JP(ha:Lim a)(hb:Lim b)(hl:a.length=n)(hm:b.length=n)(hn:n<2^47):ACall Tryz.prog 135 [.isl z (cI .u32 a) n,.isl z' (cI .u32 b) n] [] 0 (.val (.int .i64 (oh a b))) []:=by
 have h0:n≤n∧a.drop n=b.drop n:=⟨Nat.le_refl _,by rw[List.drop_eq_nil_of_le (by omega),List.drop_eq_nil_of_le (by omega)]⟩
 have zx1:=ae;have zx2:=ae
 refine ak Tryz.func135 Tryz.ntmps135 rfl ?_
 have zx3:= @a1s;repeat' (first|(refine ai ?_;refine au [] ([].length) (cpI z z' a b n) (fun k=>k.val) (⟨n,h0⟩) rfl (by unfold cpI;exact eQ) ?_;(rintro⟨k,hk,hd⟩;rcases Nat.eq_zero_or_pos k with hk0|hk0<;>first|(subst hk0;(simp-dsimp only[cpI];refine zqS ?_))|(obtain⟨k,rfl⟩:∃k',k=k'+1:=⟨k-1,by omega⟩;have hka:k<a.length:=(by omega);have hkb:k<b.length:=(by omega);rcases Decidable.em (a.getD k default=b.getD k default) with zx1|zx1<;>rcases Decidable.em (a.getD k default<b.getD k default) with zx2|zx2<;>(simp-dsimp only[cpI];refine zqS ?_))))|(refine ax ?_;refine Nxt.mk [] (⟨k,by omega,Qp hka hkb hd zx1⟩) rfl (by unfold cpI;exact eQ) zqO)|refine zqN ?_|refine bM ?_|refine bO ?_|(refine bP ?_ ?_<;>intro hc<;>try exact zqM)|refine zqR 8 [⟨0,[],[24,27,28,29,30],[],[],0⟩,⟨1,[],[23,27,28,29,30],[],[],0⟩,⟨2,[0,1],[27,28,29,30],[],[],0⟩,⟨3,[0,1,2],[27,28,29,30],[],[],0⟩,⟨4,[],[23,24,25,26,28],[],[],0⟩,⟨5,[],[23,24,25,26,27],[],[],0⟩,⟨6,[4,5],[23,24,25,26],[],[],0⟩,⟨7,[4,5,6],[23,24,25,26],[],[],0⟩,⟨8,[0,1,2,3,4,5,6,7],[],[],[],0⟩] ?_|refine zqR 9 [⟨0,[],[33,36,37,38,39],[],[],0⟩,⟨1,[],[32,36,37,38,39],[],[],0⟩,⟨2,[0,1],[36,37,38,39],[],[],0⟩,⟨3,[0,1,2],[36,37,38,39],[],[],0⟩,⟨4,[],[32,33,34,35,37],[],[],0⟩,⟨5,[],[32,33,34,35,36],[],[],0⟩,⟨6,[4,5],[32,33,34,35],[],[],0⟩,⟨7,[4,5,6],[32,33,34,35],[],[],0⟩,⟨8,[0,1,2,3,4,5,6,7],[],[],[],0⟩] ?_|refine zqD ?_|fail)
 all_goals first
  |(rw[Xt (by simpa using hd)];(refine Ends.mk2 zqI [] ?_;simp-dsimp(disch:=try exact vD) only[push_cast,simprocAttr,Tryz.f135];try exact zqF);done)
  |(rw[ES (cmp_lt ha hb (hl.trans hm.symm) hka hd zx2)];(refine Ends.mk2 zqI [] ?_;simp-dsimp(disch:=try exact vD) only[push_cast,simprocAttr,Tryz.f135];try exact zqF);done)
  |(rw[JO (cmp_lt hb ha (hm.trans hl.symm) hkb hd.symm (by show b.getD k default<a.getD k default;omega))];(refine Ends.mk2 zqI [] ?_;simp-dsimp(disch:=try exact vD) only[push_cast,simprocAttr,Tryz.f135];try exact zqF);done)
  |skip
theorem mE(ha:Lim a)(hb:Lim b)(hta:Tr a)(htb:Tr b)(hl:a.length<2^47)(hm:b.length<2^47):ACall Tryz.prog 135 [.isl z (cI .u32 a) a.length,.isl z' (cI .u32 b) b.length] [] 0 (.val (.int .i64 (oh a b))) []:=by
 by_cases h:a.length=b.length
 ·have:=JP (z:=z) (z':=z') ha hb rfl h.symm hl
  rw[h] at this⊢;exact this
 ·exact LZ ha hb hta htb rfl rfl hl hm h
structure IV where
 z:Bool
 neg:Bool
 l:List Int
deriving DecidableEq
instance:Inhabited IV:=⟨⟨true,false,[]⟩⟩
instance:aa IV 2:=⟨fun x=>[.val (.bool x.neg),.isl x.z (cI .u32 x.l) x.l.length],fun _=>rfl,fun _=>rfl,fun _=>rfl⟩
theorem bC(x:IV):aa.cells x=[.val (.bool x.neg),.isl x.z (cI .u32 x.l) x.l.length]:=rfl
theorem iv_0(x:IV):(aa.cells x)[0]? =some (.val (.bool x.neg)):=rfl
theorem iv_1(x:IV):(aa.cells x)[1]? =some (.isl x.z (cI .u32 x.l) x.l.length):=rfl
attribute [push_cast] bC iv_0 iv_1
def iV(z:Bool)(v:Int):IV:=⟨z,decide (v<0),lb v.natAbs⟩
def iC(v:Int):IV:=iV (v==0) v
def sgn(v:Int):Int:=if v=0 then 0 else if v<0 then-1 else 1
theorem JQ:ACall Tryz.prog 134 [.agg (aa.cells (iV z v))] [] 0 (.val (.int .i64 (sgn v))) []:=by
 have hl:(lb v.natAbs).length=0↔v=0:=by rw[List.length_eq_zero_iff,iE];omega
 unfold iV
 obtain⟨L,hL⟩:∃L,lb v.natAbs=L:=⟨_,rfl⟩
 rw[hL] at hl⊢
 have hn:=ae;have zx1:=ae
 rcases Int.lt_trichotomy v 0 with h|h|h
 ·have e:sgn v= -1:=by unfold sgn;rw[if_neg (by omega),if_pos h]
  have hn:decide (v<0)=true:=decide_eq_true h
  have zx1:¬L.length=0:=fun h2=>by have:=hl.1 h2;omega
  rw[e,hn]
  refine ak Tryz.func134 Tryz.ntmps134 rfl ?_
  have zx2:=aC;have zx3:=aC;repeat' (first|refine zqN ?_|refine bM ?_|refine bO ?_|(refine bP ?_ ?_<;>intro hc<;>try exact zqM))
  all_goals(refine Ends.mk2 zqI [] ?_;simp-dsimp(disch:=try exact vD) only[push_cast,simprocAttr,Tryz.f134];try exact zqF)
 ·have e:sgn v=0:=by unfold sgn;rw[if_pos h]
  have zx1:L.length=0:=hl.2 h
  rw[e]
  refine ak Tryz.func134 Tryz.ntmps134 rfl ?_
  have zx2:=aC;have zx3:=aC;repeat' (first|refine zqN ?_|refine bM ?_|refine bO ?_|(refine bP ?_ ?_<;>intro hc<;>try exact zqM))
  all_goals(refine Ends.mk2 zqI [] ?_;simp-dsimp(disch:=try exact vD) only[push_cast,simprocAttr,Tryz.f134];try exact zqF)
 ·have e:sgn v=1:=by unfold sgn;rw[if_neg (by omega),if_neg (by omega)]
  have hn:decide (v<0)=false:=decide_eq_false (by omega)
  have zx1:¬L.length=0:=fun h2=>by have:=hl.1 h2;omega
  rw[e,hn]
  refine ak Tryz.func134 Tryz.ntmps134 rfl ?_
  have zx2:=aC;have zx3:=aC;repeat' (first|refine zqN ?_|refine bM ?_|refine bO ?_|(refine bP ?_ ?_<;>intro hc<;>try exact zqM))
  all_goals(refine Ends.mk2 zqI [] ?_;simp-dsimp(disch:=try exact vD) only[push_cast,simprocAttr,Tryz.f134];try exact zqF)
end Go.Proofs.YtcbginhpibfgaaaGreatDoor
set_option maxRecDepth 200000
namespace Go.Proofs.YtcbginhpibfgaaaGreatDoor
open Go Go.Sy Go.Bp Go.Lm
attribute [local irreducible] AO AL AC OpT ACall Ends DGo bK Thn Blk Nxt
variable {n k i m j u b c w q:Nat} {z:Bool} {l C:List Int} {v x y:Int} {B:Bool}
theorem fm10(h1:100≤u)(hu:u<1000000000)(hC:C.length=24):∃nd:Nat,dgs u=nd∧(nd=3∨nd=4∨nd=5∨nd=6∨nd=7∨nd=8∨nd=9)∧∃C':List Int,C'.length=24∧ACall Tryz.prog 169 [.sl 0 1 nd 1,.val (.int .u64 u)] [.full (cI .u8 C) 181] 1 (.tup []) [.full (cI .u8 C') 181]:=by
 rcases Nat.lt_or_ge u 1000 with a|a
 ·exact⟨3,iF (k:=2) h1 a,by omega,f8_3 h1 a hC⟩
 rcases Nat.lt_or_ge u 10000 with b|b
 ·exact⟨4,iF (k:=3) a b,by omega,f8_4 a b hC⟩
 rcases Nat.lt_or_ge u 100000 with a|a
 ·exact⟨5,iF (k:=4) b a,by omega,f8_5 b a hC⟩
 rcases Nat.lt_or_ge u 1000000 with b|b
 ·exact⟨6,iF (k:=5) a b,by omega,f8_6 a b hC⟩
 rcases Nat.lt_or_ge u 10000000 with a|a
 ·exact⟨7,iF (k:=6) b a,by omega,f8_7 b a hC⟩
 rcases Nat.lt_or_ge u 100000000 with b|b
 ·exact⟨8,iF (k:=7) a b,by omega,f8_8 a b hC⟩
 ·exact⟨9,iF (k:=8) b hu,by omega,f8_9 b hu hC⟩
theorem z24:cI .u8 (List.replicate 24 0)=[.val (.int .u8 0),.val (.int .u8 0),.val (.int .u8 0),.val (.int .u8 0),.val (.int .u8 0),.val (.int .u8 0),.val (.int .u8 0),.val (.int .u8 0),.val (.int .u8 0),.val (.int .u8 0),.val (.int .u8 0),.val (.int .u8 0),.val (.int .u8 0),.val (.int .u8 0),.val (.int .u8 0),.val (.int .u8 0),.val (.int .u8 0),.val (.int .u8 0),.val (.int .u8 0),.val (.int .u8 0),.val (.int .u8 0),.val (.int .u8 0),.val (.int .u8 0),.val (.int .u8 0)]:=rfl
theorem Xx(h1:100≤u)(hu:u<1000000000):∃s:ByteArray,s.size=dgs u∧ACall Tryz.prog 166 [.val (.int .i64 u),.val (.int .i64 10)] [] 0 (.val (.string s)) []:=by
 have hn:=PLift.up (acZ (u:=u) (by omega) (by omega))
 obtain⟨nd,hnd,hor,C',hC',hf⟩:=fm10 (C:=List.replicate 24 0) h1 hu (by simp)
 rw[z24] at hf
 rw[hnd] at hn⊢
 have hf:=PLift.up hf
 refine⟨strOfNums ((C'.drop 1).take nd),by rw[strOfNums_size,List.length_take,List.length_drop];omega,?_⟩
 rcases hor with rfl|rfl|rfl|rfl|rfl|rfl|rfl
 all_goals(refine ak Tryz.func166 Tryz.ntmps166 rfl ?_)
 all_goals(have zx1:= @hC';have zx2:=aC;have zx3:=aC;repeat' (first|refine zqN ?_|((first|refine ay rfl (fun K hK=>?_)|refine aj (fun K hK=>?_));(first|refine ah (f:=168) [] 0 false ?_|refine ah (f:=169) [0] 1 false ?_);refine l8 ?_;(first|refine⟨_,_,hn.down,?_⟩|refine⟨_,_,hf.down,?_⟩);refine gQ ?_;apply hK;clear hK K)|((first|refine ay rfl (fun K hK=>?_)|refine aj (fun K hK=>?_));(first|apply Li);refine gQ ?_;apply hK;clear hK K)|((first|refine ay rfl (fun K hK=>?_)|refine aj (fun K hK=>?_));(first|apply jE|apply dZ|apply wy);refine gQ ?_;apply hK;clear hK K)|refine bM ?_|refine jT ?_|refine jU ?_|refine jV ?_|refine bO ?_|(refine bP ?_ ?_<;>intro hc<;>try exact zqM)))
 all_goals first
  |((refine Ends.mk2 zqI [] ?_;simp-dsimp(disch:=try exact vD) only[push_cast,simprocAttr,Tryz.f166];try exact zqF);done)
  |skip
def dgT:ByteArray:=⟨#[48,49,50,51,52,53,54,55,56,57,97,98,99,100,101,102,103,104,105,106,107,108,109,110,111,112,113,114,115,116,117,118,119,120,121,122]⟩
theorem Xy:(⟨#[48,49,50,51,52,53,54,55,56,57,97,98,99,100,101,102,103,104,105,106,107,108,109,110,111,112,113,114,115,116,117,118,119,120,121,122]⟩:ByteArray)=dgT:=rfl
theorem L6:dgT.size=36:=by decide+kernel
theorem ac0(h:0≤x)(h2:x<10):∃s:ByteArray,s.size=1∧ACall Tryz.prog 167 [.val (.int .i64 x)] [] 0 (.val (.string s)) []:=by
 refine⟨dgT.extract x.toNat (x+1).toNat,by rw[ByteArray.size_extract,L6];omega,?_⟩
 refine ak Tryz.func167 Tryz.ntmps167 rfl ?_
 have zx1:= @Xy;have zx2:= @L6;have zx3:=aC;repeat' (first|refine zqN ?_|((first|refine ay rfl (fun K hK=>?_)|refine aj (fun K hK=>?_));(first|apply wy);refine gQ ?_;apply hK;clear hK K)|refine bM ?_|refine jT ?_|refine jU ?_|refine jV ?_|refine bO ?_|(refine bP ?_ ?_<;>intro hc<;>try exact zqM))
 all_goals(refine Ends.mk2 zqI [] ?_;simp-dsimp(disch:=try exact vD) only[push_cast,simprocAttr,Tryz.f167];try exact zqF)
theorem ac1(h:10≤x)(h2:x<100):∃s:ByteArray,s.size=2∧ACall Tryz.prog 167 [.val (.int .i64 x)] [] 0 (.val (.string s)) []:=by
 refine⟨smS.extract (x*2).toNat (x*2+2).toNat,by rw[ByteArray.size_extract,fP];omega,?_⟩
 refine ak Tryz.func167 Tryz.ntmps167 rfl ?_
 have zx1:= @gu;have zx2:= @fP;have zx3:=aC;repeat' (first|refine zqN ?_|((first|refine ay rfl (fun K hK=>?_)|refine aj (fun K hK=>?_));(first|apply wy);refine gQ ?_;apply hK;clear hK K)|refine bM ?_|refine jT ?_|refine jU ?_|refine jV ?_|refine bO ?_|(refine bP ?_ ?_<;>intro hc<;>try exact zqM))
 all_goals(refine Ends.mk2 zqI [] ?_;simp-dsimp(disch:=try exact vD) only[push_cast,simprocAttr,Tryz.f167];try exact zqF)
theorem ET{s:ByteArray}(h:0≤x)(h2:x<100)(hs:ACall Tryz.prog 167 [.val (.int .i64 x)] [] 0 (.val (.string s)) []):ACall Tryz.prog 166 [.val (.int .i64 x),.val (.int .i64 10)] [] 0 (.val (.string s)) []:=by
 have hs:=PLift.up hs
 refine ak Tryz.func166 Tryz.ntmps166 rfl ?_
 repeat' (first|refine zqN ?_|refine az hs.down ?_|((first|refine ay rfl (fun K hK=>?_)|refine aj (fun K hK=>?_));(first|apply Li);refine gD ?_;apply hK;clear hK K)|((first|refine ay rfl (fun K hK=>?_)|refine aj (fun K hK=>?_));(first|apply jE|apply dZ|apply wy);refine gD ?_;apply hK;clear hK K)|refine aK ?_|refine iy ?_|refine iA ?_|refine iB ?_|refine aL ?_|(refine aM ?_ ?_<;>intro hc<;>try exact zqM))
 all_goals(refine Ends.mk2 zqI [] ?_;simp-dsimp(disch:=try exact vD) only[push_cast,simprocAttr,Tryz.f166];try exact zqF)
theorem Xz(h0:0<u)(hu:u<1000000000):∃s:ByteArray,s.size=dgs u∧ACall Tryz.prog 160 [.val (.int .i64 u)] [] 0 (.val (.string s)) []:=by
 obtain⟨s,hs,hc⟩:∃s:ByteArray,s.size=dgs u∧ACall Tryz.prog 166 [.val (.int .i64 u),.val (.int .i64 10)] [] 0 (.val (.string s)) []:=by
  rcases Nat.lt_or_ge u 100 with a|a
  ·rcases Nat.lt_or_ge u 10 with b|b
   ·obtain⟨s,h1,h2⟩:=ac0 (x:=u) (by omega) (by omega)
    exact⟨s,by rw[h1];exact(iF (k:=0) (by omega) b).symm,ET (by omega) (by omega) h2⟩
   ·obtain⟨s,h1,h2⟩:=ac1 (x:=u) (by omega) (by omega)
    exact⟨s,by rw[h1];exact(iF (k:=1) b a).symm,ET (by omega) (by omega) h2⟩
  ·exact Xx a hu
 refine⟨s,hs,?_⟩
 have hc:=PLift.up hc
 have h2:ACall Tryz.prog 165 [.val (.int .i64 u)] [] 0 (.val (.string s)) []:=by
  refine ak Tryz.func165 Tryz.ntmps165 rfl ?_
  repeat' (first|refine zqN ?_|refine az hc.down ?_|refine aK ?_|refine aL ?_|(refine aM ?_ ?_<;>intro hc<;>try exact zqM))
  all_goals(refine Ends.mk2 zqI [] ?_;simp-dsimp(disch:=try exact vD) only[push_cast,simprocAttr,Tryz.f165];try exact zqF)
 have h2:=PLift.up h2
 refine ak Tryz.func160 Tryz.ntmps160 rfl ?_
 repeat' (first|refine zqN ?_|refine az h2.down ?_|refine aK ?_|refine aL ?_|(refine aM ?_ ?_<;>intro hc<;>try exact zqM))
 all_goals(refine Ends.mk2 zqI [] ?_;simp-dsimp(disch:=try exact vD) only[push_cast,simprocAttr,Tryz.f160];try exact zqF)
