/- Lp1 Lp3b Lp4 Lp2. No condition. -/
import Derived.Test.YtgmpdplpodemaaaGreatDoorLpG0
set_option linter.all false
set_option maxHeartbeats 4000000
set_option maxRecDepth 20000
namespace Go.Proofs.YtgmpdplpodemaaaGreatDoor
section
open Go Go.Sy Go.Bp Go.Lm
attribute [local irreducible] AO AL AC OpT ACall Ends DGo aN Thn Blk Nxt
variable {n N M k i m j:Nat} {z z':Bool} {l a b:List Int} {v x y:Int}
theorem a1s(x:Int):x+1-1=x:=by omega
theorem gd0{i:Nat}:l.getD i default=l.getD i 0:=rfl
theorem O4(h:j<l.length):(l.take (j+1))[j]? =some (l.getD j default):=by
 rw[List.getElem?_take_of_lt (by omega),List.getElem?_eq_getElem h,gd0,iI h]
theorem Xe:(l.take (j+1)).take j=l.take j:=by rw[List.take_take,Nat.min_eq_left (by omega)]
def trI(z:Bool)(l:List Int)(n:Nat)(j:{j:Nat // j≤n∧trN l j=trN l n}):St:=
 ⟨21,0,[(0,.isl z (cI .u32 (l.take j.val)) j.val)],[]⟩
theorem lG(hl:l.length=n)(hn:n<2^47):ACall Tryz.prog 210 [.isl z (cI .u32 l) n] [] 0 (.isl z (cI .u32 (l.take (trN l n))) (trN l n)) []:=by
 have zx2:cI .u32 (l.take n)=cI .u32 l:=by rw[←hl,List.take_length]
 have zx1:=ae;have hle:=qH (l:=l) (j:=n)
 refine az Tryz.func210 Tryz.ntmps210 rfl ?_
 have zx3:= @O4;have zx4:= @Xe;have zx5:= @a1s;have zx6:=aD;repeat' (first|(refine ai ?_;refine au [] ([].length) (trI z l n) (fun j=>j.val) (⟨n,Nat.le_refl _,rfl⟩) rfl (by unfold trI;exact gG) ?_;(rintro⟨j,hj,ht⟩;rcases Nat.eq_zero_or_pos j with h0|h0<;>first|(subst h0;(simp-dsimp only[trI];refine zqS ?_))|(obtain⟨j,rfl⟩:∃j',j=j'+1:=⟨j-1,by omega⟩;have hjl:j<l.length:=(by omega);rcases Decidable.em (l.getD j default=0) with zx1|zx1<;>(simp-dsimp only[trI];refine zqS ?_))))|(refine aj ?_;refine Nxt.mk [] (⟨j,by omega,by rw[←Dj zx1];exact ht⟩) rfl (by unfold trI;exact gG) zqO)|refine zqN ?_|refine adH ?_|refine NH ?_|refine NI ?_|refine NJ ?_|refine l7 ?_|(refine l8 ?_ ?_<;>intro hc<;>try exact zqM))
 all_goals first
  |(rw[WV] at ht;rw[←ht];(refine Ends.mk2 zqI [] ?_;simp-dsimp(disch:=try exact vD) only[push_cast,simprocAttr,Tryz.f210];try exact zqF);done)
  |(rw[Dk zx1] at ht;rw[←ht];(refine Ends.mk2 zqI [] ?_;simp-dsimp(disch:=try exact vD) only[push_cast,simprocAttr,Tryz.f210];try exact zqF);done)
  |skip
def mQ(a b:List Int):Int:=if val a<val b then-1 else if val b<val a then 1 else 0
theorem xW(h:val a<val b):mQ a b= -1:=if_pos h
theorem A7(h:val b<val a):mQ a b=1:=by unfold mQ;rw[if_neg (by omega),if_pos h]
theorem O5(h:a=b):mQ a b=0:=by subst h;unfold mQ;rw[if_neg (by omega),if_neg (by omega)]
def cpI(z z':Bool)(a b:List Int)(n:Nat)(k:{k:Nat // k≤n∧a.drop k=b.drop k}):St:=
 ⟨41,0,[(0,.isl z (cI .u32 a) n),(1,.isl z' (cI .u32 b) n),(5,.val (.int .i64 ((k.val:Int)-1)))],[]⟩
theorem Dv(ha:Lim a)(hb:Lim b)(hta:Tr a)(htb:Tr b)(hl:a.length=n)(hm:b.length=m)(hn:n<2^47)(hn2:m<2^47)(hne:¬n=m):ACall Tryz.prog 192 [.isl z (cI .u32 a) n,.isl z' (cI .u32 b) m] [] 0 (.val (.int .i64 (mQ a b))) []:=by
 have zx1:((n:Int)=m)=False:=eq_false (by omega)
 rcases Nat.lt_or_ge n m with h|h
 ·rw[xW (uy ha hb htb (by omega))]
  refine az Tryz.func192 Tryz.ntmps192 rfl ?_
  have zx2:=aD;have zx3:=aD;repeat' (first|refine zqN ?_|refine dx ?_|refine dz ?_|(refine dA ?_ ?_<;>intro hc<;>try exact zqM)|refine zqR 8 [⟨0,[],[24,27,28,29,30],[],[],0⟩,⟨1,[],[23,27,28,29,30],[],[],0⟩,⟨2,[0,1],[27,28,29,30],[],[],0⟩,⟨3,[0,1,2],[27,28,29,30],[],[],0⟩,⟨4,[],[23,24,25,26,28],[],[],0⟩,⟨5,[],[23,24,25,26,27],[],[],0⟩,⟨6,[4,5],[23,24,25,26],[],[],0⟩,⟨7,[4,5,6],[23,24,25,26],[],[],0⟩,⟨8,[0,1,2,3,4,5,6,7],[],[],[],0⟩] ?_|refine zqR 9 [⟨0,[],[33,36,37,38,39],[],[],0⟩,⟨1,[],[32,36,37,38,39],[],[],0⟩,⟨2,[0,1],[36,37,38,39],[],[],0⟩,⟨3,[0,1,2],[36,37,38,39],[],[],0⟩,⟨4,[],[32,33,34,35,37],[],[],0⟩,⟨5,[],[32,33,34,35,36],[],[],0⟩,⟨6,[4,5],[32,33,34,35],[],[],0⟩,⟨7,[4,5,6],[32,33,34,35],[],[],0⟩,⟨8,[0,1,2,3,4,5,6,7],[],[],[],0⟩] ?_|refine zqD ?_|fail)
  all_goals(refine Ends.mk2 zqI [] ?_;simp-dsimp(disch:=try exact vD) only[push_cast,simprocAttr,Tryz.f192];try exact zqF)
 ·rw[A7 (uy hb ha hta (by omega))]
  refine az Tryz.func192 Tryz.ntmps192 rfl ?_
  have zx2:=aD;have zx3:=aD;repeat' (first|refine zqN ?_|refine dx ?_|refine dz ?_|(refine dA ?_ ?_<;>intro hc<;>try exact zqM)|refine zqR 8 [⟨0,[],[24,27,28,29,30],[],[],0⟩,⟨1,[],[23,27,28,29,30],[],[],0⟩,⟨2,[0,1],[27,28,29,30],[],[],0⟩,⟨3,[0,1,2],[27,28,29,30],[],[],0⟩,⟨4,[],[23,24,25,26,28],[],[],0⟩,⟨5,[],[23,24,25,26,27],[],[],0⟩,⟨6,[4,5],[23,24,25,26],[],[],0⟩,⟨7,[4,5,6],[23,24,25,26],[],[],0⟩,⟨8,[0,1,2,3,4,5,6,7],[],[],[],0⟩] ?_|refine zqR 9 [⟨0,[],[33,36,37,38,39],[],[],0⟩,⟨1,[],[32,36,37,38,39],[],[],0⟩,⟨2,[0,1],[36,37,38,39],[],[],0⟩,⟨3,[0,1,2],[36,37,38,39],[],[],0⟩,⟨4,[],[32,33,34,35,37],[],[],0⟩,⟨5,[],[32,33,34,35,36],[],[],0⟩,⟨6,[4,5],[32,33,34,35],[],[],0⟩,⟨7,[4,5,6],[32,33,34,35],[],[],0⟩,⟨8,[0,1,2,3,4,5,6,7],[],[],[],0⟩] ?_|refine zqD ?_|fail)
  all_goals(refine Ends.mk2 zqI [] ?_;simp-dsimp(disch:=try exact vD) only[push_cast,simprocAttr,Tryz.f192];try exact zqF)
theorem II(hi:i<a.length)(hi2:i<b.length)(h:a.drop (i+1)=b.drop (i+1))(he:a.getD i default=b.getD i default):a.drop i=b.drop i:=by
 rw[List.drop_eq_getElem_cons hi,List.drop_eq_getElem_cons hi2,h]
 rw[gd0,gd0,iI hi,iI hi2] at he
 rw[he]
theorem A8(ha:Lim a)(hb:Lim b)(hl:a.length=n)(hm:b.length=n)(hn:n<2^47):ACall Tryz.prog 192 [.isl z (cI .u32 a) n,.isl z' (cI .u32 b) n] [] 0 (.val (.int .i64 (mQ a b))) []:=by
 have h0:n≤n∧a.drop n=b.drop n:=⟨Nat.le_refl _,by rw[List.drop_eq_nil_of_le (by omega),List.drop_eq_nil_of_le (by omega)]⟩
 have zx1:=ae;have zx2:=ae
 refine az Tryz.func192 Tryz.ntmps192 rfl ?_
 have zx3:= @a1s;repeat' (first|(refine ai ?_;refine au [] ([].length) (cpI z z' a b n) (fun k=>k.val) (⟨n,h0⟩) rfl (by unfold cpI;exact eH) ?_;(rintro⟨k,hk,hd⟩;rcases Nat.eq_zero_or_pos k with hk0|hk0<;>first|(subst hk0;(simp-dsimp only[cpI];refine zqS ?_))|(obtain⟨k,rfl⟩:∃k',k=k'+1:=⟨k-1,by omega⟩;have hka:k<a.length:=(by omega);have hkb:k<b.length:=(by omega);rcases Decidable.em (a.getD k default=b.getD k default) with zx1|zx1<;>rcases Decidable.em (a.getD k default<b.getD k default) with zx2|zx2<;>(simp-dsimp only[cpI];refine zqS ?_))))|(refine aj ?_;refine Nxt.mk [] (⟨k,by omega,II hka hkb hd zx1⟩) rfl (by unfold cpI;exact eH) zqO)|refine zqN ?_|refine dx ?_|refine dz ?_|(refine dA ?_ ?_<;>intro hc<;>try exact zqM)|refine zqR 8 [⟨0,[],[24,27,28,29,30],[],[],0⟩,⟨1,[],[23,27,28,29,30],[],[],0⟩,⟨2,[0,1],[27,28,29,30],[],[],0⟩,⟨3,[0,1,2],[27,28,29,30],[],[],0⟩,⟨4,[],[23,24,25,26,28],[],[],0⟩,⟨5,[],[23,24,25,26,27],[],[],0⟩,⟨6,[4,5],[23,24,25,26],[],[],0⟩,⟨7,[4,5,6],[23,24,25,26],[],[],0⟩,⟨8,[0,1,2,3,4,5,6,7],[],[],[],0⟩] ?_|refine zqR 9 [⟨0,[],[33,36,37,38,39],[],[],0⟩,⟨1,[],[32,36,37,38,39],[],[],0⟩,⟨2,[0,1],[36,37,38,39],[],[],0⟩,⟨3,[0,1,2],[36,37,38,39],[],[],0⟩,⟨4,[],[32,33,34,35,37],[],[],0⟩,⟨5,[],[32,33,34,35,36],[],[],0⟩,⟨6,[4,5],[32,33,34,35],[],[],0⟩,⟨7,[4,5,6],[32,33,34,35],[],[],0⟩,⟨8,[0,1,2,3,4,5,6,7],[],[],[],0⟩] ?_|refine zqD ?_|fail)
 all_goals first
  |(rw[O5 (by simpa using hd)];(refine Ends.mk2 zqI [] ?_;simp-dsimp(disch:=try exact vD) only[push_cast,simprocAttr,Tryz.f192];try exact zqF);done)
  |(rw[xW (cmp_lt ha hb (hl.trans hm.symm) hka hd zx2)];(refine Ends.mk2 zqI [] ?_;simp-dsimp(disch:=try exact vD) only[push_cast,simprocAttr,Tryz.f192];try exact zqF);done)
  |(rw[A7 (cmp_lt hb ha (hm.trans hl.symm) hkb hd.symm (by show b.getD k default<a.getD k default;omega))];(refine Ends.mk2 zqI [] ?_;simp-dsimp(disch:=try exact vD) only[push_cast,simprocAttr,Tryz.f192];try exact zqF);done)
  |skip
theorem lH(ha:Lim a)(hb:Lim b)(hta:Tr a)(htb:Tr b)(hl:a.length<2^47)(hm:b.length<2^47):ACall Tryz.prog 192 [.isl z (cI .u32 a) a.length,.isl z' (cI .u32 b) b.length] [] 0 (.val (.int .i64 (mQ a b))) []:=by
 by_cases h:a.length=b.length
 ·have:=A8 (z:=z) (z':=z') ha hb rfl h.symm hl
  rw[h] at this⊢;exact this
 ·exact Dv ha hb hta htb rfl rfl hl hm h
structure IV where
 z:Bool
 neg:Bool
 l:List Int
deriving DecidableEq
instance:Inhabited IV:=⟨⟨true,false,[]⟩⟩
instance:aa IV 2:=⟨fun x=>[.val (.bool x.neg),.isl x.z (cI .u32 x.l) x.l.length],fun _=>rfl,fun _=>rfl,fun _=>rfl⟩
theorem bE(x:IV):aa.cells x=[.val (.bool x.neg),.isl x.z (cI .u32 x.l) x.l.length]:=rfl
theorem iv_0(x:IV):(aa.cells x)[0]? =some (.val (.bool x.neg)):=rfl
theorem iv_1(x:IV):(aa.cells x)[1]? =some (.isl x.z (cI .u32 x.l) x.l.length):=rfl
attribute [push_cast] bE iv_0 iv_1
def iV(z:Bool)(v:Int):IV:=⟨z,decide (v<0),lb v.natAbs⟩
def iC(v:Int):IV:=iV (v==0) v
def sgn(v:Int):Int:=if v=0 then 0 else if v<0 then-1 else 1
theorem A9:ACall Tryz.prog 180 [.agg (aa.cells (iV z v))] [] 0 (.val (.int .i64 (sgn v))) []:=by
 have hl:(lb v.natAbs).length=0↔v=0:=by rw[List.length_eq_zero_iff,iZ];omega
 unfold iV
 obtain⟨L,hL⟩:∃L,lb v.natAbs=L:=⟨_,rfl⟩
 rw[hL] at hl⊢
 have hn:=ae;have zx1:=ae
 rcases Int.lt_trichotomy v 0 with h|h|h
 ·have e:sgn v= -1:=by unfold sgn;rw[if_neg (by omega),if_pos h]
  have hn:decide (v<0)=true:=decide_eq_true h
  have zx1:¬L.length=0:=fun h2=>by have:=hl.1 h2;omega
  rw[e,hn]
  refine az Tryz.func180 Tryz.ntmps180 rfl ?_
  have zx2:=aD;have zx3:=aD;repeat' (first|refine zqN ?_|refine dx ?_|refine dz ?_|(refine dA ?_ ?_<;>intro hc<;>try exact zqM))
  all_goals(refine Ends.mk2 zqI [] ?_;simp-dsimp(disch:=try exact vD) only[push_cast,simprocAttr,Tryz.f180];try exact zqF)
 ·have e:sgn v=0:=by unfold sgn;rw[if_pos h]
  have zx1:L.length=0:=hl.2 h
  rw[e]
  refine az Tryz.func180 Tryz.ntmps180 rfl ?_
  have zx2:=aD;have zx3:=aD;repeat' (first|refine zqN ?_|refine dx ?_|refine dz ?_|(refine dA ?_ ?_<;>intro hc<;>try exact zqM))
  all_goals(refine Ends.mk2 zqI [] ?_;simp-dsimp(disch:=try exact vD) only[push_cast,simprocAttr,Tryz.f180];try exact zqF)
 ·have e:sgn v=1:=by unfold sgn;rw[if_neg (by omega),if_neg (by omega)]
  have hn:decide (v<0)=false:=decide_eq_false (by omega)
  have zx1:¬L.length=0:=fun h2=>by have:=hl.1 h2;omega
  rw[e,hn]
  refine az Tryz.func180 Tryz.ntmps180 rfl ?_
  have zx2:=aD;have zx3:=aD;repeat' (first|refine zqN ?_|refine dx ?_|refine dz ?_|(refine dA ?_ ?_<;>intro hc<;>try exact zqM))
  all_goals(refine Ends.mk2 zqI [] ?_;simp-dsimp(disch:=try exact vD) only[push_cast,simprocAttr,Tryz.f180];try exact zqF)
end
set_option maxRecDepth 200000
section
open Go Go.Sy Go.Bp Go.Lm
attribute [local irreducible] AO AL AC OpT ACall Ends DGo aN Thn Blk Nxt
variable {n k i m j u b c w q:Nat} {z:Bool} {l C:List Int} {v x y:Int} {B:Bool}
def jw(C:List Int)(nd:Nat)(x:Int):List Int:=st2 (st2 (st2 (st2 C nd (x%10000%100*2)) (nd-2) (x%10000/100*2)) (nd-4) (x/10000%100*2)) (nd-6) (x/10000/100*2)
def f8J(u:Nat)(C:List Int)(nd:Nat)(k:{k:Nat // k≤1}):St:=⟨167,1,[(0,.sl 0 1 nd 1),(1,.val (.int .u64 (if k.val=0 then(u:Int)/100000000 else u))),(4,.val (.int .i64 (if k.val=0 then(nd:Int)-8 else nd)))],[(0,some (.full (cI .u8 (if k.val=0 then jw C nd ((u:Int)%100000000) else C)) 271))]⟩
theorem f8_8(h1:10000000≤u)(hu:u<100000000)(hC:C.length=24):∃C':List Int,C'.length=24∧ACall Tryz.prog 231 [.sl 0 1 8 1,.val (.int .u64 u)] [.full (cI .u8 C) 271] 1 (.tup []) [.full (cI .u8 C') 271]:=by
 refine⟨jw C 8 ((u:Int)%100000000),by simp[jw,st2,hC],?_⟩
 unfold jw st2
 refine az Tryz.func231 Tryz.ntmps231 rfl ?_
 repeat' (first|(refine ai ?_;refine au [0] ([0].length) (f8J u C 8) (fun k=>k.val) (⟨1,Nat.le_refl _⟩) rfl (by unfold f8J;(try simp only[List.cons_append,List.nil_append]);refine Sub.mk2 ?_;(simp-dsimp(disch:=try exact vD) only[push_cast,simprocAttr,jw,st2,fG,eZ,gH,hC,List.length_set]);(repeat refine aI ?_);first|done|exact vI) ?_;(rintro⟨k,hk⟩;rcases Nat.eq_zero_or_pos k with hk0|hk0<;>first|(subst hk0;(simp-dsimp(disch:=try exact vD) only[push_cast,simprocAttr,f8J,jw,st2]))|(have hk1:k=1:=(by omega);subst hk1;(simp-dsimp(disch:=try exact vD) only[push_cast,simprocAttr,f8J]))))|(refine aj ?_;refine Nxt.mk [0] (⟨0,by omega⟩) rfl (by unfold f8J;(try simp only[List.cons_append,List.nil_append]);refine Sub.mk2 ?_;(simp-dsimp(disch:=try exact vD) only[push_cast,simprocAttr,jw,st2,fG,eZ,gH,hC,List.length_set]);(repeat refine aI ?_);first|done|exact vI) (by first|omega|(dsimp only;omega)|(simp;done)|(simp;omega)))|apply bZ|apply aB|((first|refine ax rfl (fun K hK=>?_)|refine ak (fun K hK=>?_)|refine aJ (fun K hK=>?_));(first|apply jk|apply dG);simp-dsimp(disch:=try exact vD) only[push_cast,simprocAttr,jw,st2,fG,eZ,gH,hC,List.length_set];(repeat refine aI ?_);apply hK;clear hK K)|((first|refine ax rfl (fun K hK=>?_)|refine ak (fun K hK=>?_)|refine aJ (fun K hK=>?_));(first|apply bM|apply aR|apply bi|apply bJ|apply fP|apply bO|apply zm|apply dL|apply jh|apply iF|apply iQ|apply dE);simp-dsimp(disch:=try exact vD) only[push_cast,simprocAttr,jw,st2,fG,eZ,gH,hC,List.length_set];(repeat refine aI ?_);apply hK;clear hK K)|((first|refine aK rfl rfl (fun K1 K2 h1 h2=>?_) rfl|refine aF (fun K1 K2 h1 h2=>?_)|refine cO rfl rfl (fun K1 K2 h1 h2=>?_));simp-dsimp(disch:=try exact vD) only[push_cast,simprocAttr,jw,st2,fG,eZ,gH,hC,List.length_set];(first|(refine⟨fun hc=>?_,fun hc=>?_⟩<;>first|(exfalso;omega)|(exfalso;contradiction)|refine h1 ?_|refine h2 ?_)|refine h1 ?_|refine h2 ?_);all_goals clear h1 h2 K1 K2)|(refine dw (id:=7) (by kernel_rfl) [⟨0,[],[43,44,45,46,47,48,49,50,51,52],[],[],0⟩,⟨1,[],[42,45,46,47,48,49,50,51,52],[],[],0⟩,⟨2,[1],[42,45,46,47,48,49,50,51,52],[],[],0⟩,⟨3,[],[42,43,44,46,47,48,49,50,51,52,53],[3],[],0⟩,⟨4,[],[42,43,44,45,48,49,50,51,52,53],[3],[],0⟩,⟨5,[4],[42,43,44,45,48,49,50,51,52,53],[3],[],0⟩,⟨6,[],[42,43,44,45,46,47,51,52],[],[],0⟩,⟨7,[6],[42,43,44,45,46,47,51,52],[],[],0⟩,⟨8,[6,7],[42,43,44,45,46,47,51,52],[],[],0⟩,⟨9,[],[42,43,44,45,46,47,48,49,50,53],[3],[],0⟩,⟨10,[9],[42,43,44,45,46,47,48,49,50,53],[3],[],0⟩,⟨11,[0,1,2,6,7,8],[45,46,47,51,52],[],[],0⟩,⟨12,[0,1,2,6,7,8,11],[45,46,47,51,52],[],[3],0⟩,⟨13,[0,1,2,3,4,5,6,7,8,9,10,11,12],[],[],[],0⟩,⟨14,[0,1,2,3,4,5,6,7,8,9,10,11,12,13],[],[],[3],0⟩] (by kernel_rfl) (by kernel_rfl) (by kernel_rfl) ?_)|(refine dw (id:=8) (by kernel_rfl) [⟨0,[],[56,57,58,59,60,61,62,63,64,65],[],[],0⟩,⟨1,[],[55,58,59,60,61,62,63,64,65],[],[],0⟩,⟨2,[1],[55,58,59,60,61,62,63,64,65],[],[],0⟩,⟨3,[],[55,56,57,59,60,61,62,63,64,65,66],[3],[],0⟩,⟨4,[],[55,56,57,58,61,62,63,64,65,66],[3],[],0⟩,⟨5,[4],[55,56,57,58,61,62,63,64,65,66],[3],[],0⟩,⟨6,[],[55,56,57,58,59,60,64,65],[],[],0⟩,⟨7,[6],[55,56,57,58,59,60,64,65],[],[],0⟩,⟨8,[6,7],[55,56,57,58,59,60,64,65],[],[],0⟩,⟨9,[],[55,56,57,58,59,60,61,62,63,66],[3],[],0⟩,⟨10,[9],[55,56,57,58,59,60,61,62,63,66],[3],[],0⟩,⟨11,[0,1,2,6,7,8],[58,59,60,64,65],[],[],0⟩,⟨12,[0,1,2,6,7,8,11],[58,59,60,64,65],[],[3],0⟩,⟨13,[0,1,2,3,4,5,6,7,8,9,10,11,12],[],[],[],0⟩,⟨14,[0,1,2,3,4,5,6,7,8,9,10,11,12,13],[],[],[3],0⟩] (by kernel_rfl) (by kernel_rfl) (by kernel_rfl) ?_)|(refine dw (id:=9) (by kernel_rfl) [⟨0,[],[69,70,71,72,73,74,75,76,77,78],[],[],0⟩,⟨1,[],[68,71,72,73,74,75,76,77,78],[],[],0⟩,⟨2,[1],[68,71,72,73,74,75,76,77,78],[],[],0⟩,⟨3,[],[68,69,70,72,73,74,75,76,77,78,79],[3],[],0⟩,⟨4,[],[68,69,70,71,74,75,76,77,78,79],[3],[],0⟩,⟨5,[4],[68,69,70,71,74,75,76,77,78,79],[3],[],0⟩,⟨6,[],[68,69,70,71,72,73,77,78],[],[],0⟩,⟨7,[6],[68,69,70,71,72,73,77,78],[],[],0⟩,⟨8,[6,7],[68,69,70,71,72,73,77,78],[],[],0⟩,⟨9,[],[68,69,70,71,72,73,74,75,76,79],[3],[],0⟩,⟨10,[9],[68,69,70,71,72,73,74,75,76,79],[3],[],0⟩,⟨11,[0,1,2,6,7,8],[71,72,73,77,78],[],[],0⟩,⟨12,[0,1,2,6,7,8,11],[71,72,73,77,78],[],[3],0⟩,⟨13,[0,1,2,3,4,5,6,7,8,9,10,11,12],[],[],[],0⟩,⟨14,[0,1,2,3,4,5,6,7,8,9,10,11,12,13],[],[],[3],0⟩] (by kernel_rfl) (by kernel_rfl) (by kernel_rfl) ?_)|(refine dw (id:=10) (by kernel_rfl) [⟨0,[],[82,83,84,85,86,87,88,89,90,91],[],[],0⟩,⟨1,[],[81,84,85,86,87,88,89,90,91],[],[],0⟩,⟨2,[1],[81,84,85,86,87,88,89,90,91],[],[],0⟩,⟨3,[],[81,82,83,85,86,87,88,89,90,91,92],[3],[],0⟩,⟨4,[],[81,82,83,84,87,88,89,90,91,92],[3],[],0⟩,⟨5,[4],[81,82,83,84,87,88,89,90,91,92],[3],[],0⟩,⟨6,[],[81,82,83,84,85,86,90,91],[],[],0⟩,⟨7,[6],[81,82,83,84,85,86,90,91],[],[],0⟩,⟨8,[6,7],[81,82,83,84,85,86,90,91],[],[],0⟩,⟨9,[],[81,82,83,84,85,86,87,88,89,92],[3],[],0⟩,⟨10,[9],[81,82,83,84,85,86,87,88,89,92],[3],[],0⟩,⟨11,[0,1,2,6,7,8],[84,85,86,90,91],[],[],0⟩,⟨12,[0,1,2,6,7,8,11],[84,85,86,90,91],[],[3],0⟩,⟨13,[0,1,2,3,4,5,6,7,8,9,10,11,12],[],[],[],0⟩,⟨14,[0,1,2,3,4,5,6,7,8,9,10,11,12,13],[],[],[3],0⟩] (by kernel_rfl) (by kernel_rfl) (by kernel_rfl) ?_)|(refine dw (id:=17) (by kernel_rfl) [⟨0,[],[111,112,113,114,115,116,117,118,119,120],[],[],0⟩,⟨1,[],[110,113,114,115,116,117,118,119,120],[],[],0⟩,⟨2,[1],[110,113,114,115,116,117,118,119,120],[],[],0⟩,⟨3,[],[110,111,112,114,115,116,117,118,119,120,121],[3],[],0⟩,⟨4,[],[110,111,112,113,116,117,118,119,120,121],[3],[],0⟩,⟨5,[4],[110,111,112,113,116,117,118,119,120,121],[3],[],0⟩,⟨6,[],[110,111,112,113,114,115,119,120],[],[],0⟩,⟨7,[6],[110,111,112,113,114,115,119,120],[],[],0⟩,⟨8,[6,7],[110,111,112,113,114,115,119,120],[],[],0⟩,⟨9,[],[110,111,112,113,114,115,116,117,118,121],[3],[],0⟩,⟨10,[9],[110,111,112,113,114,115,116,117,118,121],[3],[],0⟩,⟨11,[0,1,2,6,7,8],[113,114,115,119,120],[],[],0⟩,⟨12,[0,1,2,6,7,8,11],[113,114,115,119,120],[],[3],0⟩,⟨13,[0,1,2,3,4,5,6,7,8,9,10,11,12],[],[],[],0⟩,⟨14,[0,1,2,3,4,5,6,7,8,9,10,11,12,13],[],[],[3],0⟩] (by kernel_rfl) (by kernel_rfl) (by kernel_rfl) ?_)|(refine dw (id:=18) (by kernel_rfl) [⟨0,[],[124,125,126,127,128,129,130,131,132,133],[],[],0⟩,⟨1,[],[123,126,127,128,129,130,131,132,133],[],[],0⟩,⟨2,[1],[123,126,127,128,129,130,131,132,133],[],[],0⟩,⟨3,[],[123,124,125,127,128,129,130,131,132,133,134],[3],[],0⟩,⟨4,[],[123,124,125,126,129,130,131,132,133,134],[3],[],0⟩,⟨5,[4],[123,124,125,126,129,130,131,132,133,134],[3],[],0⟩,⟨6,[],[123,124,125,126,127,128,132,133],[],[],0⟩,⟨7,[6],[123,124,125,126,127,128,132,133],[],[],0⟩,⟨8,[6,7],[123,124,125,126,127,128,132,133],[],[],0⟩,⟨9,[],[123,124,125,126,127,128,129,130,131,134],[3],[],0⟩,⟨10,[9],[123,124,125,126,127,128,129,130,131,134],[3],[],0⟩,⟨11,[0,1,2,6,7,8],[126,127,128,132,133],[],[],0⟩,⟨12,[0,1,2,6,7,8,11],[126,127,128,132,133],[],[3],0⟩,⟨13,[0,1,2,3,4,5,6,7,8,9,10,11,12],[],[],[],0⟩,⟨14,[0,1,2,3,4,5,6,7,8,9,10,11,12,13],[],[],[3],0⟩] (by kernel_rfl) (by kernel_rfl) (by kernel_rfl) ?_)|(refine dw (id:=23) (by kernel_rfl) [⟨0,[],[146,147,148,149,150,151,152,153,154,155],[],[],0⟩,⟨1,[],[145,148,149,150,151,152,153,154,155],[],[],0⟩,⟨2,[1],[145,148,149,150,151,152,153,154,155],[],[],0⟩,⟨3,[],[145,146,147,149,150,151,152,153,154,155,156],[3],[],0⟩,⟨4,[],[145,146,147,148,151,152,153,154,155,156],[3],[],0⟩,⟨5,[4],[145,146,147,148,151,152,153,154,155,156],[3],[],0⟩,⟨6,[],[145,146,147,148,149,150,154,155],[],[],0⟩,⟨7,[6],[145,146,147,148,149,150,154,155],[],[],0⟩,⟨8,[6,7],[145,146,147,148,149,150,154,155],[],[],0⟩,⟨9,[],[145,146,147,148,149,150,151,152,153,156],[3],[],0⟩,⟨10,[9],[145,146,147,148,149,150,151,152,153,156],[3],[],0⟩,⟨11,[0,1,2,6,7,8],[148,149,150,154,155],[],[],0⟩,⟨12,[0,1,2,6,7,8,11],[148,149,150,154,155],[],[3],0⟩,⟨13,[0,1,2,3,4,5,6,7,8,9,10,11,12],[],[],[],0⟩,⟨14,[0,1,2,3,4,5,6,7,8,9,10,11,12,13],[],[],[3],0⟩] (by kernel_rfl) (by kernel_rfl) (by kernel_rfl) ?_)|((first|refine iP (by kernel_rfl) (fun K hK=>?_)|refine kI (by kernel_rfl) (fun K hK=>?_));simp only[↓Go.Sy.fH,↓Go.Sy.fI,↓Go.Sy.ig,↓Go.Sy.fJ,↓Go.Sy.ik,↓Go.Sy.eT,↓Go.Sy.fK,push_cast,Nat.reduceLeDiff,Nat.reduceSub,Nat.reduceBEq,Nat.reduceEqDiff,Nat.reduceAdd,Nat.reduceLT,↓reduceIte,reduceCtorEq];refine hK _ _ _ ?_;clear hK K)|apply pY|apply cu|apply aL|apply bH|apply aX|apply aM|apply bI|apply aY|(refine aQ rfl ?_)|apply aZ|apply bG|apply bF|apply bY)
 all_goals first
  |((refine Ends.mk2 (by first|exact .inr rfl|exact .inl rfl) [0] ?_;simp-dsimp(disch:=try exact vD) only[push_cast,simprocAttr,Tryz.f231];try exact zqF);done)
  |skip
theorem f8_9(h1:100000000≤u)(hu:u<1000000000)(hC:C.length=24):∃C':List Int,C'.length=24∧ACall Tryz.prog 231 [.sl 0 1 9 1,.val (.int .u64 u)] [.full (cI .u8 C) 271] 1 (.tup []) [.full (cI .u8 C') 271]:=by
 refine⟨(jw C 9 ((u:Int)%100000000)).set 1 (48+(u:Int)/100000000),by simp[jw,st2,hC],?_⟩
 unfold jw st2
 refine az Tryz.func231 Tryz.ntmps231 rfl ?_
 repeat' (first|(refine ai ?_;refine au [0] ([0].length) (f8J u C 9) (fun k=>k.val) (⟨1,Nat.le_refl _⟩) rfl (by unfold f8J;(try simp only[List.cons_append,List.nil_append]);refine Sub.mk2 ?_;(simp-dsimp(disch:=try exact vD) only[push_cast,simprocAttr,jw,st2,fG,eZ,gH,hC,List.length_set]);(repeat refine aI ?_);first|done|exact vI) ?_;(rintro⟨k,hk⟩;rcases Nat.eq_zero_or_pos k with hk0|hk0<;>first|(subst hk0;(simp-dsimp(disch:=try exact vD) only[push_cast,simprocAttr,f8J,jw,st2]))|(have hk1:k=1:=(by omega);subst hk1;(simp-dsimp(disch:=try exact vD) only[push_cast,simprocAttr,f8J]))))|(refine aj ?_;refine Nxt.mk [0] (⟨0,by omega⟩) rfl (by unfold f8J;(try simp only[List.cons_append,List.nil_append]);refine Sub.mk2 ?_;(simp-dsimp(disch:=try exact vD) only[push_cast,simprocAttr,jw,st2,fG,eZ,gH,hC,List.length_set]);(repeat refine aI ?_);first|done|exact vI) (by first|omega|(dsimp only;omega)|(simp;done)|(simp;omega)))|apply bZ|apply aB|((first|refine ax rfl (fun K hK=>?_)|refine ak (fun K hK=>?_)|refine aJ (fun K hK=>?_));(first|apply jk|apply dG);simp-dsimp(disch:=try exact vD) only[push_cast,simprocAttr,jw,st2,fG,eZ,gH,hC,List.length_set];(repeat refine aI ?_);apply hK;clear hK K)|((first|refine ax rfl (fun K hK=>?_)|refine ak (fun K hK=>?_)|refine aJ (fun K hK=>?_));(first|apply bM|apply aR|apply bi|apply bJ|apply fP|apply bO|apply zm|apply dL|apply jh|apply iF|apply iQ|apply dE);simp-dsimp(disch:=try exact vD) only[push_cast,simprocAttr,jw,st2,fG,eZ,gH,hC,List.length_set];(repeat refine aI ?_);apply hK;clear hK K)|((first|refine aK rfl rfl (fun K1 K2 h1 h2=>?_) rfl|refine aF (fun K1 K2 h1 h2=>?_)|refine cO rfl rfl (fun K1 K2 h1 h2=>?_));simp-dsimp(disch:=try exact vD) only[push_cast,simprocAttr,jw,st2,fG,eZ,gH,hC,List.length_set];(first|(refine⟨fun hc=>?_,fun hc=>?_⟩<;>first|(exfalso;omega)|(exfalso;contradiction)|refine h1 ?_|refine h2 ?_)|refine h1 ?_|refine h2 ?_);all_goals clear h1 h2 K1 K2)|(refine dw (id:=7) (by kernel_rfl) [⟨0,[],[43,44,45,46,47,48,49,50,51,52],[],[],0⟩,⟨1,[],[42,45,46,47,48,49,50,51,52],[],[],0⟩,⟨2,[1],[42,45,46,47,48,49,50,51,52],[],[],0⟩,⟨3,[],[42,43,44,46,47,48,49,50,51,52,53],[3],[],0⟩,⟨4,[],[42,43,44,45,48,49,50,51,52,53],[3],[],0⟩,⟨5,[4],[42,43,44,45,48,49,50,51,52,53],[3],[],0⟩,⟨6,[],[42,43,44,45,46,47,51,52],[],[],0⟩,⟨7,[6],[42,43,44,45,46,47,51,52],[],[],0⟩,⟨8,[6,7],[42,43,44,45,46,47,51,52],[],[],0⟩,⟨9,[],[42,43,44,45,46,47,48,49,50,53],[3],[],0⟩,⟨10,[9],[42,43,44,45,46,47,48,49,50,53],[3],[],0⟩,⟨11,[0,1,2,6,7,8],[45,46,47,51,52],[],[],0⟩,⟨12,[0,1,2,6,7,8,11],[45,46,47,51,52],[],[3],0⟩,⟨13,[0,1,2,3,4,5,6,7,8,9,10,11,12],[],[],[],0⟩,⟨14,[0,1,2,3,4,5,6,7,8,9,10,11,12,13],[],[],[3],0⟩] (by kernel_rfl) (by kernel_rfl) (by kernel_rfl) ?_)|(refine dw (id:=8) (by kernel_rfl) [⟨0,[],[56,57,58,59,60,61,62,63,64,65],[],[],0⟩,⟨1,[],[55,58,59,60,61,62,63,64,65],[],[],0⟩,⟨2,[1],[55,58,59,60,61,62,63,64,65],[],[],0⟩,⟨3,[],[55,56,57,59,60,61,62,63,64,65,66],[3],[],0⟩,⟨4,[],[55,56,57,58,61,62,63,64,65,66],[3],[],0⟩,⟨5,[4],[55,56,57,58,61,62,63,64,65,66],[3],[],0⟩,⟨6,[],[55,56,57,58,59,60,64,65],[],[],0⟩,⟨7,[6],[55,56,57,58,59,60,64,65],[],[],0⟩,⟨8,[6,7],[55,56,57,58,59,60,64,65],[],[],0⟩,⟨9,[],[55,56,57,58,59,60,61,62,63,66],[3],[],0⟩,⟨10,[9],[55,56,57,58,59,60,61,62,63,66],[3],[],0⟩,⟨11,[0,1,2,6,7,8],[58,59,60,64,65],[],[],0⟩,⟨12,[0,1,2,6,7,8,11],[58,59,60,64,65],[],[3],0⟩,⟨13,[0,1,2,3,4,5,6,7,8,9,10,11,12],[],[],[],0⟩,⟨14,[0,1,2,3,4,5,6,7,8,9,10,11,12,13],[],[],[3],0⟩] (by kernel_rfl) (by kernel_rfl) (by kernel_rfl) ?_)|(refine dw (id:=9) (by kernel_rfl) [⟨0,[],[69,70,71,72,73,74,75,76,77,78],[],[],0⟩,⟨1,[],[68,71,72,73,74,75,76,77,78],[],[],0⟩,⟨2,[1],[68,71,72,73,74,75,76,77,78],[],[],0⟩,⟨3,[],[68,69,70,72,73,74,75,76,77,78,79],[3],[],0⟩,⟨4,[],[68,69,70,71,74,75,76,77,78,79],[3],[],0⟩,⟨5,[4],[68,69,70,71,74,75,76,77,78,79],[3],[],0⟩,⟨6,[],[68,69,70,71,72,73,77,78],[],[],0⟩,⟨7,[6],[68,69,70,71,72,73,77,78],[],[],0⟩,⟨8,[6,7],[68,69,70,71,72,73,77,78],[],[],0⟩,⟨9,[],[68,69,70,71,72,73,74,75,76,79],[3],[],0⟩,⟨10,[9],[68,69,70,71,72,73,74,75,76,79],[3],[],0⟩,⟨11,[0,1,2,6,7,8],[71,72,73,77,78],[],[],0⟩,⟨12,[0,1,2,6,7,8,11],[71,72,73,77,78],[],[3],0⟩,⟨13,[0,1,2,3,4,5,6,7,8,9,10,11,12],[],[],[],0⟩,⟨14,[0,1,2,3,4,5,6,7,8,9,10,11,12,13],[],[],[3],0⟩] (by kernel_rfl) (by kernel_rfl) (by kernel_rfl) ?_)|(refine dw (id:=10) (by kernel_rfl) [⟨0,[],[82,83,84,85,86,87,88,89,90,91],[],[],0⟩,⟨1,[],[81,84,85,86,87,88,89,90,91],[],[],0⟩,⟨2,[1],[81,84,85,86,87,88,89,90,91],[],[],0⟩,⟨3,[],[81,82,83,85,86,87,88,89,90,91,92],[3],[],0⟩,⟨4,[],[81,82,83,84,87,88,89,90,91,92],[3],[],0⟩,⟨5,[4],[81,82,83,84,87,88,89,90,91,92],[3],[],0⟩,⟨6,[],[81,82,83,84,85,86,90,91],[],[],0⟩,⟨7,[6],[81,82,83,84,85,86,90,91],[],[],0⟩,⟨8,[6,7],[81,82,83,84,85,86,90,91],[],[],0⟩,⟨9,[],[81,82,83,84,85,86,87,88,89,92],[3],[],0⟩,⟨10,[9],[81,82,83,84,85,86,87,88,89,92],[3],[],0⟩,⟨11,[0,1,2,6,7,8],[84,85,86,90,91],[],[],0⟩,⟨12,[0,1,2,6,7,8,11],[84,85,86,90,91],[],[3],0⟩,⟨13,[0,1,2,3,4,5,6,7,8,9,10,11,12],[],[],[],0⟩,⟨14,[0,1,2,3,4,5,6,7,8,9,10,11,12,13],[],[],[3],0⟩] (by kernel_rfl) (by kernel_rfl) (by kernel_rfl) ?_)|(refine dw (id:=17) (by kernel_rfl) [⟨0,[],[111,112,113,114,115,116,117,118,119,120],[],[],0⟩,⟨1,[],[110,113,114,115,116,117,118,119,120],[],[],0⟩,⟨2,[1],[110,113,114,115,116,117,118,119,120],[],[],0⟩,⟨3,[],[110,111,112,114,115,116,117,118,119,120,121],[3],[],0⟩,⟨4,[],[110,111,112,113,116,117,118,119,120,121],[3],[],0⟩,⟨5,[4],[110,111,112,113,116,117,118,119,120,121],[3],[],0⟩,⟨6,[],[110,111,112,113,114,115,119,120],[],[],0⟩,⟨7,[6],[110,111,112,113,114,115,119,120],[],[],0⟩,⟨8,[6,7],[110,111,112,113,114,115,119,120],[],[],0⟩,⟨9,[],[110,111,112,113,114,115,116,117,118,121],[3],[],0⟩,⟨10,[9],[110,111,112,113,114,115,116,117,118,121],[3],[],0⟩,⟨11,[0,1,2,6,7,8],[113,114,115,119,120],[],[],0⟩,⟨12,[0,1,2,6,7,8,11],[113,114,115,119,120],[],[3],0⟩,⟨13,[0,1,2,3,4,5,6,7,8,9,10,11,12],[],[],[],0⟩,⟨14,[0,1,2,3,4,5,6,7,8,9,10,11,12,13],[],[],[3],0⟩] (by kernel_rfl) (by kernel_rfl) (by kernel_rfl) ?_)|(refine dw (id:=18) (by kernel_rfl) [⟨0,[],[124,125,126,127,128,129,130,131,132,133],[],[],0⟩,⟨1,[],[123,126,127,128,129,130,131,132,133],[],[],0⟩,⟨2,[1],[123,126,127,128,129,130,131,132,133],[],[],0⟩,⟨3,[],[123,124,125,127,128,129,130,131,132,133,134],[3],[],0⟩,⟨4,[],[123,124,125,126,129,130,131,132,133,134],[3],[],0⟩,⟨5,[4],[123,124,125,126,129,130,131,132,133,134],[3],[],0⟩,⟨6,[],[123,124,125,126,127,128,132,133],[],[],0⟩,⟨7,[6],[123,124,125,126,127,128,132,133],[],[],0⟩,⟨8,[6,7],[123,124,125,126,127,128,132,133],[],[],0⟩,⟨9,[],[123,124,125,126,127,128,129,130,131,134],[3],[],0⟩,⟨10,[9],[123,124,125,126,127,128,129,130,131,134],[3],[],0⟩,⟨11,[0,1,2,6,7,8],[126,127,128,132,133],[],[],0⟩,⟨12,[0,1,2,6,7,8,11],[126,127,128,132,133],[],[3],0⟩,⟨13,[0,1,2,3,4,5,6,7,8,9,10,11,12],[],[],[],0⟩,⟨14,[0,1,2,3,4,5,6,7,8,9,10,11,12,13],[],[],[3],0⟩] (by kernel_rfl) (by kernel_rfl) (by kernel_rfl) ?_)|(refine dw (id:=23) (by kernel_rfl) [⟨0,[],[146,147,148,149,150,151,152,153,154,155],[],[],0⟩,⟨1,[],[145,148,149,150,151,152,153,154,155],[],[],0⟩,⟨2,[1],[145,148,149,150,151,152,153,154,155],[],[],0⟩,⟨3,[],[145,146,147,149,150,151,152,153,154,155,156],[3],[],0⟩,⟨4,[],[145,146,147,148,151,152,153,154,155,156],[3],[],0⟩,⟨5,[4],[145,146,147,148,151,152,153,154,155,156],[3],[],0⟩,⟨6,[],[145,146,147,148,149,150,154,155],[],[],0⟩,⟨7,[6],[145,146,147,148,149,150,154,155],[],[],0⟩,⟨8,[6,7],[145,146,147,148,149,150,154,155],[],[],0⟩,⟨9,[],[145,146,147,148,149,150,151,152,153,156],[3],[],0⟩,⟨10,[9],[145,146,147,148,149,150,151,152,153,156],[3],[],0⟩,⟨11,[0,1,2,6,7,8],[148,149,150,154,155],[],[],0⟩,⟨12,[0,1,2,6,7,8,11],[148,149,150,154,155],[],[3],0⟩,⟨13,[0,1,2,3,4,5,6,7,8,9,10,11,12],[],[],[],0⟩,⟨14,[0,1,2,3,4,5,6,7,8,9,10,11,12,13],[],[],[3],0⟩] (by kernel_rfl) (by kernel_rfl) (by kernel_rfl) ?_)|((first|refine iP (by kernel_rfl) (fun K hK=>?_)|refine kI (by kernel_rfl) (fun K hK=>?_));simp only[↓Go.Sy.fH,↓Go.Sy.fI,↓Go.Sy.ig,↓Go.Sy.fJ,↓Go.Sy.ik,↓Go.Sy.eT,↓Go.Sy.fK,push_cast,Nat.reduceLeDiff,Nat.reduceSub,Nat.reduceBEq,Nat.reduceEqDiff,Nat.reduceAdd,Nat.reduceLT,↓reduceIte,reduceCtorEq];refine hK _ _ _ ?_;clear hK K)|apply pY|apply cu|apply aL|apply bH|apply aX|apply aM|apply bI|apply aY|(refine aQ rfl ?_)|apply aZ|apply bG|apply bF|apply bY)
 all_goals first
  |((refine Ends.mk2 (by first|exact .inr rfl|exact .inl rfl) [0] ?_;simp-dsimp(disch:=try exact vD) only[push_cast,simprocAttr,Tryz.f231];try exact zqF);done)
  |skip
end
section
open Go Go.Sy Go.Bp Go.Lm
attribute [local irreducible] AO AL AC OpT ACall Ends DGo aN Thn Blk Nxt
variable {n k i m j u b c w q:Nat} {z:Bool} {l C:List Int} {v x y:Int} {B:Bool}
theorem fm10(h1:100≤u)(hu:u<1000000000)(hC:C.length=24):∃nd:Nat,dgs u=nd∧(nd=3∨nd=4∨nd=5∨nd=6∨nd=7∨nd=8∨nd=9)∧∃C':List Int,C'.length=24∧ACall Tryz.prog 231 [.sl 0 1 nd 1,.val (.int .u64 u)] [.full (cI .u8 C) 271] 1 (.tup []) [.full (cI .u8 C') 271]:=by
 rcases Nat.lt_or_ge u 1000 with a|a
 ·exact⟨3,iA (k:=2) h1 a,by omega,f8_3 h1 a hC⟩
 rcases Nat.lt_or_ge u 10000 with b|b
 ·exact⟨4,iA (k:=3) a b,by omega,f8_4 a b hC⟩
 rcases Nat.lt_or_ge u 100000 with a|a
 ·exact⟨5,iA (k:=4) b a,by omega,f8_5 b a hC⟩
 rcases Nat.lt_or_ge u 1000000 with b|b
 ·exact⟨6,iA (k:=5) a b,by omega,f8_6 a b hC⟩
 rcases Nat.lt_or_ge u 10000000 with a|a
 ·exact⟨7,iA (k:=6) b a,by omega,f8_7 b a hC⟩
 rcases Nat.lt_or_ge u 100000000 with b|b
 ·exact⟨8,iA (k:=7) a b,by omega,f8_8 a b hC⟩
 ·exact⟨9,iA (k:=8) b hu,by omega,f8_9 b hu hC⟩
theorem z24:cI .u8 (List.replicate 24 0)=[.val (.int .u8 0),.val (.int .u8 0),.val (.int .u8 0),.val (.int .u8 0),.val (.int .u8 0),.val (.int .u8 0),.val (.int .u8 0),.val (.int .u8 0),.val (.int .u8 0),.val (.int .u8 0),.val (.int .u8 0),.val (.int .u8 0),.val (.int .u8 0),.val (.int .u8 0),.val (.int .u8 0),.val (.int .u8 0),.val (.int .u8 0),.val (.int .u8 0),.val (.int .u8 0),.val (.int .u8 0),.val (.int .u8 0),.val (.int .u8 0),.val (.int .u8 0),.val (.int .u8 0)]:=rfl
theorem O9(h1:100≤u)(hu:u<1000000000):∃s:ByteArray,s.size=dgs u∧ACall Tryz.prog 223 [.val (.int .i64 u),.val (.int .i64 10)] [] 0 (.val (.string s)) []:=by
 have hn:=PLift.up (Vl (u:=u) (by omega) (by omega))
 obtain⟨nd,hnd,hor,C',hC',hf⟩:=fm10 (C:=List.replicate 24 0) h1 hu (by simp)
 rw[z24] at hf
 rw[hnd] at hn⊢
 have hf:=PLift.up hf
 refine⟨strOfNums ((C'.drop 1).take nd),by rw[strOfNums_size,List.length_take,List.length_drop];omega,?_⟩
 rcases hor with rfl|rfl|rfl|rfl|rfl|rfl|rfl
 all_goals(refine az Tryz.func223 Tryz.ntmps223 rfl ?_)
 all_goals(have zx1:= @hC';have zx2:=aD;have zx3:=aD;repeat' (first|refine zqN ?_|((first|refine ax rfl (fun K hK=>?_)|refine ak (fun K hK=>?_));(first|refine ah (f:=230) [] 0 false ?_|refine ah (f:=231) [0] 1 false ?_);refine Am ?_;(first|refine⟨_,_,hn.down,?_⟩|refine⟨_,_,hf.down,?_⟩);refine rG ?_;apply hK;clear hK K)|((first|refine ax rfl (fun K hK=>?_)|refine ak (fun K hK=>?_));(first|apply CP);refine rG ?_;apply hK;clear hK K)|((first|refine ax rfl (fun K hK=>?_)|refine ak (fun K hK=>?_));(first|apply jk|apply dG|apply rF);refine rG ?_;apply hK;clear hK K)|refine dx ?_|refine p8 ?_|refine p9 ?_|refine qa ?_|refine dz ?_|(refine dA ?_ ?_<;>intro hc<;>try exact zqM)))
 all_goals first
  |((refine Ends.mk2 zqI [] ?_;simp-dsimp(disch:=try exact vD) only[push_cast,simprocAttr,Tryz.f223];try exact zqF);done)
  |skip
def dgT:ByteArray:=⟨#[48,49,50,51,52,53,54,55,56,57,97,98,99,100,101,102,103,104,105,106,107,108,109,110,111,112,113,114,115,116,117,118,119,120,121,122]⟩
theorem Pb:(⟨#[48,49,50,51,52,53,54,55,56,57,97,98,99,100,101,102,103,104,105,106,107,108,109,110,111,112,113,114,115,116,117,118,119,120,121,122]⟩:ByteArray)=dgT:=rfl
theorem Dw:dgT.size=36:=by decide+kernel
theorem Vm(h:0≤x)(h2:x<10):∃s:ByteArray,s.size=1∧ACall Tryz.prog 229 [.val (.int .i64 x)] [] 0 (.val (.string s)) []:=by
 refine⟨dgT.extract x.toNat (x+1).toNat,by rw[ByteArray.size_extract,Dw];omega,?_⟩
 refine az Tryz.func229 Tryz.ntmps229 rfl ?_
 have zx1:= @Pb;have zx2:= @Dw;have zx3:=aD;repeat' (first|refine zqN ?_|((first|refine ax rfl (fun K hK=>?_)|refine ak (fun K hK=>?_));(first|apply rF);refine rG ?_;apply hK;clear hK K)|refine dx ?_|refine p8 ?_|refine p9 ?_|refine qa ?_|refine dz ?_|(refine dA ?_ ?_<;>intro hc<;>try exact zqM))
 all_goals(refine Ends.mk2 zqI [] ?_;simp-dsimp(disch:=try exact vD) only[push_cast,simprocAttr,Tryz.f229];try exact zqF)
theorem Vn(h:10≤x)(h2:x<100):∃s:ByteArray,s.size=2∧ACall Tryz.prog 229 [.val (.int .i64 x)] [] 0 (.val (.string s)) []:=by
 refine⟨smS.extract (x*2).toNat (x*2+2).toNat,by rw[ByteArray.size_extract,eZ];omega,?_⟩
 refine az Tryz.func229 Tryz.ntmps229 rfl ?_
 have zx1:= @fG;have zx2:= @eZ;have zx3:=aD;repeat' (first|refine zqN ?_|((first|refine ax rfl (fun K hK=>?_)|refine ak (fun K hK=>?_));(first|apply rF);refine rG ?_;apply hK;clear hK K)|refine dx ?_|refine p8 ?_|refine p9 ?_|refine qa ?_|refine dz ?_|(refine dA ?_ ?_<;>intro hc<;>try exact zqM))
 all_goals(refine Ends.mk2 zqI [] ?_;simp-dsimp(disch:=try exact vD) only[push_cast,simprocAttr,Tryz.f229];try exact zqF)
theorem xX{s:ByteArray}(h:0≤x)(h2:x<100)(hs:ACall Tryz.prog 229 [.val (.int .i64 x)] [] 0 (.val (.string s)) []):ACall Tryz.prog 223 [.val (.int .i64 x),.val (.int .i64 10)] [] 0 (.val (.string s)) []:=by
 have hs:=PLift.up hs
 refine az Tryz.func223 Tryz.ntmps223 rfl ?_
 repeat' (first|refine zqN ?_|refine aT hs.down ?_|((first|refine ax rfl (fun K hK=>?_)|refine ak (fun K hK=>?_));(first|apply CP);refine j5 ?_;apply hK;clear hK K)|((first|refine ax rfl (fun K hK=>?_)|refine ak (fun K hK=>?_));(first|apply jk|apply dG|apply rF);refine j5 ?_;apply hK;clear hK K)|refine bA ?_|refine l5 ?_|refine nk ?_|refine nA ?_|refine bB ?_|(refine bC ?_ ?_<;>intro hc<;>try exact zqM))
 all_goals(refine Ends.mk2 zqI [] ?_;simp-dsimp(disch:=try exact vD) only[push_cast,simprocAttr,Tryz.f223];try exact zqF)
theorem Dx(h0:0<u)(hu:u<1000000000):∃s:ByteArray,s.size=dgs u∧ACall Tryz.prog 208 [.val (.int .i64 u)] [] 0 (.val (.string s)) []:=by
 obtain⟨s,hs,hc⟩:∃s:ByteArray,s.size=dgs u∧ACall Tryz.prog 223 [.val (.int .i64 u),.val (.int .i64 10)] [] 0 (.val (.string s)) []:=by
  rcases Nat.lt_or_ge u 100 with a|a
  ·rcases Nat.lt_or_ge u 10 with b|b
   ·obtain⟨s,h1,h2⟩:=Vm (x:=u) (by omega) (by omega)
    exact⟨s,by rw[h1];exact(iA (k:=0) (by omega) b).symm,xX (by omega) (by omega) h2⟩
   ·obtain⟨s,h1,h2⟩:=Vn (x:=u) (by omega) (by omega)
    exact⟨s,by rw[h1];exact(iA (k:=1) b a).symm,xX (by omega) (by omega) h2⟩
  ·exact O9 a hu
 refine⟨s,hs,?_⟩
 have hc:=PLift.up hc
 have h2:ACall Tryz.prog 218 [.val (.int .i64 u)] [] 0 (.val (.string s)) []:=by
  refine az Tryz.func218 Tryz.ntmps218 rfl ?_
  repeat' (first|refine zqN ?_|refine aT hc.down ?_|refine bA ?_|refine bB ?_|(refine bC ?_ ?_<;>intro hc<;>try exact zqM))
  all_goals(refine Ends.mk2 zqI [] ?_;simp-dsimp(disch:=try exact vD) only[push_cast,simprocAttr,Tryz.f218];try exact zqF)
 have h2:=PLift.up h2
 refine az Tryz.func208 Tryz.ntmps208 rfl ?_
 repeat' (first|refine zqN ?_|refine aT h2.down ?_|refine bA ?_|refine bB ?_|(refine bC ?_ ?_<;>intro hc<;>try exact zqM))
 all_goals(refine Ends.mk2 zqI [] ?_;simp-dsimp(disch:=try exact vD) only[push_cast,simprocAttr,Tryz.f208];try exact zqF)
end
set_option maxRecDepth 20000
section
open Go Go.Sy Go.Bp Go.Lm
attribute [local irreducible] AO AL AC OpT ACall Ends DGo aN Thn Blk Nxt
variable {n N M k i m j:Nat} {z z' neg:Bool} {l a b:List Int} {v x y:Int} {xs:List IV} {X:IV}
theorem Pd(hl:l.length=0):ACall Tryz.prog 187 [.isl z (cI .u32 l) 0] [] 0 (.val (.int .i64 (dg9 l))) []:=by
 rw[O1 hl]
 refine az Tryz.func187 Tryz.ntmps187 rfl ?_
 repeat' (first|refine zqN ?_|refine bA ?_|refine bB ?_|(refine bC ?_ ?_<;>intro hc<;>try exact zqM))
 all_goals(refine Ends.mk2 zqI [] ?_;simp-dsimp(disch:=try exact vD) only[push_cast,simprocAttr,Tryz.f187];try exact zqF)
theorem Pe(hl:l.length=n+1)(hn:n<2^47)(hi:Lim l)(hw:¬l.getD n 0=0):ACall Tryz.prog 187 [.isl z (cI .u32 l) (n+1)] [] 0 (.val (.int .i64 (dg9 l))) []:=by
 have hr:=hi.at n
 rw[Du (by omega),hl,Nat.add_sub_cancel]
 obtain⟨w,hw2⟩:∃w:Nat,l.getD n 0=w:=Int.eq_ofNat_of_zero_le hr.1
 rw[hw2] at hr hw⊢
 have zx1:l.getD n default=w:=hw2
 rw[Int.toNat_natCast]
 obtain⟨s,zx2,hit⟩:=Dx (u:=w) (by omega) (by omega)
 have h9:=Xd (u:=w) (by omega)
 generalize dgs w=q at*
 have hit:=PLift.up hit
 refine az Tryz.func187 Tryz.ntmps187 rfl ?_
 have zx3:= @a1s;repeat' (first|refine zqN ?_|refine eG hit.down ?_|refine dx ?_|refine dz ?_|(refine dA ?_ ?_<;>intro hc<;>try exact zqM))
 all_goals first
  |((refine Ends.mk2 zqI [] ?_;simp-dsimp(disch:=try exact vD) only[push_cast,simprocAttr,Tryz.f187];try exact zqF);done)
  |skip
theorem uB(hl:l.length=n)(hn:n<2^47)(hi:Lim l)(ht:Tr l):ACall Tryz.prog 187 [.isl z (cI .u32 l) n] [] 0 (.val (.int .i64 (dg9 l))) []:=by
 subst hl
 rcases Nat.eq_zero_or_pos l.length with h0|h0
 ·rw[h0];exact Pd h0
 ·obtain⟨q,hq⟩:∃q,l.length=q+1:=⟨_,(Nat.succ_pred_eq_of_pos h0).symm⟩
  rcases ht with ht|ht
  ·rw[ht] at h0;exact absurd h0 (by decide)
  ·rw[hq] at ht hn⊢
   exact Pe hq (by omega) hi ht
def iuI(z:Bool)(F:Nat)(p:Int→Bool)(l:List Int)(n:Nat)(j:{j:Nat // j≤n∧∀i,i<j→p (l.getD i default)=false}):St:=
 ⟨19,0,[(0,.isl z (cI .u32 l) n),(1,.fn F []),(7,.val (.int .i64 n)),(8,.val (.int .i64 j.val))],[]⟩
theorem Vo{F:FuncId} [gV Tryz.prog F](p:Int→Bool)(hl:l.length=n)(hn:n<2^47)(hf:∀t:Int,ACall Tryz.prog F [.val (.int .u32 t)] [] 0 (.val (.bool (p t))) []):
 ACall Tryz.prog 207 [.isl z (cI .u32 l) n,.fn F []] [] 0 (.val (.int .i64 (ix p l))) []:=by
 refine az Tryz.func207 Tryz.ntmps207 rfl ?_
 repeat' (first|(refine ai ?_;refine au [] ([].length) (iuI z F p l n) (fun j=>n-j.val) (⟨0,by omega,fun i hi=>absurd hi (by omega)⟩) rfl (by unfold iuI;exact nU) ?_;(rintro⟨j,hj,hnb⟩;(simp-dsimp only[iuI];refine zqS ?_)))|(refine aj ?_;refine Nxt.mk [] (⟨j+1,by omega,nV hnb (by assumption)⟩) rfl (by unfold iuI;exact nU) zqO)|refine zqN ?_|((first|refine ax rfl (fun K hK=>?_)|refine ak (fun K hK=>?_));(first|refine jG (f:=F) [] 0 false ?_);refine nG ?_;(first|refine⟨_,_,hf (l.getD j default),?_⟩);refine j5 ?_;apply hK;clear hK K)|refine bA ?_|refine bB ?_|(refine bC ?_ ?_<;>intro hc<;>try exact zqM))
 all_goals first
  |(have e:ix p l=j:=um (by omega) hnb (by assumption);(refine Ends.mk2 zqI [] ?_;simp-dsimp(disch:=try exact vD) only[push_cast,simprocAttr,Tryz.f207,e];try exact zqF))
  |(have ej:j=n:=(by omega);subst ej;subst hl;have e:ix p l= -1:=oV hnb;(refine Ends.mk2 zqI [] ?_;simp-dsimp(disch:=try exact vD) only[push_cast,simprocAttr,Tryz.f207,e];try exact zqF))
theorem Pf{F:FuncId} [gV Tryz.prog F](p:Int→Bool)(hl:l.length=n)(hn:n<2^47)(hf:∀t:Int,ACall Tryz.prog F [.val (.int .u32 t)] [] 0 (.val (.bool (p t))) []):
 ACall Tryz.prog 185 [.isl z (cI .u32 l) n,.fn F []] [] 0 (.val (.bool (l.any p))) []:=by
 refine az Tryz.func185 Tryz.ntmps185 rfl ?_
 have zx1:= @lV;have zx2:=aD;have zx3:=aD;repeat' (first|refine zqN ?_|refine eG (Vo p hl hn hf) ?_|refine dx ?_|refine dz ?_|(refine dA ?_ ?_<;>intro hc<;>try exact zqM))
 all_goals(refine Ends.mk2 zqI [] ?_;simp-dsimp(disch:=try exact vD) only[push_cast,simprocAttr,Tryz.f185,lV];try exact zqF)
theorem KO:ACall Tryz.prog 186 [.val (.int .u32 x)] [] 0 (.val (.bool (decide (1000000000≤x)))) []:=by
 refine az Tryz.func186 Tryz.ntmps186 rfl ?_
 repeat' (first|refine zqN ?_|refine bA ?_|refine bB ?_|(refine bC ?_ ?_<;>intro hc<;>try exact zqM))
 all_goals(refine Ends.mk2 zqI [] ?_;simp-dsimp(disch:=try exact vD) only[push_cast,simprocAttr,Tryz.f186];try exact zqF)
def vB(X:IV):Bool:=
 if X.l.length=0 then !X.neg else if X.l.getD (X.l.length-1) 0=0∨34<X.l.length then false else if X.l.any (fun y=>decide (1000000000≤y))=true then false else decide (dg9 X.l≤300)
theorem Vp(h:X.l.length=0):vB X= !X.neg:=if_pos h
theorem aaH(h:¬X.l.length=0)(h2:X.l.getD (X.l.length-1) 0=0∨34<X.l.length):vB X=false:=by unfold vB;rw[if_neg h,if_pos h2]
theorem aaI(h:¬X.l.length=0)(h2:¬(X.l.getD (X.l.length-1) 0=0∨34<X.l.length))(h3:X.l.any (fun y=>decide (1000000000≤y))=true):vB X=false:=by unfold vB;rw[if_neg h,if_neg h2,if_pos h3]
theorem Vq(h:¬X.l.length=0)(h2:¬(X.l.getD (X.l.length-1) 0=0∨34<X.l.length))(h3:¬X.l.any (fun y=>decide (1000000000≤y))=true):vB X=decide (dg9 X.l≤300):=by unfold vB;rw[if_neg h,if_neg h2,if_neg h3]
def R32(l:List Int):Prop:=∀y∈l,0≤y∧y≤4294967295
theorem Ba(hr:R32 l)(h:¬l.any (fun y=>decide (1000000000≤y))=true):Lim l:=fun y hy=>by
 have:=hr y hy
 refine⟨this.1,Decidable.not_not.1 fun hc=>h ?_⟩
 rw[List.any_eq_true];exact⟨y,hy,by simp;omega⟩
theorem Vr(h:Lim l):¬l.any (fun y=>decide (1000000000≤y))=true:=fun hc=>by
 rw[List.any_eq_true] at hc
 obtain⟨y,h1,h2⟩:=hc
 have:=h y h1
 simp at h2;omega
theorem IJ(h:v.natAbs<10^300):vB (iV z v)=true:=by
 by_cases h0:(lb v.natAbs).length=0
 ·have e:=iZ.1 (List.length_eq_zero_iff.1 h0)
  rw[Vp (X:=iV z v) h0]
  show(!decide (v<0))=true
  rw[decide_eq_false (by omega)];rfl
 ·have hf:=Gc h
  have ht:=ja (n:=v.natAbs)
  have hne:¬((lb v.natAbs).getD ((lb v.natAbs).length-1) 0=0∨34<(lb v.natAbs).length):=by
   rcases ht with ht|ht
   ·exact absurd (by rw[ht];rfl) h0
   ·rintro(hc|hc)
    ·exact ht hc
    ·omega
  rw[Vq (X:=iV z v) h0 hne (Vr lim_lb)]
  exact decide_eq_true (xV.2 h)
theorem ac8(h:vB X=true)(hr:R32 X.l):∃v:Int,X=iV X.z v∧v.natAbs<10^300:=by
 by_cases h0:X.l.length=0
 ·rw[Vp h0] at h
  refine⟨0,?_,by decide+kernel⟩
  obtain⟨z,neg,l⟩:=X
  have hl:l=[]:=List.length_eq_zero_iff.1 h0
  have hn:neg=false:=by simpa using h
  subst hl;subst hn
  rfl
 ·by_cases h1:X.l.getD (X.l.length-1) 0=0∨34<X.l.length
  ·rw[aaH h0 h1] at h;cases h
  ·by_cases h2:X.l.any (fun y=>decide (1000000000≤y))=true
   ·rw[aaI h0 h1 h2] at h;cases h
   ·rw[Vq h0 h1 h2] at h
    have hl:=Ba hr h2
    have ht:Tr X.l:= .inr fun hc=>h1 (.inl hc)
    have hv:=bv hl
    have hd:=(O3 hl ht).1 (of_decide_eq_true h)
    have hge:=Iz hl ht fun e=>h0 (by rw[e];rfl)
    have hb:=iO (k:=X.l.length-1)
    have he:=OU hl ht
    obtain⟨z,neg,l⟩:=X
    dsimp only at*
    obtain⟨u,hu⟩:∃u:Nat,val l=u:=Int.eq_ofNat_of_zero_le hv.1
    rw[hu] at he hd hge
    rw[Int.toNat_natCast] at he
    cases neg with
    |true=>
     refine⟨-(u:Int),?_,by rw[Int.natAbs_neg,Int.natAbs_natCast];omega⟩
     unfold iV
     rw[Int.natAbs_neg,Int.natAbs_natCast,←he,decide_eq_true (show-(u:Int)<0 by omega)]
    |false=>
     refine⟨(u:Int),?_,by rw[Int.natAbs_natCast];omega⟩
     unfold iV
     rw[Int.natAbs_natCast,←he,decide_eq_false (show¬(u:Int)<0 by omega)]
theorem uC(hl:X.l.length=n)(hn:n<2^47)(hr:R32 X.l):ACall Tryz.prog 142 [.agg (aa.cells X)] [] 0 (.val (.bool (vB X))) []:=by
 have h0:=Vp (X:=X);have h1:=aaH (X:=X);have h2:=aaI (X:=X);have h3:=Vq (X:=X)
 have hco:=PLift.up (Pf (z:=X.z) (l:=X.l) (F:=186) (fun y=>decide (1000000000≤y)) hl (by omega) (fun t=>KO))
 have hdg:=fun h ht=>PLift.up (uB (z:=X.z) hl hn (Ba hr h) ht)
 obtain⟨z,neg,l⟩:=X
 rw[bE]
 dsimp only at*
 rw[hl] at h0 h1 h2 h3⊢
 have hgd:=ae;have ha:=ae
 generalize vB ⟨z,neg,l⟩=r at*
 rcases Nat.eq_zero_or_pos n with hz|hz
 ·subst hz
  rw[h0 rfl]
  refine az Tryz.func142 Tryz.ntmps142 rfl ?_
  repeat' (first|apply bZ|apply aB|((first|refine ax rfl (fun K hK=>?_)|refine ak (fun K hK=>?_));(first|apply bM|apply aR|apply bU|apply aO|apply dF|apply bi|apply bJ|apply fP|apply bO|apply fw|apply fM|apply fO|apply eY|apply bR|apply bu|apply aU|apply dE);simp-dsimp(disch:=try exact vD) only[push_cast,simprocAttr];(repeat refine aI ?_);apply hK;clear hK K)|((first|refine aK rfl rfl (fun K1 K2 h1 h2=>?_) rfl|refine aF (fun K1 K2 h1 h2=>?_));simp-dsimp(disch:=try exact vD) only[push_cast,simprocAttr];(first|(refine⟨fun hc=>?_,fun hc=>?_⟩<;>first|(exfalso;omega)|(exfalso;contradiction)|refine h1 ?_|refine h2 ?_)|refine h1 ?_|refine h2 ?_);all_goals clear h1 h2 K1 K2)|apply cu|apply aL|apply bH|apply aX|apply aM|apply bI|apply aY|(refine aQ rfl ?_)|apply aZ|apply bG|apply bF|apply bY)
  all_goals(refine Ends.mk2 (by first|exact .inr rfl|exact .inl rfl) [] ?_;simp-dsimp(disch:=try exact vD) only[push_cast,simprocAttr,Tryz.f142];try exact zqF)
 ·obtain⟨n,rfl⟩:∃m,n=m+1:=⟨_,(Nat.succ_pred_eq_of_pos hz).symm⟩
  rw[Nat.add_sub_cancel] at h1 h2 h3
  have hn0:¬n+1=0:=by omega
  rcases Decidable.em (l.getD n default=0) with hgd|hgd
  ·rw[h1 hn0 (.inl hgd)]
   refine az Tryz.func142 Tryz.ntmps142 rfl ?_
   repeat' (first|apply bZ|apply aB|((first|refine ax rfl (fun K hK=>?_)|refine ak (fun K hK=>?_));(first|apply bM|apply aR|apply bU|apply aO|apply dF|apply bi|apply bJ|apply fP|apply bO|apply fw|apply fM|apply fO|apply eY|apply bR|apply bu|apply aU|apply dE);simp-dsimp(disch:=try exact vD) only[push_cast,simprocAttr,hgd,a1s];(repeat refine aI ?_);apply hK;clear hK K)|((first|refine aK rfl rfl (fun K1 K2 h1 h2=>?_) rfl|refine aF (fun K1 K2 h1 h2=>?_));simp-dsimp(disch:=try exact vD) only[push_cast,simprocAttr,hgd,a1s];(first|(refine⟨fun hc=>?_,fun hc=>?_⟩<;>first|(exfalso;omega)|(exfalso;contradiction)|refine h1 ?_|refine h2 ?_)|refine h1 ?_|refine h2 ?_);all_goals clear h1 h2 K1 K2)|apply cu|apply aL|apply bH|apply aX|apply aM|apply bI|apply aY|(refine aQ rfl ?_)|apply aZ|apply bG|apply bF|apply bY)
   all_goals(refine Ends.mk2 (by first|exact .inr rfl|exact .inl rfl) [] ?_;simp-dsimp(disch:=try exact vD) only[push_cast,simprocAttr,Tryz.f142];try exact zqF)
  ·rcases Nat.lt_or_ge 34 (n+1) with hlen|hlen
   ·rw[h1 hn0 (.inr hlen)]
    refine az Tryz.func142 Tryz.ntmps142 rfl ?_
    repeat' (first|apply bZ|apply aB|((first|refine ax rfl (fun K hK=>?_)|refine ak (fun K hK=>?_));(first|apply bM|apply aR|apply bU|apply aO|apply dF|apply bi|apply bJ|apply fP|apply bO|apply fw|apply fM|apply fO|apply eY|apply bR|apply bu|apply aU|apply dE);simp-dsimp(disch:=try exact vD) only[push_cast,simprocAttr,hgd,a1s];(repeat refine aI ?_);apply hK;clear hK K)|((first|refine aK rfl rfl (fun K1 K2 h1 h2=>?_) rfl|refine aF (fun K1 K2 h1 h2=>?_));simp-dsimp(disch:=try exact vD) only[push_cast,simprocAttr,hgd,a1s];(first|(refine⟨fun hc=>?_,fun hc=>?_⟩<;>first|(exfalso;omega)|(exfalso;contradiction)|refine h1 ?_|refine h2 ?_)|refine h1 ?_|refine h2 ?_);all_goals clear h1 h2 K1 K2)|apply cu|apply aL|apply bH|apply aX|apply aM|apply bI|apply aY|(refine aQ rfl ?_)|apply aZ|apply bG|apply bF|apply bY)
    all_goals(refine Ends.mk2 (by first|exact .inr rfl|exact .inl rfl) [] ?_;simp-dsimp(disch:=try exact vD) only[push_cast,simprocAttr,Tryz.f142];try exact zqF)
   ·have hn1:¬(l.getD n 0=0∨34<n+1):=fun h=>h.elim hgd fun h=>by omega
    rcases Bool.eq_false_or_eq_true (l.any fun y=>decide (1000000000≤y)) with ha|ha
    ·rw[h2 hn0 hn1 ha]
     rw[ha] at hco
     refine az Tryz.func142 Tryz.ntmps142 rfl ?_
     repeat' (first|apply bZ|apply aB|((first|refine ax rfl (fun K hK=>?_)|refine ak (fun K hK=>?_));(first|refine ah (f:=185) [] 0 false ?_);simp-dsimp(disch:=try exact vD) only[push_cast,simprocAttr,hgd,a1s];(repeat refine aI ?_);intro G hG;refine hG _ _ ?_;clear hG G;(first|refine⟨_,_,hco.down,?_⟩);simp-dsimp(disch:=try exact vD) only[push_cast,simprocAttr,hgd,a1s];(repeat refine aI ?_);apply hK;clear hK K)|((first|refine ax rfl (fun K hK=>?_)|refine ak (fun K hK=>?_));(first|apply bM|apply aR|apply bU|apply aO|apply dF|apply bi|apply bJ|apply fP|apply bO|apply fw|apply fM|apply fO|apply eY|apply bR|apply bu|apply aU|apply dE);simp-dsimp(disch:=try exact vD) only[push_cast,simprocAttr,hgd,a1s];(repeat refine aI ?_);apply hK;clear hK K)|((first|refine aK rfl rfl (fun K1 K2 h1 h2=>?_) rfl|refine aF (fun K1 K2 h1 h2=>?_));simp-dsimp(disch:=try exact vD) only[push_cast,simprocAttr,hgd,a1s];(first|(refine⟨fun hc=>?_,fun hc=>?_⟩<;>first|(exfalso;omega)|(exfalso;contradiction)|refine h1 ?_|refine h2 ?_)|refine h1 ?_|refine h2 ?_);all_goals clear h1 h2 K1 K2)|apply cu|apply aL|apply bH|apply aX|apply aM|apply bI|apply aY|(refine aQ rfl ?_)|apply aZ|apply bG|apply bF|apply bY)
     all_goals(refine Ends.mk2 (by first|exact .inr rfl|exact .inl rfl) [] ?_;simp-dsimp(disch:=try exact vD) only[push_cast,simprocAttr,Tryz.f142];try exact zqF)
    ·have ha2:¬(l.any fun y=>decide (1000000000≤y))=true:=by rw[ha];simp
     rw[h3 hn0 hn1 ha2]
     have hdg:=hdg ha2 (.inr (by rw[hl];exact hgd))
     rw[ha] at hco
     have e:decide (dg9 l≤300)=decide (((dg9 l:Nat):Int)≤300):=decide_eq_decide.2 (by omega)
     rw[e]
     generalize dg9 l=dd at*
     refine az Tryz.func142 Tryz.ntmps142 rfl ?_
     repeat' (first|apply bZ|apply aB|((first|refine ax rfl (fun K hK=>?_)|refine ak (fun K hK=>?_));(first|refine ah (f:=185) [] 0 false ?_|refine ah (f:=187) [] 0 false ?_);simp-dsimp(disch:=try exact vD) only[push_cast,simprocAttr,hgd,a1s];(repeat refine aI ?_);intro G hG;refine hG _ _ ?_;clear hG G;(first|refine⟨_,_,hco.down,?_⟩|refine⟨_,_,hdg.down,?_⟩);simp-dsimp(disch:=try exact vD) only[push_cast,simprocAttr,hgd,a1s];(repeat refine aI ?_);apply hK;clear hK K)|((first|refine ax rfl (fun K hK=>?_)|refine ak (fun K hK=>?_));(first|apply bM|apply aR|apply bU|apply aO|apply dF|apply bi|apply bJ|apply fP|apply bO|apply fw|apply fM|apply fO|apply eY|apply bR|apply bu|apply aU|apply dE);simp-dsimp(disch:=try exact vD) only[push_cast,simprocAttr,hgd,a1s];(repeat refine aI ?_);apply hK;clear hK K)|((first|refine aK rfl rfl (fun K1 K2 h1 h2=>?_) rfl|refine aF (fun K1 K2 h1 h2=>?_));simp-dsimp(disch:=try exact vD) only[push_cast,simprocAttr,hgd,a1s];(first|(refine⟨fun hc=>?_,fun hc=>?_⟩<;>first|(exfalso;omega)|(exfalso;contradiction)|refine h1 ?_|refine h2 ?_)|refine h1 ?_|refine h2 ?_);all_goals clear h1 h2 K1 K2)|apply cu|apply aL|apply bH|apply aX|apply aM|apply bI|apply aY|(refine aQ rfl ?_)|apply aZ|apply bG|apply bF|apply bY)
     all_goals(refine Ends.mk2 (by first|exact .inr rfl|exact .inl rfl) [] ?_;simp-dsimp(disch:=try exact vD) only[push_cast,simprocAttr,Tryz.f142];try exact zqF)
end
