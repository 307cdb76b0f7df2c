/- Di4 Di13 Di17 Di18 Di19. No condition. -/
import Derived.Test.YtgmpdplpodemaaaGreatDoorDgG1
import Derived.Test.YtgmpdplpodemaaaGreatDoorEc3
set_option linter.all false
set_option maxHeartbeats 4000000
set_option maxRecDepth 20000
namespace Go.Proofs.YtgmpdplpodemaaaGreatDoor
section
open Go Go.Sy Go.Dg
attribute [local irreducible] AO AL AC OpT ACall Ends DGo aN Thn Blk Nxt
structure Fk where
 v:Int
 lo:Int
 hi:Int
deriving DecidableEq
instance:Inhabited Fk:=⟨⟨0,0,0⟩⟩
instance:aa Fk 3:=⟨fun x=>[.val (.int .i64 x.v),.val (.int .i64 x.lo),.val (.int .i64 x.hi)],fun _=>rfl,fun _=>rfl,fun _=>rfl⟩
variable {N N':Nat} {F F1 F2 G:List Fo} {L L':List Fk} {v lo hi n k k1 k2 k' i m s t a b r:Nat} {p q p' q':Int} {z z':Bool} {x y:Fk}
end
section
open Go Go.Sy Go.Bp Go.Dg
attribute [local irreducible] AO AL AC OpT ACall Ends DGo aN Thn Blk Nxt
variable {A F F1 F2 G:List Fo} {n N M k i m r a j w u v s q:Nat} {z:Bool} {b b1 b2:Bool} {p:Nat→Bool} {xs qs:List Nat} {H:iU}
theorem AJ:ACall Tryz.prog 42 [.val (.int .u16 (U s)),.val (.int .u16 (U q))] [] 0 (.val (.bool (decide (dJ q s%65536=0)))) []:=by
 refine az Tryz.func42 Tryz.ntmps42 rfl ?_
 repeat' (first|refine zqN ?_|refine bA ?_|refine bB ?_|(refine bC ?_ ?_<;>intro hc<;>try exact zqM))
 all_goals(refine Ends.mk2 zqI [] ?_;simp-dsimp(disch:=try exact vD) only[push_cast,simprocAttr,Tryz.f42];try exact zqF)
theorem UN:ACall Tryz.prog 41 [.val (.int .u16 (U q)),.ipt [.val (.int .u16 (U s))] 0] [] 0 (.val (.bool (decide (dJ q s%65536=0)))) []:=by
 refine az Tryz.func41 Tryz.ntmps41 rfl ?_
 repeat' (first|refine zqN ?_|refine aT AJ ?_|refine bA ?_|refine bB ?_|(refine bC ?_ ?_<;>intro hc<;>try exact zqM))
 all_goals(refine Ends.mk2 zqI [] ?_;simp-dsimp(disch:=try exact vD) only[push_cast,simprocAttr,Tryz.f41];try exact zqF)
theorem si(hl:qs.length=n)(hn:n<2^47):ACall Tryz.prog 14 [.isl z (cX qs) n,.val (.int .u16 (U s))] [] 0 (.val (.bool (eO qs s))) []:=by
 have h:=PLift.up (C8 (z:=z) (k:=qs) (F:=41) (c1:=[.val (.int .u16 (U s))]) (fun m=>decide (dJ m s%65536=0)) hl hn (fun m=>UN))
 have e:(qs.any fun m=>decide (dJ m s%65536=0))=eO qs s:=by unfold eO;rfl
 rw[e] at h
 refine az Tryz.func14 Tryz.ntmps14 rfl ?_
 repeat' (first|((first|refine dP (r:=1) 0 ?_|refine dO (r:=1) 0 ?_);refine j5 ?_;intro K hK;refine hK _ _ ?_;clear hK K)|refine zqN ?_|refine aT h.down ?_|refine bA ?_|refine bB ?_|(refine bC ?_ ?_<;>intro hc<;>try exact zqM))
 all_goals(refine Ends.mk2 zqI [] ?_;simp-dsimp(disch:=try exact vD) only[push_cast,simprocAttr,Tryz.f14];try exact zqF)
def mBl(p:Nat→Bool)(xs:List Nat)(j:Nat):Nat:=(mB p xs j).length
theorem AP:mB p xs 0=[]:=rfl
theorem sj:mBl p xs 0=0:=rfl
theorem UO(h1:eO (mB p xs j) (xs.getD j 0)=false)(h2:p (xs.getD j 0)=true):mB p xs (j+1)=mB p xs j++[xs.getD j 0]:=by
 show(if(!eO (mB p xs j) (xs.getD j 0)&&p (xs.getD j 0))=true then _ else _)=_
 rw[h1,h2];rfl
theorem Kw(h:eO (mB p xs j) (xs.getD j 0)=true∨p (xs.getD j 0)=false):mB p xs (j+1)=mB p xs j:=by
 show(if(!eO (mB p xs j) (xs.getD j 0)&&p (xs.getD j 0))=true then _ else _)=_
 rcases h with h|h
 ·rw[h];rfl
 ·rw[h,Bool.and_false];rfl
theorem WU(h:mB p xs (j+1)=mB p xs j++[q]):mBl p xs (j+1)=mBl p xs j+1:=by unfold mBl;rw[h];simp
theorem Oj(h:mB p xs (j+1)=mB p xs j):mBl p xs (j+1)=mBl p xs j:=by unfold mBl;rw[h]
theorem Ol:mBl p xs j≤j:=by
 induction j with
 |zero=>exact Nat.le_refl _
 |succ j ih=>
  cases h1:eO (mB p xs j) (xs.getD j 0) with
  |true=>rw[Oj (Kw (.inl h1))];omega
  |false=>
   cases h2:p (xs.getD j 0) with
   |false=>rw[Oj (Kw (.inr h2))];omega
   |true=>rw[WU (UO h1 h2)];omega
theorem nX(h:mBl p xs j=0):mB p xs j=[]:=List.length_eq_zero_iff.1 h
theorem gQ:(mB p xs j).length=mBl p xs j:=rfl
theorem jQ:(cX (mB p xs j)).take (mBl p xs j)=cX (mB p xs j):=List.take_of_length_le (by simp[cX,mBl])
theorem Ie:fd (fun _=>true) j n=(j+n,true):=by
 induction n generalizing j with
 |zero=>rfl
 |succ n ih=>rw[AA rfl,ih,show j+1+n=j+(n+1) by omega]
theorem eU:eO [] q=false:=by unfold eO;rfl
attribute [local irreducible] aA mem gq pick fd sbL dW mB mBl eO
end
section
open Go Go.Sy Go.Bp Go.Dg
attribute [local irreducible] AO AL AC OpT ACall Ends DGo aN Thn Blk Nxt
variable {n N M k i m r a b j w u v s q x y:Nat} {z:Bool} {xs:List Nat} {l:List Int} {p t:Int}
theorem UQ:ACall Tryz.prog 162 [.val (.int .i64 p)] [] 0 (.val (.bool false)) []:=by
 refine az Tryz.func162 Tryz.ntmps162 rfl ?_
 repeat' (first|refine zqN ?_|refine bA ?_|refine bB ?_|(refine bC ?_ ?_<;>intro hc<;>try exact zqM))
 all_goals(refine Ends.mk2 zqI [] ?_;simp-dsimp(disch:=try exact vD) only[push_cast,simprocAttr,Tryz.f162];try exact zqF)
theorem UR:ACall Tryz.prog 163 [.val (.int .u16 p)] [] 0 (.val (.bool false)) []:=by
 refine az Tryz.func163 Tryz.ntmps163 rfl ?_
 repeat' (first|refine zqN ?_|refine bA ?_|refine bB ?_|(refine bC ?_ ?_<;>intro hc<;>try exact zqM))
 all_goals(refine Ends.mk2 zqI [] ?_;simp-dsimp(disch:=try exact vD) only[push_cast,simprocAttr,Tryz.f163];try exact zqF)
def jT(p t:Int):Int:=if p<t then-1 else if t<p then 1 else 0
theorem UT:ACall Tryz.prog 119 [.val (.int .i64 p),.val (.int .i64 t)] [] 0 (.val (.int .i64 (jT p t))) []:=by
 have zx1:=ae;have zx2:=ae
 rcases Decidable.em (p<t) with zx1|zx1<;>rcases Decidable.em (t<p) with zx2|zx2
 all_goals first
  |(have e:jT p t= -1:=(by unfold jT;rw[if_pos zx1]);rw[e])
  |(have e:jT p t=1:=(by unfold jT;rw[if_neg zx1,if_pos zx2]);rw[e])
  |(have e:jT p t=0:=(by unfold jT;rw[if_neg zx1,if_neg zx2]);rw[e])
 all_goals(refine az Tryz.func119 Tryz.ntmps119 rfl ?_)
 all_goals(have zx3:=aD;repeat' (first|refine zqN ?_|refine eG UQ ?_|refine dx ?_|refine dz ?_|(refine dA ?_ ?_<;>intro hc<;>try exact zqM)))
 all_goals(refine Ends.mk2 zqI [] ?_;simp-dsimp(disch:=try exact vD) only[push_cast,simprocAttr,Tryz.f119,zx1,zx2];try exact zqF)
theorem UU:ACall Tryz.prog 120 [.val (.int .u16 p),.val (.int .u16 t)] [] 0 (.val (.int .i64 (jT p t))) []:=by
 have zx1:=ae;have zx2:=ae
 rcases Decidable.em (p<t) with zx1|zx1<;>rcases Decidable.em (t<p) with zx2|zx2
 all_goals first
  |(have e:jT p t= -1:=(by unfold jT;rw[if_pos zx1]);rw[e])
  |(have e:jT p t=1:=(by unfold jT;rw[if_neg zx1,if_pos zx2]);rw[e])
  |(have e:jT p t=0:=(by unfold jT;rw[if_neg zx1,if_neg zx2]);rw[e])
 all_goals(refine az Tryz.func120 Tryz.ntmps120 rfl ?_)
 all_goals(have zx3:=aD;repeat' (first|refine zqN ?_|refine eG UR ?_|refine dx ?_|refine dz ?_|(refine dA ?_ ?_<;>intro hc<;>try exact zqM)))
 all_goals(refine Ends.mk2 zqI [] ?_;simp-dsimp(disch:=try exact vD) only[push_cast,simprocAttr,Tryz.f120,zx1,zx2];try exact zqF)
def orL:List Int→Int
 |[]=>0
 |x::l=>if x=0 then orL l else x
theorem Om(h:l.getD i default=0):orL (l.drop i)=orL (l.drop (i+1)):=by
 by_cases hi:i<l.length
 ·rw[List.drop_eq_getElem_cons hi]
  have e:l[i]=0:=by rw[←h,List.getD_eq_getElem?_getD,List.getElem?_eq_getElem hi];rfl
  rw[orL,if_pos e]
 ·rw[List.drop_eq_nil_of_le (by omega),List.drop_eq_nil_of_le (by omega)]
theorem UV(hi:i<l.length)(h:¬l.getD i default=0):orL (l.drop i)=l.getD i default:=by
 have e:l.getD i default=l[i]:=by rw[List.getD_eq_getElem?_getD,List.getElem?_eq_getElem hi];rfl
 rw[e] at h⊢
 rw[List.drop_eq_getElem_cons hi,orL,if_neg h]
def Oo(z:Bool)(l:List Int)(n:Nat)(v:Int)(i:{i:Nat // i≤n∧orL (l.drop i)=v}):St:=
 ⟨18,0,[(3,.val (.int .i64 0)),(6,.isl z (cI .i64 l) n),(7,.val (.int .i64 n)),(8,.val (.int .i64 i.val))],[]⟩
theorem acW(hl:l.length=n)(hn:n<2^40):ACall Tryz.prog 118 [.isl z (cI .i64 l) n] [] 0 (.val (.int .i64 (orL l))) []:=by
 generalize hv:orL l=v
 have h0:0≤n∧orL (l.drop 0)=v:=⟨Nat.zero_le _,hv⟩
 have zx1:=ae
 refine az Tryz.func118 Tryz.ntmps118 rfl ?_
 have zx2:=aD;have zx3:=aD;repeat' (first|(refine ai ?_;refine au [] ([].length) (Oo z l n v) (fun i=>n-i.val) (⟨0,h0⟩) rfl (by unfold Oo;exact eH) ?_;(rintro⟨i,hi,hv1⟩;rcases Nat.lt_or_eq_of_le hi with hil|hil<;>first|(have ei:n=i:=hil.symm;subst ei;(simp-dsimp only[Oo];refine zqS ?_))|(rcases Decidable.em (l.getD i default=0) with zx1|zx1<;>(simp-dsimp only[Oo];refine zqS ?_))))|(refine aj ?_;refine Nxt.mk [] (⟨i+1,by omega,by rw[←Om zx1];exact hv1⟩) rfl (by unfold Oo;exact eH) zqO)|refine zqN ?_|refine dx ?_|refine dz ?_|(refine dA ?_ ?_<;>intro hc<;>try exact zqM))
 all_goals first
  |(have e:v=0:=(by rw[←hv1,←hl,List.drop_length];rfl);rw[e];(refine Ends.mk2 zqI [] ?_;simp-dsimp(disch:=try exact vD) only[push_cast,simprocAttr,Tryz.f118];try exact zqF);done)
  |(have e:v=l.getD i default:=(by rw[←hv1];exact UV (by omega) zx1);rw[e];(refine Ends.mk2 zqI [] ?_;simp-dsimp(disch:=try exact vD) only[push_cast,simprocAttr,Tryz.f118];try exact zqF);done)
  |skip
def uq(s q:Nat):Int:=orL [jT (aA s 16) (aA q 16),jT (U s) (U q)]
theorem FQ:ACall Tryz.prog 77 [.val (.int .u16 (U s)),.val (.int .u16 (U q))] [] 0 (.val (.int .i64 (uq s q))) []:=by
 have ho:=PLift.up (acW (z:=false) (l:=[jT (aA s 16) (aA q 16),jT (U s) (U q)]) (n:=2) rfl (by decide))
 unfold uq
 generalize orL [jT (aA s 16) (aA q 16),jT (U s) (U q)]=v at ho⊢
 refine az Tryz.func77 Tryz.ntmps77 rfl ?_
 repeat' (first|refine zqN ?_|((first|refine ax rfl (fun K hK=>?_)|refine ak (fun K hK=>?_));(first|refine ah (f:=12) (dst:=some 6) [] 0 false ?_|refine ah (f:=12) (dst:=some 8) [] 0 false ?_|refine ah (f:=119) [] 0 false ?_|refine ah (f:=120) [] 0 false ?_|refine ah (f:=118) [] 0 true ?_);refine nG ?_;(first|refine⟨_,_,qG (s:=s),?_⟩|refine⟨_,_,qG (s:=q),?_⟩|refine⟨_,_,UT,?_⟩|refine⟨_,_,UU,?_⟩|refine⟨_,_,ho.down,?_⟩);refine j5 ?_;apply hK;clear hK K)|refine bA ?_|refine bB ?_|(refine bC ?_ ?_<;>intro hc<;>try exact zqM))
 all_goals first
  |((refine Ends.mk2 zqI [] ?_;simp-dsimp(disch:=try exact vD) only[push_cast,simprocAttr,Tryz.f77];try exact zqF);done)
  |skip
def bef(s q:Nat):Bool:=if aA s 16=aA q 16 then decide (s%65536<q%65536) else decide (aA s 16<aA q 16)
theorem C9:jT p t<0↔p<t:=by unfold jT;split<;>(try split)<;>omega
theorem zG:jT p t=0↔p=t:=by unfold jT;split<;>(try split)<;>omega
theorem Ig:(0≤uq s q)=(bef s q=false):=by
 unfold uq orL orL orL bef
 apply propext
 have h1:=C9 (p:=(aA s 16:Int)) (t:=aA q 16)
 have h2:=zG (p:=(aA s 16:Int)) (t:=aA q 16)
 have h3:=C9 (p:=U s) (t:=U q)
 unfold U at*
 by_cases e:aA s 16=aA q 16
 ·rw[if_pos e,if_pos (h2.2 (by omega))]
  by_cases e2:jT ((s%65536:Nat):Int) ((q%65536:Nat):Int)=0
  ·rw[if_pos e2];have:=zG.1 e2;simp;omega
  ·rw[if_neg e2,decide_eq_false_iff_not];omega
 ·rw[if_neg e,if_neg (fun h=>e (by have:=h2.1 h;omega)),decide_eq_false_iff_not];omega
theorem jM(h:i<16):bit s i=s.testBit i:=by unfold bit;rw[oW h]
end
section
open Go Go.Sy Go.Bp Go.Dg
attribute [local irreducible] AO AL AC OpT ACall Ends DGo aN Thn Blk Nxt
variable {n N M k i m r a b j w u v s q x y:Nat} {z:Bool} {xs:List Nat} {e1:Int}
theorem Ih(x:Int):x+1-1=x:=by omega
theorem Oq:∀i,i<16→bit 61440 i=decide (12≤i):=by decide
theorem aad(x:Nat):(bP x (uN 61440)%65536=0)=(x%65536<4096):=by
 apply propext
 rw[show uN 61440=61440 from rfl]
 constructor
 ·intro h
  refine UD (n:=12) fun i hi=>?_
  by_cases hc:12≤i
  ·have hi6:=FK hi
   have h0:bit (bP x 61440) i=bit 0 i:=mM.1 (by rw[h]) i hi6
   rw[iy,hi,Oq i hi6,decide_eq_true hc,zA] at h0
   cases h0
  ·omega
 ·intro h
  have:bP x 61440%65536=0%65536:=mM.2 fun i hi=>by
   rw[iy,Oq i hi,zA]
   by_cases hc:12≤i
   ·have hp:2^12≤2^i:=Nat.pow_le_pow_right (by omega) hc
    have:bit x i=false:=by unfold bit;exact Nat.testBit_lt_two_pow (by omega)
    rw[this];rfl
   ·rw[decide_eq_false hc,Bool.and_false]
  exact this
def fe(xs:List Nat):Nat→Nat→Int
 |0,_=>0
 |m+1,i=>if¬xs.getD i default%65536<4096 then 7 else if 0<i∧bef (xs.getD (i-1) default) (xs.getD i default)=false then 1 else fe xs m (i+1)
theorem fe_r(h:¬xs.getD i default%65536<4096):fe xs (m+1) i=7:=by unfold fe;rw[if_pos h]
theorem fe_b(h:xs.getD i default%65536<4096)(hi:0<i)(hb:bef (xs.getD (i-1) default) (xs.getD i default)=false):fe xs (m+1) i=1:=by
 unfold fe;rw[if_neg (fun h2=>h2 h),if_pos ⟨hi,hb⟩]
theorem aae(h:xs.getD i default%65536<4096)(hb:0<i→bef (xs.getD (i-1) default) (xs.getD i default)=true):fe xs (m+1) i=fe xs m (i+1):=by
 conv=>lhs;unfold fe
 rw[if_neg (fun h2=>h2 h),if_neg (fun h2=>by rw[hb h2.1] at h2;cases h2.2)]
def KC(xs:List Nat):Bool:=(List.range xs.length).any fun i=>eO (xs.take i) (xs.getD i default)
def pR(xs:List Nat):Int:=if fe xs xs.length 0=0 then(if KC xs=true then 1 else 0) else fe xs xs.length 0
def fvA(z:Bool)(xs:List Nat)(n:Nat)(e1:Int)(i:{i:Nat // i≤n∧fe xs (n-i) i=e1}):St:=
 ⟨48,0,[(0,.isl z (cX xs) n),(10,.isl z (cX xs) n),(11,.val (.int .i64 n)),(12,.val (.int .i64 i.val))],[]⟩
def fvB(z:Bool)(xs:List Nat)(n:Nat)(i:{i:Nat // i≤n∧∀j,j<i→eO (xs.take j) (xs.getD j default)=false}):St:=
 ⟨48,0,[(0,.isl z (cX xs) n),(35,.isl z (cX xs) n),(36,.val (.int .i64 n)),(37,.val (.int .i64 i.val))],[]⟩
theorem Ot(hl:xs.length=n)(h:∀j,j<n→eO (xs.take j) (xs.getD j default)=false):KC xs=false:=by
 unfold KC
 rw[List.any_eq_false]
 intro j hj
 rw[h j (by have:=List.mem_range.1 hj;omega)];simp
theorem aaf(hl:xs.length=n)(hj:j<n)(h:eO (xs.take j) (xs.getD j default)=true):KC xs=true:=by
 unfold KC
 rw[List.any_eq_true]
 exact⟨j,List.mem_range.2 (by omega),h⟩
theorem Ou(hl:xs.length=n)(h:fe xs n 0=e1)(h0:e1≠0):pR xs=e1:=by unfold pR;rw[hl,h,if_neg h0]
theorem FR(hl:xs.length=n)(h:fe xs n 0=0):pR xs=if KC xs=true then 1 else 0:=by unfold pR;rw[hl,if_pos h]
theorem UW(hi:i<n):∃m,n-i=m+1∧n-(i+1)=m:=⟨n-i-1,by omega,by omega⟩
theorem ky(hl:xs.length=n)(hn:n≤400):ACall Tryz.prog 33 [.isl z (cX xs) n] [] 0 (.val (.int .i64 (pR xs))) []:=by
 obtain⟨e1,he1⟩:∃e1,fe xs n 0=e1:=⟨_,rfl⟩
 have h0:0≤n∧fe xs (n-0) 0=e1:=⟨Nat.zero_le _,he1⟩
 have hz:0≤n∧∀j,j<0→eO (xs.take j) (xs.getD j default)=false:=⟨Nat.zero_le _,fun j hj=>absurd hj (by omega)⟩
 have zx2:=ae;have zx3:=ae;have zx4:=ae;have zx5:=ae;have zx6:=ae
 refine az Tryz.func33 Tryz.ntmps33 rfl ?_
 have zx1:= @aad;have zx7:= @bg;have zx8:= @Ih;have zx9:=aD;repeat' (first|(refine ai ?_;refine au [] ([].length) (fvA z xs n e1) (fun i=>n-i.val) (⟨0,h0⟩) rfl (by unfold fvA;exact dM) ?_;(rintro⟨i,hi,he⟩;rcases Nat.lt_or_eq_of_le hi with hil|hil<;>first|(have ei:n=i:=hil.symm;subst ei;(simp-dsimp only[fvA];refine zqS ?_))|(obtain⟨m,hm1,hm2⟩:=UW hil;rw[hm1] at he;rcases Nat.lt_or_ge (xs.getD i default%65536) 4096 with zx2|zx2<;>first|(rw[fe_r (by omega)] at he;(simp-dsimp only[fvA];refine zqS ?_))|(rcases Nat.eq_zero_or_pos i with hi0|hi0<;>first|(subst hi0;rw[aae zx2 (fun h=>absurd h (by omega))] at he;(simp-dsimp only[fvA];refine zqS ?_))|(obtain⟨p,rfl⟩:∃p,i=p+1:=⟨i-1,by omega⟩;rcases Bool.eq_false_or_eq_true (bef (xs.getD p default) (xs.getD (p+1) default)) with zx4|zx4<;>first|(rw[aae zx2 (fun _=>zx4)] at he;have zx3:(0≤uq (xs.getD p default) (xs.getD (p+1) default))=False:=(by rw[Ig,zx4];simp);(simp-dsimp only[fvA];refine zqS ?_))|(rw[fe_b zx2 (by omega) zx4] at he;have zx3:(0≤uq (xs.getD p default) (xs.getD (p+1) default))=True:=(by rw[Ig,zx4];simp);(simp-dsimp only[fvA];refine zqS ?_)))))))|(refine aj ?_;refine Nxt.mk [] (⟨0+1,by omega,by rw[hm2];exact he⟩) rfl (by unfold fvA;exact dM) zqO)|(refine aj ?_;refine Nxt.mk [] (⟨p+1+1,by omega,by rw[hm2];exact he⟩) rfl (by unfold fvA;exact dM) zqO)|(refine ai ?_;refine au [] ([].length) (fvB z xs n) (fun i=>n-i.val) (⟨0,hz⟩) rfl (by unfold fvB;exact dM) ?_;(rintro⟨i,hi,hf⟩;rcases Nat.lt_or_eq_of_le hi with hil|hil<;>first|(have ei:n=i:=hil.symm;subst ei;(simp-dsimp only[fvB];refine zqS ?_))|(rcases Bool.eq_false_or_eq_true (eO (List.take i xs) (xs.getD i default)) with zx4|zx4<;>(simp-dsimp only[fvB];refine zqS ?_))))|(refine aj ?_;refine Nxt.mk [] (⟨i+1,by omega,fun j hj=>by rcases Nat.lt_or_eq_of_le (Nat.le_of_lt_succ hj) with h|h;exact hf j h;rw[h];exact zx4⟩) rfl (by unfold fvB;exact dM) zqO)|refine zqN ?_|((first|refine ax rfl (fun K hK=>?_)|refine ak (fun K hK=>?_));(first|refine ah (f:=77) [] 0 false ?_|refine ah (f:=14) [] 0 false ?_);refine NK ?_;(first|refine⟨_,_,FQ,?_⟩|refine⟨_,_,si (qs:=List.take i xs) (by rw[List.length_take];omega) (by omega),?_⟩);refine qD ?_;apply hK;clear hK K)|refine rJ ?_|refine rM ?_|refine rO ?_|refine rP ?_|refine rT ?_|(refine rU ?_ ?_<;>intro hc<;>try exact zqM))
 all_goals first
  |(have e:pR xs=7:=(by rw[Ou hl (he1.trans he.symm) (by decide)]);rw[e];(refine Ends.mk2 zqI [] ?_;simp-dsimp(disch:=try exact vD) only[push_cast,simprocAttr,Tryz.f33];try exact zqF);done)
  |(have e:pR xs=1:=(by rw[Ou hl (he1.trans he.symm) (by decide)]);rw[e];(refine Ends.mk2 zqI [] ?_;simp-dsimp(disch:=try exact vD) only[push_cast,simprocAttr,Tryz.f33];try exact zqF);done)
  |(have e:pR xs=1:=(by rw[Nat.sub_self] at he;rw[FR hl (he1.trans he.symm),aaf hl hil zx4];rfl);rw[e];(refine Ends.mk2 zqI [] ?_;simp-dsimp(disch:=try exact vD) only[push_cast,simprocAttr,Tryz.f33];try exact zqF);done)
  |(have e:pR xs=0:=(by rw[Nat.sub_self] at he;rw[FR hl (he1.trans he.symm),Ot hl hf];rfl);rw[e];(refine Ends.mk2 zqI [] ?_;simp-dsimp(disch:=try exact vD) only[push_cast,simprocAttr,Tryz.f33];try exact zqF);done)
  |skip
end
section
open Go Go.Sy Go.Bp Go.Dg
attribute [local irreducible] AO AL AC OpT ACall Ends DGo aN Thn Blk Nxt
variable {n N M k i m r a b j w u v s q x y:Nat} {z:Bool} {xs:List Nat} {e1:Int}
theorem acX(h:∀i,bit x i=true→bit y i=true)(hi:i<16):cb x i≤cb y i:=by
 have h1:=h i
 rw[jM hi,jM hi] at h1
 unfold cb
 split
 ·rename_i hc;rw[if_pos (h1 hc)];exact Nat.le_refl _
 ·exact Nat.zero_le _
theorem KD(h:dJ x y%65536=0):aA x 16≤aA y 16:=by
 have hb:=dR.1 h
 rw[qF (s:=x),qF (s:=y)]
 have c:=fun i (hi:i<16)=>acX (i:=i) hb hi
 have:=c 0 (by decide);have:=c 1 (by decide);have:=c 2 (by decide);have:=c 3 (by decide);have:=c 4 (by decide);have:=c 5 (by decide);have:=c 6 (by decide);have:=c 7 (by decide)
 have:=c 8 (by decide);have:=c 9 (by decide);have:=c 10 (by decide);have:=c 11 (by decide);have:=c 12 (by decide);have:=c 13 (by decide);have:=c 14 (by decide);have:=c 15 (by decide)
 omega
theorem Ii(h:dJ x y%65536=0):x%65536≤y%65536:=by
 refine uo (x:=x%65536) (y:=y%65536) (dR.2 fun i hi=>?_) (Nat.mod_lt _ (by decide)) (Nat.mod_lt _ (by decide))
 rw[UB] at hi⊢
 exact dR.1 h i hi
theorem wC(h:dJ x y%65536=0):bef y x=false:=by
 have h1:=KD h
 have h2:=Ii h
 unfold bef
 split
 ·rw[decide_eq_false_iff_not];omega
 ·rw[decide_eq_false_iff_not];omega
theorem KF(h:∀k,k<n→¬j=k→¬dJ (xs.getD k default) (xs.getD j default)%65536=0)(hl:xs.length=n)(hj:j<n):eO (xs.take j) (xs.getD j default)=false:=by
 unfold eO
 rw[List.any_eq_false]
 intro m hm
 obtain⟨k,hk,rfl⟩:=List.getElem_of_mem hm
 have hk2:k<j:=by rw[List.length_take] at hk;omega
 have e:(xs.take j)[k]=xs.getD k default:=by
  rw[List.getElem_take,List.getD_eq_getElem?_getD,List.getElem?_eq_getElem (by omega)];rfl
 rw[e]
 simpa using h k (by omega) (by omega)
def iH(xs:List Nat):Nat→Nat
 |0=>0
 |j+1=>sor (iH xs j) (xs.getD j default)
theorem FT:iH xs (j+1)=sor (iH xs j) (xs.getD j default):=rfl
theorem Ov:iH xs 0=0:=rfl
def spI(z:Bool)(xs:List Nat)(n:Nat)(i:{i:Nat // i≤n}):St:=
 ⟨17,0,[(3,.val (.int .u16 (U (iH xs i.val)))),(6,.isl z (cX xs) n),(7,.val (.int .i64 n)),(8,.val (.int .i64 i.val))],[]⟩
theorem kN(hl:xs.length=n)(hn:n<2^40):ACall Tryz.prog 35 [.isl z (cX xs) n] [] 0 (.val (.int .u16 (U (iH xs n)))) []:=by
 refine az Tryz.func35 Tryz.ntmps35 rfl ?_
 have zx1:= @bg;have zx2:= @FT;have zx3:= @Ov;repeat' (first|(refine ai ?_;refine au [] ([].length) (spI z xs n) (fun i=>n-i.val) (⟨0,by omega⟩) rfl (by unfold spI;exact eH) ?_;(rintro⟨i,hi⟩;rcases Nat.lt_or_eq_of_le hi with hil|hil<;>first|(have ei:n=i:=hil.symm;subst ei;(simp-dsimp only[spI];refine zqS ?_))|(simp-dsimp only[spI];refine zqS ?_)))|(refine aj ?_;refine Nxt.mk [] (⟨i+1,by omega⟩) rfl (by unfold spI;exact eH) zqO)|refine zqN ?_|refine dx ?_|refine dz ?_|(refine dA ?_ ?_<;>intro hc<;>try exact zqM))
 all_goals first
  |((refine Ends.mk2 zqI [] ?_;simp-dsimp(disch:=try exact vD) only[push_cast,simprocAttr,Tryz.f35];try exact zqF);done)
  |skip
end
