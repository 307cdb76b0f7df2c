/- Lp3b Lp4 Lp2 Lp5 Lp9 Lp10 Lp6 Lp7 Lp8. No condition. -/
import Derived.Test.YtgmpdplpodemaaaGreatDoorLpG1
set_option linter.all false
set_option maxHeartbeats 4000000
set_option maxRecDepth 200000
namespace Go.Proofs.YtgmpdplpodemaaaGreatDoor
section
open Go Go.Sy Go.Bp Go.Lm
attribute [local irreducible] AO AL AC OpT ACall Ends DGo aK Thn Blk Nxt
variable {n k i m j u b c w q:Nat} {z:Bool} {l C:List Int} {v x y:Int} {B:Bool}
def jS(C:List Int)(nd:Nat)(x:Int):List Int:=st2 (st2 (st2 (st2 C nd (x%10000%100*2)) (nd-2) (x%10000/100*2)) (nd-4) (x/10000%100*2)) (nd-6) (x/10000/100*2)
def f8J(u:Nat)(C:List Int)(nd:Nat)(k:{k:Nat // k<=1}):St:=⟨167,1,[(0,.sl 0 1 nd 1),(1,.val (.int .u64 (if k.val=0 then(u:Int)/100000000 else u))),(4,.val (.int .i64 (if k.val=0 then(nd:Int)-8 else nd)))],[(0,some (.full (cI .u8 (if k.val=0 then jS C nd ((u:Int)%100000000) else C)) 271))]⟩
theorem f8_8(h1:10000000<=u)(hu:u<100000000)(hC:C.length=24):∃C':List Int,C'.length=24/\ACall Tryz.prog 231 [.sl 0 1 8 1,.val (.int .u64 u)] [.full (cI .u8 C) 271] 1 (.tup []) [.full (cI .u8 C') 271]:=by
 refine⟨jS C 8 ((u:Int)%100000000),by simp[jS,st2,hC],?_⟩
 unfold jS st2
 refine az Tryz.func231 Tryz.ntmps231 rfl ?_
 repeat' (first|(refine ah ?_;refine ak [0] ([0].length) (f8J u C 8) (λk=>k.val) (⟨1,Nat.le_refl _⟩) rfl (by unfold f8J;(try simp only[List.cons_append,List.nil_append]);refine Sub.mk2 ?_;(simp-dsimp(disch:=try exact vD) only[push_cast,simprocAttr,jS,st2,gK,gF,iy,hC,List.length_set]);(repeat refine aI ?_);first|done|exact vI) ?_;(rintro⟨k,hk⟩;rcases Nat.eq_zero_or_pos k with hk0|hk0<;>first|(subst hk0;(simp-dsimp(disch:=try exact vD) only[push_cast,simprocAttr,f8J,jS,st2]))|(have hk1:k=1:=omgz;subst hk1;(simp-dsimp(disch:=try exact vD) only[push_cast,simprocAttr,f8J]))))|(refine aj ?_;refine Nxt.mk [0] (⟨0,omgz⟩) rfl (by unfold f8J;(try simp only[List.cons_append,List.nil_append]);refine Sub.mk2 ?_;(simp-dsimp(disch:=try exact vD) only[push_cast,simprocAttr,jS,st2,gK,gF,iy,hC,List.length_set]);(repeat refine aI ?_);first|done|exact vI) (by first|omega|(dsimp only;omega)|(simp;done)|(simp;omega)))|apply dU|apply aJ|((first|refine ay rfl (λK hK=>?_)|refine au (λK hK=>?_)|refine aD (λK hK=>?_));(first|apply jN|apply dN);simp-dsimp(disch:=try exact vD) only[push_cast,simprocAttr,jS,st2,gK,gF,iy,hC,List.length_set];(repeat refine aI ?_);apply hK;clear hK K)|((first|refine ay rfl (λK hK=>?_)|refine au (λK hK=>?_)|refine aD (λK hK=>?_));(first|apply cZ|apply aX|apply bE|apply bO|apply iI|apply dh|apply dO|apply dM|apply jm|apply iG|apply iQ|apply eH);simp-dsimp(disch:=try exact vD) only[push_cast,simprocAttr,jS,st2,gK,gF,iy,hC,List.length_set];(repeat refine aI ?_);apply hK;clear hK K)|((first|refine aN rfl rfl (λK1 K2 h1 h2=>?_) rfl|refine aL (λK1 K2 h1 h2=>?_)|refine bX rfl rfl (λK1 K2 h1 h2=>?_));simp-dsimp(disch:=try exact vD) only[push_cast,simprocAttr,jS,st2,gK,gF,iy,hC,List.length_set];(first|(refine⟨λhc=>?_,λhc=>?_⟩<;>first|(exfalso;omega)|(exfalso;contradiction)|refine h1 ?_|refine h2 ?_)|refine h1 ?_|refine h2 ?_);all_goals clear h1 h2 K1 K2)|refine zqR [(7,12,[3],0),(7,14,[3],0),(8,12,[3],0),(8,14,[3],0),(9,12,[3],0),(9,14,[3],0),(10,12,[3],0),(10,14,[3],0),(17,12,[3],0),(17,14,[3],0),(18,12,[3],0),(18,14,[3],0),(23,12,[3],0),(23,14,[3],0)] ?_|((first|refine jl (by kernel_rfl) (λK hK=>?_)|refine l8 (by kernel_rfl) (λK hK=>?_));simp only[↓Go.Sy.gL,↓Go.Sy.gM,↓Go.Sy.iN,↓Go.Sy.gN,↓Go.Sy.iO,↓Go.Sy.fO,↓Go.Sy.gQ,push_cast,Nat.reduceLeDiff,Nat.reduceSub,Nat.reduceBEq,Nat.reduceEqDiff,Nat.reduceAdd,Nat.reduceLT,↓reduceIte,reduceCtorEq];refine hK _ _ _ ?_;clear hK K)|apply rP|apply dV|apply aT|apply cu|apply bG|apply aU|apply cK|apply bH|(refine bu rfl ?_)|apply bI|apply bZ|apply bY|apply dS)
 all_goals exact aB [0]
theorem f8_9(h1:100000000<=u)(hu:u<1000000000)(hC:C.length=24):∃C':List Int,C'.length=24/\ACall Tryz.prog 231 [.sl 0 1 9 1,.val (.int .u64 u)] [.full (cI .u8 C) 271] 1 (.tup []) [.full (cI .u8 C') 271]:=by
 refine⟨(jS C 9 ((u:Int)%100000000)).set 1 (48+(u:Int)/100000000),by simp[jS,st2,hC],?_⟩
 unfold jS st2
 refine az Tryz.func231 Tryz.ntmps231 rfl ?_
 repeat' (first|(refine ah ?_;refine ak [0] ([0].length) (f8J u C 9) (λk=>k.val) (⟨1,Nat.le_refl _⟩) rfl (by unfold f8J;(try simp only[List.cons_append,List.nil_append]);refine Sub.mk2 ?_;(simp-dsimp(disch:=try exact vD) only[push_cast,simprocAttr,jS,st2,gK,gF,iy,hC,List.length_set]);(repeat refine aI ?_);first|done|exact vI) ?_;(rintro⟨k,hk⟩;rcases Nat.eq_zero_or_pos k with hk0|hk0<;>first|(subst hk0;(simp-dsimp(disch:=try exact vD) only[push_cast,simprocAttr,f8J,jS,st2]))|(have hk1:k=1:=omgz;subst hk1;(simp-dsimp(disch:=try exact vD) only[push_cast,simprocAttr,f8J]))))|(refine aj ?_;refine Nxt.mk [0] (⟨0,omgz⟩) rfl (by unfold f8J;(try simp only[List.cons_append,List.nil_append]);refine Sub.mk2 ?_;(simp-dsimp(disch:=try exact vD) only[push_cast,simprocAttr,jS,st2,gK,gF,iy,hC,List.length_set]);(repeat refine aI ?_);first|done|exact vI) (by first|omega|(dsimp only;omega)|(simp;done)|(simp;omega)))|apply dU|apply aJ|((first|refine ay rfl (λK hK=>?_)|refine au (λK hK=>?_)|refine aD (λK hK=>?_));(first|apply jN|apply dN);simp-dsimp(disch:=try exact vD) only[push_cast,simprocAttr,jS,st2,gK,gF,iy,hC,List.length_set];(repeat refine aI ?_);apply hK;clear hK K)|((first|refine ay rfl (λK hK=>?_)|refine au (λK hK=>?_)|refine aD (λK hK=>?_));(first|apply cZ|apply aX|apply bE|apply bO|apply iI|apply dh|apply dO|apply dM|apply jm|apply iG|apply iQ|apply eH);simp-dsimp(disch:=try exact vD) only[push_cast,simprocAttr,jS,st2,gK,gF,iy,hC,List.length_set];(repeat refine aI ?_);apply hK;clear hK K)|((first|refine aN rfl rfl (λK1 K2 h1 h2=>?_) rfl|refine aL (λK1 K2 h1 h2=>?_)|refine bX rfl rfl (λK1 K2 h1 h2=>?_));simp-dsimp(disch:=try exact vD) only[push_cast,simprocAttr,jS,st2,gK,gF,iy,hC,List.length_set];(first|(refine⟨λhc=>?_,λhc=>?_⟩<;>first|(exfalso;omega)|(exfalso;contradiction)|refine h1 ?_|refine h2 ?_)|refine h1 ?_|refine h2 ?_);all_goals clear h1 h2 K1 K2)|refine zqR [(7,12,[3],0),(7,14,[3],0),(8,12,[3],0),(8,14,[3],0),(9,12,[3],0),(9,14,[3],0),(10,12,[3],0),(10,14,[3],0),(17,12,[3],0),(17,14,[3],0),(18,12,[3],0),(18,14,[3],0),(23,12,[3],0),(23,14,[3],0)] ?_|((first|refine jl (by kernel_rfl) (λK hK=>?_)|refine l8 (by kernel_rfl) (λK hK=>?_));simp only[↓Go.Sy.gL,↓Go.Sy.gM,↓Go.Sy.iN,↓Go.Sy.gN,↓Go.Sy.iO,↓Go.Sy.fO,↓Go.Sy.gQ,push_cast,Nat.reduceLeDiff,Nat.reduceSub,Nat.reduceBEq,Nat.reduceEqDiff,Nat.reduceAdd,Nat.reduceLT,↓reduceIte,reduceCtorEq];refine hK _ _ _ ?_;clear hK K)|apply rP|apply dV|apply aT|apply cu|apply bG|apply aU|apply cK|apply bH|(refine bu rfl ?_)|apply bI|apply bZ|apply bY|apply dS)
 all_goals exact aB [0]
end
section
open Go Go.Sy Go.Bp Go.Lm
attribute [local irreducible] AO AL AC OpT ACall Ends DGo aK Thn Blk Nxt
variable {n k i m j u b c w q:Nat} {z:Bool} {l C:List Int} {v x y:Int} {B:Bool}
theorem fm10(h1:100<=u)(hu:u<1000000000)(hC:C.length=24):∃nd:Nat,dgs u=nd/\(nd=3\/nd=4\/nd=5\/nd=6\/nd=7\/nd=8\/nd=9)/\∃C':List Int,C'.length=24/\ACall Tryz.prog 231 [.sl 0 1 nd 1,.val (.int .u64 u)] [.full (cI .u8 C) 271] 1 (.tup []) [.full (cI .u8 C') 271]:=by
 rcases Nat.lt_or_ge u 1000 with a|a
 ·exact⟨3,iT (k:=2) h1 a,omgz,f8_3 h1 a hC⟩
 rcases Nat.lt_or_ge u 10000 with b|b
 ·exact⟨4,iT (k:=3) a b,omgz,f8_4 a b hC⟩
 rcases Nat.lt_or_ge u 100000 with a|a
 ·exact⟨5,iT (k:=4) b a,omgz,f8_5 b a hC⟩
 rcases Nat.lt_or_ge u 1000000 with b|b
 ·exact⟨6,iT (k:=5) a b,omgz,f8_6 a b hC⟩
 rcases Nat.lt_or_ge u 10000000 with a|a
 ·exact⟨7,iT (k:=6) b a,omgz,f8_7 b a hC⟩
 rcases Nat.lt_or_ge u 100000000 with b|b
 ·exact⟨8,iT (k:=7) a b,omgz,f8_8 a b hC⟩
 ·exact⟨9,iT (k:=8) b hu,omgz,f8_9 b hu hC⟩
theorem z24:cI .u8 (List.replicate 24 0)=[.val (.int .u8 0),.val (.int .u8 0),.val (.int .u8 0),.val (.int .u8 0),.val (.int .u8 0),.val (.int .u8 0),.val (.int .u8 0),.val (.int .u8 0),.val (.int .u8 0),.val (.int .u8 0),.val (.int .u8 0),.val (.int .u8 0),.val (.int .u8 0),.val (.int .u8 0),.val (.int .u8 0),.val (.int .u8 0),.val (.int .u8 0),.val (.int .u8 0),.val (.int .u8 0),.val (.int .u8 0),.val (.int .u8 0),.val (.int .u8 0),.val (.int .u8 0),.val (.int .u8 0)]:=rfl
theorem Te(h1:100<=u)(hu:u<1000000000):∃s:ByteArray,s.size=dgs u/\ACall Tryz.prog 223 [.val (.int .i64 u),.val (.int .i64 10)] [] 0 (.val (.string s)) []:=by
 have hn:=PLift.up (Zn (u:=u) omgz omgz)
 obtain⟨nd,hnd,hor,C',hC',hf⟩:=fm10 (C:=List.replicate 24 0) h1 hu (by simp)
 rw[z24] at hf
 rw[hnd] at hn⊢
 have hf:=PLift.up hf
 refine⟨strOfNums ((C'.drop 1).take nd),by rw[strOfNums_size,List.length_take,List.length_drop];omega,?_⟩
 rcases hor with rfl|rfl|rfl|rfl|rfl|rfl|rfl
 all_goals(refine az Tryz.func223 Tryz.ntmps223 rfl ?_)
 all_goals(have zx1:= @hC';have zx2:=aA;have zx3:=aA;repeat' (first|refine zqN ?_|((first|refine ay rfl (λK hK=>?_)|refine au (λK hK=>?_));(first|refine ai (f:=230) [] 0 false ?_|refine ai (f:=231) [0] 1 false ?_);refine zu ?_;(first|refine⟨_,_,hn.down,?_⟩|refine⟨_,_,hf.down,?_⟩);refine rG ?_;apply hK;clear hK K)|((first|refine ay rfl (λK hK=>?_)|refine au (λK hK=>?_));(first|apply Fa);refine rG ?_;apply hK;clear hK K)|((first|refine ay rfl (λK hK=>?_)|refine au (λK hK=>?_));(first|apply jN|apply dN|apply uw);refine rG ?_;apply hK;clear hK K)|refine dm ?_|refine oV ?_|refine oW ?_|refine oZ ?_|refine dn ?_|(refine dw ?_ ?_<;>intro hc<;>try exact zqM)))
 all_goals exact aB []
def dgT:ByteArray:=⟨#[48,49,50,51,52,53,54,55,56,57,97,98,99,100,101,102,103,104,105,106,107,108,109,110,111,112,113,114,115,116,117,118,119,120,121,122]⟩
theorem Tf:(⟨#[48,49,50,51,52,53,54,55,56,57,97,98,99,100,101,102,103,104,105,106,107,108,109,110,111,112,113,114,115,116,117,118,119,120,121,122]⟩:ByteArray)=dgT:=rfl
theorem FY:dgT.size=36:=by decide+kernel
theorem Zo(h:0<=x)(h2:x<10):∃s:ByteArray,s.size=1/\ACall Tryz.prog 229 [.val (.int .i64 x)] [] 0 (.val (.string s)) []:=by
 refine⟨dgT.extract x.toNat (x+1).toNat,by rw[ByteArray.size_extract,FY];omega,?_⟩
 refine az Tryz.func229 Tryz.ntmps229 rfl ?_
 have zx1:= @Tf;have zx2:= @FY;have zx3:=aA;repeat' (first|refine zqN ?_|((first|refine ay rfl (λK hK=>?_)|refine au (λK hK=>?_));(first|apply uw);refine rG ?_;apply hK;clear hK K)|refine dm ?_|refine oV ?_|refine oW ?_|refine oZ ?_|refine dn ?_|(refine dw ?_ ?_<;>intro hc<;>try exact zqM))
 all_goals exact aB []
theorem Zp(h:10<=x)(h2:x<100):∃s:ByteArray,s.size=2/\ACall Tryz.prog 229 [.val (.int .i64 x)] [] 0 (.val (.string s)) []:=by
 refine⟨smS.extract (x*2).toNat (x*2+2).toNat,by rw[ByteArray.size_extract,gF];omega,?_⟩
 refine az Tryz.func229 Tryz.ntmps229 rfl ?_
 have zx1:= @gK;have zx2:= @gF;have zx3:=aA;repeat' (first|refine zqN ?_|((first|refine ay rfl (λK hK=>?_)|refine au (λK hK=>?_));(first|apply uw);refine rG ?_;apply hK;clear hK K)|refine dm ?_|refine oV ?_|refine oW ?_|refine oZ ?_|refine dn ?_|(refine dw ?_ ?_<;>intro hc<;>try exact zqM))
 all_goals exact aB []
theorem zW{s:ByteArray}(h:0<=x)(h2:x<100)(hs:ACall Tryz.prog 229 [.val (.int .i64 x)] [] 0 (.val (.string s)) []):ACall Tryz.prog 223 [.val (.int .i64 x),.val (.int .i64 10)] [] 0 (.val (.string s)) []:=by
 have hs:=PLift.up hs
 refine az Tryz.func223 Tryz.ntmps223 rfl ?_
 repeat' (first|refine zqN ?_|refine aM hs.down ?_|((first|refine ay rfl (λK hK=>?_)|refine au (λK hK=>?_));(first|apply Fa);refine jo ?_;apply hK;clear hK K)|((first|refine ay rfl (λK hK=>?_)|refine au (λK hK=>?_));(first|apply jN|apply dN|apply uw);refine jo ?_;apply hK;clear hK K)|refine aY ?_|refine mf ?_|refine mW ?_|refine mY ?_|refine aZ ?_|(refine bf ?_ ?_<;>intro hc<;>try exact zqM))
 all_goals exact aB []
theorem FZ(h0:0<u)(hu:u<1000000000):∃s:ByteArray,s.size=dgs u/\ACall Tryz.prog 208 [.val (.int .i64 u)] [] 0 (.val (.string s)) []:=by
 obtain⟨s,hs,hc⟩:∃s:ByteArray,s.size=dgs u/\ACall Tryz.prog 223 [.val (.int .i64 u),.val (.int .i64 10)] [] 0 (.val (.string s)) []:=by
  rcases Nat.lt_or_ge u 100 with a|a
  ·rcases Nat.lt_or_ge u 10 with b|b
   ·obtain⟨s,h1,h2⟩:=Zo (x:=u) omgz omgz
    exact⟨s,by rw[h1];exact(iT (k:=0) omgz b).symm,zW omgz omgz h2⟩
   ·obtain⟨s,h1,h2⟩:=Zp (x:=u) omgz omgz
    exact⟨s,by rw[h1];exact(iT (k:=1) b a).symm,zW omgz omgz h2⟩
  ·exact Te a hu
 refine⟨s,hs,?_⟩
 have hc:=PLift.up hc
 have h2:ACall Tryz.prog 218 [.val (.int .i64 u)] [] 0 (.val (.string s)) []:=by
  refine az Tryz.func218 Tryz.ntmps218 rfl ?_
  repeat' (first|refine zqN ?_|refine aM hc.down ?_|refine aY ?_|refine aZ ?_|(refine bf ?_ ?_<;>intro hc<;>try exact zqM))
  all_goals exact aB []
 have h2:=PLift.up h2
 refine az Tryz.func208 Tryz.ntmps208 rfl ?_
 repeat' (first|refine zqN ?_|refine aM h2.down ?_|refine aY ?_|refine aZ ?_|(refine bf ?_ ?_<;>intro hc<;>try exact zqM))
 all_goals exact aB []
end
set_option maxRecDepth 20000
section
open Go Go.Sy Go.Bp Go.Lm
attribute [local irreducible] AO AL AC OpT ACall Ends DGo aK Thn Blk Nxt
variable {n N M k i m j:Nat} {z z' neg:Bool} {l a b:List Int} {v x y:Int} {xs:List IV} {X:IV}
theorem Tg(hl:l.length=0):ACall Tryz.prog 187 [.isl z (cI .u32 l) 0] [] 0 (.val (.int .i64 (dg9 l))) []:=by
 rw[SV hl]
 refine az Tryz.func187 Tryz.ntmps187 rfl ?_
 repeat' (first|refine zqN ?_|refine aY ?_|refine aZ ?_|(refine bf ?_ ?_<;>intro hc<;>try exact zqM))
 all_goals exact aB []
theorem Ti(hl:l.length=n+1)(hn:n<2^47)(hi:Lim l)(hw:¬l.getD n 0=0):ACall Tryz.prog 187 [.isl z (cI .u32 l) (n+1)] [] 0 (.val (.int .i64 (dg9 l))) []:=by
 have hr:=hi.at n
 rw[FW omgz,hl,Nat.add_sub_cancel]
 obtain⟨w,hw2⟩:∃w:Nat,l.getD n 0=w:=Int.eq_ofNat_of_zero_le hr.1
 rw[hw2] at hr hw⊢
 have zx1:l.getD n default=w:=hw2
 rw[Int.toNat_natCast]
 obtain⟨s,zx2,hit⟩:=FZ (u:=w) omgz omgz
 have h9:=acN (u:=w) omgz
 generalize dgs w=q at*
 have hit:=PLift.up hit
 refine az Tryz.func187 Tryz.ntmps187 rfl ?_
 have zx3:= @a1s;repeat' (first|refine zqN ?_|refine eG hit.down ?_|refine dm ?_|refine dn ?_|(refine dw ?_ ?_<;>intro hc<;>try exact zqM))
 all_goals exact aB []
theorem wo(hl:l.length=n)(hn:n<2^47)(hi:Lim l)(ht:Tr l):ACall Tryz.prog 187 [.isl z (cI .u32 l) n] [] 0 (.val (.int .i64 (dg9 l))) []:=by
 subst hl
 rcases Nat.eq_zero_or_pos l.length with h0|h0
 ·rw[h0];exact Tg h0
 ·obtain⟨q,hq⟩:∃q,l.length=q+1:=⟨_,(Nat.succ_pred_eq_of_pos h0).symm⟩
  rcases ht with ht|ht
  ·rw[ht] at h0;exact absurd h0 (by decide)
  ·rw[hq] at ht hn⊢
   exact Ti hq omgz hi ht
def iuI(z:Bool)(F:Nat)(p:Int->Bool)(l:List Int)(n:Nat)(j:{j:Nat // j<=n/\∀i,i<j->p (l.getD i default)=false}):St:=
 ⟨19,0,[(0,.isl z (cI .u32 l) n),(1,.fn F []),(7,.val (.int .i64 n)),(8,.val (.int .i64 j.val))],[]⟩
theorem Zq{F:FuncId} [eU Tryz.prog F](p:Int->Bool)(hl:l.length=n)(hn:n<2^47)(hf:∀t:Int,ACall Tryz.prog F [.val (.int .u32 t)] [] 0 (.val (.bool (p t))) []):
 ACall Tryz.prog 207 [.isl z (cI .u32 l) n,.fn F []] [] 0 (.val (.int .i64 (ix p l))) []:=by
 refine az Tryz.func207 Tryz.ntmps207 rfl ?_
 repeat' (first|(refine ah ?_;refine ak [] ([].length) (iuI z F p l n) (λj=>n-j.val) (⟨0,omgz,λi hi=>absurd hi omgz⟩) rfl (by unfold iuI;exact jZ) ?_;(rintro⟨j,hj,hnb⟩;(simp-dsimp only[iuI];refine zqS ?_)))|(refine aj ?_;refine Nxt.mk [] (⟨j+1,omgz,kW hnb (by assumption)⟩) rfl (by unfold iuI;exact jZ) zqO)|refine zqN ?_|((first|refine ay rfl (λK hK=>?_)|refine au (λK hK=>?_));(first|refine gq (f:=F) [] 0 false ?_);refine mg ?_;(first|refine⟨_,_,hf (l.getD j default),?_⟩);refine jo ?_;apply hK;clear hK K)|refine aY ?_|refine aZ ?_|(refine bf ?_ ?_<;>intro hc<;>try exact zqM))
 all_goals first
  |(have e:ix p l=j:=oD omgz hnb (by assumption);exact fu [] @e)
  |(have ej:j=n:=omgz;subst ej;subst hl;have e:ix p l= -1:=lG hnb;exact fu [] @e)
theorem Tj{F:FuncId} [eU Tryz.prog F](p:Int->Bool)(hl:l.length=n)(hn:n<2^47)(hf:∀t:Int,ACall Tryz.prog F [.val (.int .u32 t)] [] 0 (.val (.bool (p t))) []):
 ACall Tryz.prog 185 [.isl z (cI .u32 l) n,.fn F []] [] 0 (.val (.bool (l.any p))) []:=by
 refine az Tryz.func185 Tryz.ntmps185 rfl ?_
 have zx1:= @jh;have zx2:=aA;have zx3:=aA;repeat' (first|refine zqN ?_|refine eG (Zq p hl hn hf) ?_|refine dm ?_|refine dn ?_|(refine dw ?_ ?_<;>intro hc<;>try exact zqM))
 all_goals exact fu [] @jh
theorem NH:ACall Tryz.prog 186 [.val (.int .u32 x)] [] 0 (.val (.bool (decide (1000000000<=x)))) []:=by
 refine az Tryz.func186 Tryz.ntmps186 rfl ?_
 repeat' (first|refine zqN ?_|refine aY ?_|refine aZ ?_|(refine bf ?_ ?_<;>intro hc<;>try exact zqM))
 all_goals exact aB []
def vB(X:IV):Bool:=
 if X.l.length=0 then !X.neg else if X.l.getD (X.l.length-1) 0=0\/34<X.l.length then false else if X.l.any (λy=>decide (1000000000<=y))=true then false else decide (dg9 X.l<=300)
theorem Zr(h:X.l.length=0):vB X= !X.neg:=if_pos h
theorem agE(h:¬X.l.length=0)(h2:X.l.getD (X.l.length-1) 0=0\/34<X.l.length):vB X=false:=by unfold vB;rw[if_neg h,if_pos h2]
theorem agF(h:¬X.l.length=0)(h2:¬(X.l.getD (X.l.length-1) 0=0\/34<X.l.length))(h3:X.l.any (λy=>decide (1000000000<=y))=true):vB X=false:=by unfold vB;rw[if_neg h,if_neg h2,if_pos h3]
theorem Zt(h:¬X.l.length=0)(h2:¬(X.l.getD (X.l.length-1) 0=0\/34<X.l.length))(h3:¬X.l.any (λy=>decide (1000000000<=y))=true):vB X=decide (dg9 X.l<=300):=by unfold vB;rw[if_neg h,if_neg h2,if_neg h3]
def R32(l:List Int):Prop:=∀y∈l,0<=y/\y<=4294967295
theorem Dr(hr:R32 l)(h:¬l.any (λy=>decide (1000000000<=y))=true):Lim l:=λy hy=>by
 have:=hr y hy
 refine⟨this.1,Decidable.not_not.1 λhc=>h ?_⟩
 rw[List.any_eq_true];exact⟨y,hy,by simp;omega⟩
theorem Zu(h:Lim l):¬l.any (λy=>decide (1000000000<=y))=true:=λhc=>by
 rw[List.any_eq_true] at hc
 obtain⟨y,h1,h2⟩:=hc
 have:=h y h1
 simp at h2;omega
theorem BX(h:v.natAbs<10^300):vB (iV z v)=true:=by
 by_cases h0:(lb v.natAbs).length=0
 ·have e:=iR.1 (List.length_eq_zero_iff.1 h0)
  rw[Zr (X:=iV z v) h0]
  show(!decide (v<0))=true
  rw[decide_eq_false omgz];rfl
 ·have hf:=Dm h
  have ht:=jC (n:=v.natAbs)
  have hne:¬((lb v.natAbs).getD ((lb v.natAbs).length-1) 0=0\/34<(lb v.natAbs).length):=by
   rcases ht with ht|ht
   ·exact absurd (by rw[ht];rfl) h0
   ·rintro(hc|hc)
    ·exact ht hc
    ·omega
  rw[Zt (X:=iV z v) h0 hne (Zu lim_lb)]
  exact decide_eq_true (zU.2 h)
theorem ajK(h:vB X=true)(hr:R32 X.l):∃v:Int,X=iV X.z v/\v.natAbs<10^300:=by
 by_cases h0:X.l.length=0
 ·rw[Zr h0] at h
  refine⟨0,?_,by decide+kernel⟩
  obtain⟨z,neg,l⟩:=X
  have hl:l=[]:=List.length_eq_zero_iff.1 h0
  have hn:neg=false:=by simpa using h
  subst hl;subst hn
  rfl
 ·by_cases h1:X.l.getD (X.l.length-1) 0=0\/34<X.l.length
  ·rw[agE h0 h1] at h;cases h
  ·by_cases h2:X.l.any (λy=>decide (1000000000<=y))=true
   ·rw[agF h0 h1 h2] at h;cases h
   ·rw[Zt h0 h1 h2] at h
    have hl:=Dr hr h2
    have ht:Tr X.l:= .inr λhc=>h1 (.inl hc)
    have hv:=bA hl
    have hd:=(SX hl ht).1 (of_decide_eq_true h)
    have hge:=KV hl ht λe=>h0 (by rw[e];rfl)
    have hb:=iH (k:=X.l.length-1)
    have he:=SH hl ht
    obtain⟨z,neg,l⟩:=X
    dsimp only at*
    obtain⟨u,hu⟩:∃u:Nat,val l=u:=Int.eq_ofNat_of_zero_le hv.1
    rw[hu] at he hd hge
    rw[Int.toNat_natCast] at he
    cases neg with
    |true=>
     refine⟨-(u:Int),?_,by rw[Int.natAbs_neg,Int.natAbs_natCast];omega⟩
     unfold iV
     rw[Int.natAbs_neg,Int.natAbs_natCast,<-he,decide_eq_true (show-(u:Int)<0 by omega)]
    |false=>
     refine⟨(u:Int),?_,by rw[Int.natAbs_natCast];omega⟩
     unfold iV
     rw[Int.natAbs_natCast,<-he,decide_eq_false (show¬(u:Int)<0 by omega)]
theorem wu(hl:X.l.length=n)(hn:n<2^47)(hr:R32 X.l):ACall Tryz.prog 142 [.agg (aa.cells X)] [] 0 (.val (.bool (vB X))) []:=by
 have h0:=Zr (X:=X);have h1:=agE (X:=X);have h2:=agF (X:=X);have h3:=Zt (X:=X)
 have hco:=PLift.up (Tj (z:=X.z) (l:=X.l) (F:=186) (λy=>decide (1000000000<=y)) hl omgz (λt=>NH))
 have hdg:=λh ht=>PLift.up (wo (z:=X.z) hl hn (Dr hr h) ht)
 obtain⟨z,neg,l⟩:=X
 rw[bJ]
 dsimp only at*
 rw[hl] at h0 h1 h2 h3⊢
 have hgd:=ae;have ha:=ae
 generalize vB ⟨z,neg,l⟩=r at*
 rcases Nat.eq_zero_or_pos n with hz|hz
 ·subst hz
  rw[h0 rfl]
  refine az Tryz.func142 Tryz.ntmps142 rfl ?_
  repeat' (first|apply dU|apply aJ|((first|refine ay rfl (λK hK=>?_)|refine au (λK hK=>?_));(first|apply cZ|apply aX|apply dz|apply aR|apply bD|apply bE|apply bO|apply iI|apply dh|apply gU|apply gZ|apply ic|apply iD|apply dC|apply bQ|apply bF|apply eH);simp-dsimp(disch:=try exact vD) only[push_cast,simprocAttr];(repeat refine aI ?_);apply hK;clear hK K)|((first|refine aN rfl rfl (λK1 K2 h1 h2=>?_) rfl|refine aL (λK1 K2 h1 h2=>?_));simp-dsimp(disch:=try exact vD) only[push_cast,simprocAttr];(first|(refine⟨λhc=>?_,λhc=>?_⟩<;>first|(exfalso;omega)|(exfalso;contradiction)|refine h1 ?_|refine h2 ?_)|refine h1 ?_|refine h2 ?_);all_goals clear h1 h2 K1 K2)|apply dV|apply aT|apply cu|apply bG|apply aU|apply cK|apply bH|(refine bu rfl ?_)|apply bI|apply bZ|apply bY|apply dS)
  all_goals exact aB []
 ·obtain⟨n,rfl⟩:∃m,n=m+1:=⟨_,(Nat.succ_pred_eq_of_pos hz).symm⟩
  rw[Nat.add_sub_cancel] at h1 h2 h3
  have hn0:¬n+1=0:=by omega
  rcases Decidable.em (l.getD n default=0) with hgd|hgd
  ·rw[h1 hn0 (.inl hgd)]
   refine az Tryz.func142 Tryz.ntmps142 rfl ?_
   repeat' (first|apply dU|apply aJ|((first|refine ay rfl (λK hK=>?_)|refine au (λK hK=>?_));(first|apply cZ|apply aX|apply dz|apply aR|apply bD|apply bE|apply bO|apply iI|apply dh|apply gU|apply gZ|apply ic|apply iD|apply dC|apply bQ|apply bF|apply eH);simp-dsimp(disch:=try exact vD) only[push_cast,simprocAttr,hgd,a1s];(repeat refine aI ?_);apply hK;clear hK K)|((first|refine aN rfl rfl (λK1 K2 h1 h2=>?_) rfl|refine aL (λK1 K2 h1 h2=>?_));simp-dsimp(disch:=try exact vD) only[push_cast,simprocAttr,hgd,a1s];(first|(refine⟨λhc=>?_,λhc=>?_⟩<;>first|(exfalso;omega)|(exfalso;contradiction)|refine h1 ?_|refine h2 ?_)|refine h1 ?_|refine h2 ?_);all_goals clear h1 h2 K1 K2)|apply dV|apply aT|apply cu|apply bG|apply aU|apply cK|apply bH|(refine bu rfl ?_)|apply bI|apply bZ|apply bY|apply dS)
   all_goals exact aB []
  ·rcases Nat.lt_or_ge 34 (n+1) with hlen|hlen
   ·rw[h1 hn0 (.inr hlen)]
    refine az Tryz.func142 Tryz.ntmps142 rfl ?_
    repeat' (first|apply dU|apply aJ|((first|refine ay rfl (λK hK=>?_)|refine au (λK hK=>?_));(first|apply cZ|apply aX|apply dz|apply aR|apply bD|apply bE|apply bO|apply iI|apply dh|apply gU|apply gZ|apply ic|apply iD|apply dC|apply bQ|apply bF|apply eH);simp-dsimp(disch:=try exact vD) only[push_cast,simprocAttr,hgd,a1s];(repeat refine aI ?_);apply hK;clear hK K)|((first|refine aN rfl rfl (λK1 K2 h1 h2=>?_) rfl|refine aL (λK1 K2 h1 h2=>?_));simp-dsimp(disch:=try exact vD) only[push_cast,simprocAttr,hgd,a1s];(first|(refine⟨λhc=>?_,λhc=>?_⟩<;>first|(exfalso;omega)|(exfalso;contradiction)|refine h1 ?_|refine h2 ?_)|refine h1 ?_|refine h2 ?_);all_goals clear h1 h2 K1 K2)|apply dV|apply aT|apply cu|apply bG|apply aU|apply cK|apply bH|(refine bu rfl ?_)|apply bI|apply bZ|apply bY|apply dS)
    all_goals exact aB []
   ·have hn1:¬(l.getD n 0=0\/34<n+1):=λh=>h.elim hgd λh=>by omega
    rcases Bool.eq_false_or_eq_true (l.any λy=>decide (1000000000<=y)) with ha|ha
    ·rw[h2 hn0 hn1 ha]
     rw[ha] at hco
     refine az Tryz.func142 Tryz.ntmps142 rfl ?_
     repeat' (first|apply dU|apply aJ|((first|refine ay rfl (λK hK=>?_)|refine au (λK hK=>?_));(first|refine ai (f:=185) [] 0 false ?_);simp-dsimp(disch:=try exact vD) only[push_cast,simprocAttr,hgd,a1s];(repeat refine aI ?_);intro G hG;refine hG _ _ ?_;clear hG G;(first|refine⟨_,_,hco.down,?_⟩);simp-dsimp(disch:=try exact vD) only[push_cast,simprocAttr,hgd,a1s];(repeat refine aI ?_);apply hK;clear hK K)|((first|refine ay rfl (λK hK=>?_)|refine au (λK hK=>?_));(first|apply cZ|apply aX|apply dz|apply aR|apply bD|apply bE|apply bO|apply iI|apply dh|apply gU|apply gZ|apply ic|apply iD|apply dC|apply bQ|apply bF|apply eH);simp-dsimp(disch:=try exact vD) only[push_cast,simprocAttr,hgd,a1s];(repeat refine aI ?_);apply hK;clear hK K)|((first|refine aN rfl rfl (λK1 K2 h1 h2=>?_) rfl|refine aL (λK1 K2 h1 h2=>?_));simp-dsimp(disch:=try exact vD) only[push_cast,simprocAttr,hgd,a1s];(first|(refine⟨λhc=>?_,λhc=>?_⟩<;>first|(exfalso;omega)|(exfalso;contradiction)|refine h1 ?_|refine h2 ?_)|refine h1 ?_|refine h2 ?_);all_goals clear h1 h2 K1 K2)|apply dV|apply aT|apply cu|apply bG|apply aU|apply cK|apply bH|(refine bu rfl ?_)|apply bI|apply bZ|apply bY|apply dS)
     all_goals exact aB []
    ·have ha2:¬(l.any λy=>decide (1000000000<=y))=true:=by rw[ha];simp
     rw[h3 hn0 hn1 ha2]
     have hdg:=hdg ha2 (.inr (by rw[hl];exact hgd))
     rw[ha] at hco
     have e:decide (dg9 l<=300)=decide (((dg9 l:Nat):Int)<=300):=decide_eq_decide.2 omgz
     rw[e]
     generalize dg9 l=dd at*
     refine az Tryz.func142 Tryz.ntmps142 rfl ?_
     repeat' (first|apply dU|apply aJ|((first|refine ay rfl (λK hK=>?_)|refine au (λK hK=>?_));(first|refine ai (f:=185) [] 0 false ?_|refine ai (f:=187) [] 0 false ?_);simp-dsimp(disch:=try exact vD) only[push_cast,simprocAttr,hgd,a1s];(repeat refine aI ?_);intro G hG;refine hG _ _ ?_;clear hG G;(first|refine⟨_,_,hco.down,?_⟩|refine⟨_,_,hdg.down,?_⟩);simp-dsimp(disch:=try exact vD) only[push_cast,simprocAttr,hgd,a1s];(repeat refine aI ?_);apply hK;clear hK K)|((first|refine ay rfl (λK hK=>?_)|refine au (λK hK=>?_));(first|apply cZ|apply aX|apply dz|apply aR|apply bD|apply bE|apply bO|apply iI|apply dh|apply gU|apply gZ|apply ic|apply iD|apply dC|apply bQ|apply bF|apply eH);simp-dsimp(disch:=try exact vD) only[push_cast,simprocAttr,hgd,a1s];(repeat refine aI ?_);apply hK;clear hK K)|((first|refine aN rfl rfl (λK1 K2 h1 h2=>?_) rfl|refine aL (λK1 K2 h1 h2=>?_));simp-dsimp(disch:=try exact vD) only[push_cast,simprocAttr,hgd,a1s];(first|(refine⟨λhc=>?_,λhc=>?_⟩<;>first|(exfalso;omega)|(exfalso;contradiction)|refine h1 ?_|refine h2 ?_)|refine h1 ?_|refine h2 ?_);all_goals clear h1 h2 K1 K2)|apply dV|apply aT|apply cu|apply bG|apply aU|apply cK|apply bH|(refine bu rfl ?_)|apply bI|apply bZ|apply bY|apply dS)
     all_goals exact aB []
end
section
open Go Go.Sy Go.Bp Go.Lm
attribute [local irreducible] AO AL AC OpT ACall Ends DGo aK Thn Blk Nxt
variable {n N M k i m j:Nat} {z z' neg:Bool} {l a b:List Int} {v x y:Int} {xs:List IV} {X:IV}
def D300(v:Int):Prop:=v.natAbs<10^300
theorem zX{a b s t u:Nat}(h:a<10^s)(h2:b<10^t)(e:s+t=u):a*b<10^u:=by
 subst e;rw[Nat.pow_add];exact Nat.mul_lt_mul'' h h2
theorem D300.few(h:D300 v):(lb v.natAbs).length<=34:=Dm h
theorem Dt:R32 (lb n):=λy hy=>by have:=lim_lb y hy;omega
theorem xQ(h:D300 v):ACall Tryz.prog 142 [.agg (aa.cells (iV z v))] [] 0 (.val (.bool true)) []:=by
 have:=wu (X:=iV z v) rfl (by show(lb v.natAbs).length<_;have:=h.few;omega) Dt
 rw[BX h] at this;exact this
def ckI(z:Bool)(xs:List IV)(n:Nat)(j:{j:Nat // j<=n}):St:=
 ⟨15,0,[(2,.val (.int .i64 0)),(5,.isl z (cR xs) n),(6,.val (.int .i64 n)),(7,.val (.int .i64 j.val))],[]⟩
theorem F4(hl:xs.length=n)(hn:n<2^47)(hv:∀j,j<n->∃z v,xs.getD j default=iV z v/\D300 v):ACall Tryz.prog 188 [.isl z (cR xs) n] [] 0 (.val (.int .i64 0)) []:=by
 have hvv:∀j,j<n->PLift (ACall Tryz.prog 142 [.agg (aa.cells (xs.getD j default))] [] 0 (.val (.bool true)) []):=λj hj=>⟨by
  obtain⟨z,v,e,h⟩:=hv j hj
  rw[e];exact xQ h⟩
 clear hv
 refine az Tryz.func188 Tryz.ntmps188 rfl ?_
 repeat' (first|(refine ah ?_;refine ak [] ([].length) (ckI z xs n) (λj=>n-j.val) (⟨0,omgz⟩) rfl (by unfold ckI;exact jZ) ?_;(rintro⟨j,hj⟩;(simp-dsimp only[ckI];refine zqS ?_)))|(refine aj ?_;refine Nxt.mk [] (⟨j+1,omgz⟩) rfl (by unfold ckI;exact jZ) zqO)|refine zqN ?_|refine aM (hvv j omgz).down ?_|refine aY ?_|refine aZ ?_|(refine bf ?_ ?_<;>intro hc<;>try exact zqM))
 all_goals exact aB []
theorem Tk(h:D300 v):ACall Tryz.prog 188 [.isl false (aa.cells (iV z v)) 1] [] 0 (.val (.int .i64 0)) []:=by
 have:=F4 (z:=false) (xs:=[iV z v]) (n:=1) rfl (by decide) (λj hj=>by
  have:j=0:=by omega
  subst this;exact⟨z,v,rfl,h⟩)
 rw[zi] at this;exact this
theorem ww(h:D300 x)(h2:D300 y):ACall Tryz.prog 188 [.isl false (aa.cells (iV z x)++aa.cells (iV z' y)) 2] [] 0 (.val (.int .i64 0)) []:=by
 have:=F4 (z:=false) (xs:=[iV z x,iV z' y]) (n:=2) rfl (by decide) (λj hj=>by
  have:j=0\/j=1:=by omega
  rcases this with rfl|rfl
  ·exact⟨z,x,rfl,h⟩
  ·exact⟨z',y,rfl,h2⟩)
 rw[kP,zi] at this;exact this
theorem qc(h:D300 v):ACall Tryz.prog 138 [.agg (aa.cells (iV z v))] [] 0 (.val (.int .i64 (sgn v))) []:=by
 have hv:=PLift.up (xQ (z:=z) h)
 have hs:=PLift.up (Dq (z:=z) (v:=v))
 unfold iV at*
 rw[bJ] at*
 generalize lb v.natAbs=L at*
 generalize decide (v<0)=ng at*
 refine az Tryz.func138 Tryz.ntmps138 rfl ?_
 repeat' (first|refine zqN ?_|refine aM hv.down ?_|refine aM hs.down ?_|refine aY ?_|refine aZ ?_|(refine bf ?_ ?_<;>intro hc<;>try exact zqM))
 all_goals exact aB []
def sg(neg:Bool)(v:Int):Int:=if neg=true then-v else v
theorem Jh(hi:Lim l)(hl:l.length=n)(hn:n<2^47)(hb:¬D300 (val l)):ACall Tryz.prog 191 [.val (.bool neg),.isl z (cI .u32 l) n] [] 0 (.tup [.agg (aa.cells (iC 0)),.val (.int .i64 3)]) []:=by
 have ht:=PLift.up (nA (z:=z) hl hn)
 have hle:=sV (l:=l) (j:=n)
 have htl:(l.take (trN l n)).length=trN l n:=by rw[List.length_take];omega
 have hd:=PLift.up (wo (z:=z) htl omgz hi.take (I8 omgz))
 have hg:¬dg9 (l.take (trN l n))<=300:=by
  rw[<-hl,jQ hi]
  intro hc
  have:=zU.1 hc
  have hv:=(bA hi).1
  exact hb (by unfold D300;omega)
 have e:iC 0=⟨true,false,[]⟩:=rfl
 rw[e,bJ]
 generalize dg9 (l.take (trN l n))=dd at*
 generalize l.take (trN l n)=L at*
 generalize trN l n=q at*
 clear e
 refine az Tryz.func191 Tryz.ntmps191 rfl ?_
 repeat' (first|refine zqN ?_|refine aM ht.down ?_|refine aM hd.down ?_|refine aY ?_|refine aZ ?_|(refine bf ?_ ?_<;>intro hc<;>try exact zqM))
 all_goals exact fu [] @fF
theorem NI(hi:Lim l)(hl:l.length=n)(hn:n<2^47)(hz:z=true->l=[])(hb:D300 (val l)):ACall Tryz.prog 191 [.val (.bool neg),.isl z (cI .u32 l) n] [] 0 (.tup [.agg (aa.cells (iC (sg neg (val l)))),.val (.int .i64 0)]) []:=by
 have ht:=PLift.up (nA (z:=z) hl hn)
 have hle:=sV (l:=l) (j:=n)
 have htl:(l.take (trN l n)).length=trN l n:=by rw[List.length_take];omega
 have hd:=PLift.up (wo (z:=z) htl omgz hi.take (I8 omgz))
 have hv:=(bA hi).1
 have hte:l.take (trN l n)=lb (val l).toNat:=by rw[<-hl];exact jQ hi
 have hg:dg9 (l.take (trN l n))<=300:=by
  rw[hte]
  exact zU.2 (by unfold D300 at hb;omega)
 have hab:(sg neg (val l)).natAbs=(val l).toNat:=by unfold sg;split<;>omega
 by_cases h0:val l=0
 ·have e:iC (sg neg (val l))=⟨true,false,[]⟩:=by rw[h0];unfold sg;split<;>rfl
  rw[e,bJ]
  have hq:trN l n=0:=by
   have h2:(lb (val l).toNat).length=0:=by rw[h0];rfl
   rw[<-hte,htl] at h2;exact h2
  generalize dg9 (l.take (trN l n))=dd at*
  generalize l.take (trN l n)=L at*
  generalize trN l n=q at*
  subst hq
  clear e hte
  refine az Tryz.func191 Tryz.ntmps191 rfl ?_
  repeat' (first|refine zqN ?_|refine aM ht.down ?_|refine aM hd.down ?_|refine aY ?_|refine aZ ?_|(refine bf ?_ ?_<;>intro hc<;>try exact zqM))
  all_goals exact fu [] @fF
 ·have hzf:z=false:=by
   cases z with
   |false=>rfl
   |true=>exact absurd (by rw[hz rfl];rfl) h0
  subst hzf
  have hq:0<trN l n:=by
   refine Nat.pos_of_ne_zero λhc=>h0 ?_
   have:=KW (l:=l) (j:=n)
   rw[hc,kM,bV omgz] at this
   exact this.symm
  have e:iC (sg neg (val l))=⟨false,neg,l.take (trN l n)⟩:=by
   unfold iC iV
   rw[hab,hte]
   have e1:(sg neg (val l)==0)=false:=by unfold sg;split<;>simp<;>omega
   have e2:decide (sg neg (val l)<0)=neg:=by
    unfold sg
    cases neg with
    |true=>rw[if_pos rfl];exact decide_eq_true omgz
    |false=>rw[if_neg (by simp)];exact decide_eq_false omgz
   rw[e1,e2]
  rw[e,bJ]
  dsimp only
  rw[htl]
  generalize dg9 (l.take (trN l n))=dd at*
  generalize l.take (trN l n)=L at*
  generalize trN l n=q at*
  clear e hte
  refine az Tryz.func191 Tryz.ntmps191 rfl ?_
  repeat' (first|refine zqN ?_|refine aM ht.down ?_|refine aM hd.down ?_|refine aY ?_|refine aZ ?_|(refine bf ?_ ?_<;>intro hc<;>try exact zqM))
  all_goals exact aB []
def fE(x y:Int):Int:=if x<y then-1 else if y<x then 1 else 0
theorem F5:oI (lb x.natAbs) (lb y.natAbs)=fE x.natAbs y.natAbs:=by unfold oI fE;rw[aS,aS]
theorem agG(h:sgn x<sgn y):fE x y= -1:=by
 unfold sgn at h;unfold fE
 rw[if_pos]
 repeat' split at h<;>try omega
theorem agH(h:sgn y<sgn x):fE x y=1:=by
 unfold sgn at h;unfold fE
 rw[if_neg,if_pos]
 all_goals repeat' split at h<;>try omega
theorem K6: -1<=sgn x/\sgn x<=1:=by unfold sgn;repeat' split<;>try omega
theorem Tm: -1<=fE x y/\fE x y<=1:=by unfold fE;repeat' split<;>try omega
theorem Tn{nx ny:Bool} {Lx Ly:List Int} {c1 c2 sx sy:Int}
 (hck:ACall Tryz.prog 188 [.isl false [.val (.bool nx),.isl z (cI .u32 Lx) Lx.length,.val (.bool ny),.isl z' (cI .u32 Ly) Ly.length] 2] [] 0 (.val (.int .i64 0)) [])
 (hs1:ACall Tryz.prog 180 [.agg [.val (.bool nx),.isl z (cI .u32 Lx) Lx.length]] [] 0 (.val (.int .i64 sx)) [])
 (hs2:ACall Tryz.prog 180 [.agg [.val (.bool ny),.isl z' (cI .u32 Ly) Ly.length]] [] 0 (.val (.int .i64 sy)) [])
 (hcm:ACall Tryz.prog 192 [.isl z (cI .u32 Lx) Lx.length,.isl z' (cI .u32 Ly) Ly.length] [] 0 (.val (.int .i64 c1)) [])
 (r1: -1<=sx/\sx<=1) (r2: -1<=sy/\sy<=1) (r3: -1<=c1/\c1<=1) (e1:sx<sy->c2= -1) (e2:sy<sx->c2=1) (e3:sx=sy->nx=true->c2= -c1) (e4:sx=sy->nx=false->c2=c1):
 ACall Tryz.prog 144 [.agg [.val (.bool nx),.isl z (cI .u32 Lx) Lx.length],.agg [.val (.bool ny),.isl z' (cI .u32 Ly) Ly.length]] [] 0 (.val (.int .i64 c2)) []:=by
 have hck:=PLift.up hck;have hs1:=PLift.up hs1;have hs2:=PLift.up hs2;have hcm:=PLift.up hcm
 have hnx:=ae;have hne:=ae;have hlt:=ae
 rcases Decidable.em (sx=sy) with hne|hne
 ·subst hne
  rcases Bool.eq_false_or_eq_true nx with hnx|hnx
  ·rw[e3 rfl hnx]
   subst hnx
   refine az Tryz.func144 Tryz.ntmps144 rfl ?_
   repeat' (first|apply dU|apply aJ|((first|refine ay rfl (λK hK=>?_)|refine au (λK hK=>?_)|refine aD (λK hK=>?_));(first|refine ai (f:=188) [] 0 true ?_|refine ai (f:=180) (dst:=some 14) [] 0 false ?_|refine ai (f:=180) (dst:=some 16) [] 0 false ?_|refine ai (f:=192) [] 0 false ?_);simp-dsimp(disch:=try exact vD) only[push_cast,simprocAttr];(repeat refine aI ?_);intro G hG;refine hG _ _ ?_;clear hG G;(first|refine⟨_,_,hck.down,?_⟩|refine⟨_,_,hs1.down,?_⟩|refine⟨_,_,hs2.down,?_⟩|refine⟨_,_,hcm.down,?_⟩);simp-dsimp(disch:=try exact vD) only[push_cast,simprocAttr];(repeat refine aI ?_);apply hK;clear hK K)|((first|refine ay rfl (λK hK=>?_)|refine au (λK hK=>?_)|refine aD (λK hK=>?_));(first|apply cZ|apply aX|apply dz|apply aR|apply bD|apply gZ|apply ic|apply iD|apply aV|apply dC|apply bQ|apply bF|apply eH);simp-dsimp(disch:=try exact vD) only[push_cast,simprocAttr];(repeat refine aI ?_);apply hK;clear hK K)|((first|refine aN rfl rfl (λK1 K2 h1 h2=>?_) rfl|refine aL (λK1 K2 h1 h2=>?_)|refine bX rfl rfl (λK1 K2 h1 h2=>?_));simp-dsimp(disch:=try exact vD) only[push_cast,simprocAttr];(first|(refine⟨λhc=>?_,λhc=>?_⟩<;>first|(exfalso;omega)|(exfalso;contradiction)|refine h1 ?_|refine h2 ?_)|refine h1 ?_|refine h2 ?_);all_goals clear h1 h2 K1 K2)|refine zqR [] ?_|((first|refine jl (by kernel_rfl) (λK hK=>?_)|refine l8 (by kernel_rfl) (λK hK=>?_));simp only[↓Go.Sy.gL,↓Go.Sy.gM,↓Go.Sy.iN,↓Go.Sy.gN,↓Go.Sy.iO,↓Go.Sy.fO,↓Go.Sy.gQ,push_cast,Nat.reduceLeDiff,Nat.reduceSub,Nat.reduceBEq,Nat.reduceEqDiff,Nat.reduceAdd,Nat.reduceLT,↓reduceIte,reduceCtorEq];refine hK _ _ _ ?_;clear hK K)|apply rP|apply dV|apply aT|apply cu|apply bG|apply aU|apply cK|apply bH|(refine bu rfl ?_)|apply bI|apply bZ|apply bY|apply dS)
   all_goals exact aB []
  ·rw[e4 rfl hnx]
   subst hnx
   refine az Tryz.func144 Tryz.ntmps144 rfl ?_
   repeat' (first|apply dU|apply aJ|((first|refine ay rfl (λK hK=>?_)|refine au (λK hK=>?_)|refine aD (λK hK=>?_));(first|refine ai (f:=188) [] 0 true ?_|refine ai (f:=180) (dst:=some 14) [] 0 false ?_|refine ai (f:=180) (dst:=some 16) [] 0 false ?_|refine ai (f:=192) [] 0 false ?_);simp-dsimp(disch:=try exact vD) only[push_cast,simprocAttr];(repeat refine aI ?_);intro G hG;refine hG _ _ ?_;clear hG G;(first|refine⟨_,_,hck.down,?_⟩|refine⟨_,_,hs1.down,?_⟩|refine⟨_,_,hs2.down,?_⟩|refine⟨_,_,hcm.down,?_⟩);simp-dsimp(disch:=try exact vD) only[push_cast,simprocAttr];(repeat refine aI ?_);apply hK;clear hK K)|((first|refine ay rfl (λK hK=>?_)|refine au (λK hK=>?_)|refine aD (λK hK=>?_));(first|apply cZ|apply aX|apply dz|apply aR|apply bD|apply gZ|apply ic|apply iD|apply aV|apply dC|apply bQ|apply bF|apply eH);simp-dsimp(disch:=try exact vD) only[push_cast,simprocAttr];(repeat refine aI ?_);apply hK;clear hK K)|((first|refine aN rfl rfl (λK1 K2 h1 h2=>?_) rfl|refine aL (λK1 K2 h1 h2=>?_)|refine bX rfl rfl (λK1 K2 h1 h2=>?_));simp-dsimp(disch:=try exact vD) only[push_cast,simprocAttr];(first|(refine⟨λhc=>?_,λhc=>?_⟩<;>first|(exfalso;omega)|(exfalso;contradiction)|refine h1 ?_|refine h2 ?_)|refine h1 ?_|refine h2 ?_);all_goals clear h1 h2 K1 K2)|refine zqR [] ?_|((first|refine jl (by kernel_rfl) (λK hK=>?_)|refine l8 (by kernel_rfl) (λK hK=>?_));simp only[↓Go.Sy.gL,↓Go.Sy.gM,↓Go.Sy.iN,↓Go.Sy.gN,↓Go.Sy.iO,↓Go.Sy.fO,↓Go.Sy.gQ,push_cast,Nat.reduceLeDiff,Nat.reduceSub,Nat.reduceBEq,Nat.reduceEqDiff,Nat.reduceAdd,Nat.reduceLT,↓reduceIte,reduceCtorEq];refine hK _ _ _ ?_;clear hK K)|apply rP|apply dV|apply aT|apply cu|apply bG|apply aU|apply cK|apply bH|(refine bu rfl ?_)|apply bI|apply bZ|apply bY|apply dS)
   all_goals exact aB []
 ·rcases Decidable.em (sx<sy) with hlt|hlt
  ·rw[e1 hlt]
   refine az Tryz.func144 Tryz.ntmps144 rfl ?_
   repeat' (first|apply dU|apply aJ|((first|refine ay rfl (λK hK=>?_)|refine au (λK hK=>?_)|refine aD (λK hK=>?_));(first|refine ai (f:=188) [] 0 true ?_|refine ai (f:=180) (dst:=some 14) [] 0 false ?_|refine ai (f:=180) (dst:=some 16) [] 0 false ?_);simp-dsimp(disch:=try exact vD) only[push_cast,simprocAttr,hne,hlt];(repeat refine aI ?_);intro G hG;refine hG _ _ ?_;clear hG G;(first|refine⟨_,_,hck.down,?_⟩|refine⟨_,_,hs1.down,?_⟩|refine⟨_,_,hs2.down,?_⟩);simp-dsimp(disch:=try exact vD) only[push_cast,simprocAttr,hne,hlt];(repeat refine aI ?_);apply hK;clear hK K)|((first|refine ay rfl (λK hK=>?_)|refine au (λK hK=>?_)|refine aD (λK hK=>?_));(first|apply cZ|apply aX|apply dz|apply aR|apply bD|apply gZ|apply ic|apply iD|apply aV|apply dC|apply bQ|apply bF|apply eH);simp-dsimp(disch:=try exact vD) only[push_cast,simprocAttr,hne,hlt];(repeat refine aI ?_);apply hK;clear hK K)|((first|refine aN rfl rfl (λK1 K2 h1 h2=>?_) rfl|refine aL (λK1 K2 h1 h2=>?_)|refine bX rfl rfl (λK1 K2 h1 h2=>?_));simp-dsimp(disch:=try exact vD) only[push_cast,simprocAttr,hne,hlt];(first|(refine⟨λhc=>?_,λhc=>?_⟩<;>first|(exfalso;omega)|(exfalso;contradiction)|refine h1 ?_|refine h2 ?_)|refine h1 ?_|refine h2 ?_);all_goals clear h1 h2 K1 K2)|refine zqR [] ?_|((first|refine jl (by kernel_rfl) (λK hK=>?_)|refine l8 (by kernel_rfl) (λK hK=>?_));simp only[↓Go.Sy.gL,↓Go.Sy.gM,↓Go.Sy.iN,↓Go.Sy.gN,↓Go.Sy.iO,↓Go.Sy.fO,↓Go.Sy.gQ,push_cast,Nat.reduceLeDiff,Nat.reduceSub,Nat.reduceBEq,Nat.reduceEqDiff,Nat.reduceAdd,Nat.reduceLT,↓reduceIte,reduceCtorEq];refine hK _ _ _ ?_;clear hK K)|apply rP|apply dV|apply aT|apply cu|apply bG|apply aU|apply cK|apply bH|(refine bu rfl ?_)|apply bI|apply bZ|apply bY|apply dS)
   all_goals exact aB []
  ·rw[e2 omgz]
   refine az Tryz.func144 Tryz.ntmps144 rfl ?_
   repeat' (first|apply dU|apply aJ|((first|refine ay rfl (λK hK=>?_)|refine au (λK hK=>?_)|refine aD (λK hK=>?_));(first|refine ai (f:=188) [] 0 true ?_|refine ai (f:=180) (dst:=some 14) [] 0 false ?_|refine ai (f:=180) (dst:=some 16) [] 0 false ?_);simp-dsimp(disch:=try exact vD) only[push_cast,simprocAttr,hne,hlt];(repeat refine aI ?_);intro G hG;refine hG _ _ ?_;clear hG G;(first|refine⟨_,_,hck.down,?_⟩|refine⟨_,_,hs1.down,?_⟩|refine⟨_,_,hs2.down,?_⟩);simp-dsimp(disch:=try exact vD) only[push_cast,simprocAttr,hne,hlt];(repeat refine aI ?_);apply hK;clear hK K)|((first|refine ay rfl (λK hK=>?_)|refine au (λK hK=>?_)|refine aD (λK hK=>?_));(first|apply cZ|apply aX|apply dz|apply aR|apply bD|apply gZ|apply ic|apply iD|apply aV|apply dC|apply bQ|apply bF|apply eH);simp-dsimp(disch:=try exact vD) only[push_cast,simprocAttr,hne,hlt];(repeat refine aI ?_);apply hK;clear hK K)|((first|refine aN rfl rfl (λK1 K2 h1 h2=>?_) rfl|refine aL (λK1 K2 h1 h2=>?_)|refine bX rfl rfl (λK1 K2 h1 h2=>?_));simp-dsimp(disch:=try exact vD) only[push_cast,simprocAttr,hne,hlt];(first|(refine⟨λhc=>?_,λhc=>?_⟩<;>first|(exfalso;omega)|(exfalso;contradiction)|refine h1 ?_|refine h2 ?_)|refine h1 ?_|refine h2 ?_);all_goals clear h1 h2 K1 K2)|refine zqR [] ?_|((first|refine jl (by kernel_rfl) (λK hK=>?_)|refine l8 (by kernel_rfl) (λK hK=>?_));simp only[↓Go.Sy.gL,↓Go.Sy.gM,↓Go.Sy.iN,↓Go.Sy.gN,↓Go.Sy.iO,↓Go.Sy.fO,↓Go.Sy.gQ,push_cast,Nat.reduceLeDiff,Nat.reduceSub,Nat.reduceBEq,Nat.reduceEqDiff,Nat.reduceAdd,Nat.reduceLT,↓reduceIte,reduceCtorEq];refine hK _ _ _ ?_;clear hK K)|apply rP|apply dV|apply aT|apply cu|apply bG|apply aU|apply cK|apply bH|(refine bu rfl ?_)|apply bI|apply bZ|apply bY|apply dS)
   all_goals exact aB []
theorem Tp(h:D300 x)(h2:D300 y):ACall Tryz.prog 144 [.agg (aa.cells (iV z x)),.agg (aa.cells (iV z' y))] [] 0 (.val (.int .i64 (fE x y))) []:=by
 have hcm:=nC (z:=z) (z':=z') (a:=lb x.natAbs) (b:=lb y.natAbs) lim_lb lim_lb jC jC (by have:=h.few;omega) (by have:=h2.few;omega)
 rw[F5] at hcm
 refine Tn (ww h h2) Dq Dq hcm K6 K6 Tm agG agH (λhe hn=>?_) λhe hn=>?_
 ·have hx:x<0:=of_decide_eq_true hn
  have hy:y<0:=by unfold sgn at he;repeat' split at he<;>try omega
  unfold fE
  repeat' split<;>try omega
 ·have hx:¬x<0:=of_decide_eq_false hn
  have hy:¬y<0:=by intro hc;unfold sgn at he;repeat' split at he<;>try omega
  unfold fE
  repeat' split<;>try omega
end
section
open Go Go.Sy Go.Bp Go.Lm
attribute [local irreducible] AO AL AC OpT ACall Ends DGo aK Thn Blk Nxt
variable {n N M k i m j:Nat} {z z' neg:Bool} {l a b u L:List Int} {v x y d:Int}
theorem Ji(h:k<u.length):u.drop k=u.getD k 0::u.drop (k+1):=by
 rw[List.drop_eq_getElem_cons h,ja h]
def Tq(z:Bool)(u:List Int)(n:Nat)(v:Int)(k:{k:Nat // k<=n}):St:=
 ⟨43,0,[(0,.isl z (cI .u32 u) n),(1,.val (.int .u32 v)),(6,.sl 0 0 n 1),(7,.val (.int .u64 (jF v (u.drop k.val)).2)),(8,.val (.int .i64 ((k.val:Int)-1)))],[(0,some (.cells (cI .u32 (List.replicate k.val 0++(jF v (u.drop k.val)).1)) 136))]⟩
theorem F6(hu:Lim u)(hl:u.length=n)(hn:n<2^30)(h0:0<v)(hv:v<1000000000):ACall Tryz.prog 209 [.isl z (cI .u32 u) n,.val (.int .u32 v)] [] 0 (.tup [.isl false (cI .u32 (lb (val u/v).toNat)) (lb (val u/v).toNat).length,.val (.int .u32 (val u%v))]) []:=by
 obtain⟨s1,s2,s3,s4,s5⟩:=KZ h0 hu
 have hsl:(jF v u).1.length=n:=by rw[FR];exact hl
 have ht:=PLift.up (nA (z:=false) (l:=(jF v u).1) hsl omgz)
 have e1:=jQ s1
 have e2:=jR s1
 rw[hsl,s2] at e1 e2
 rw[e1,<-e2] at ht
 have zx2:¬v=0:=by omega
 have hst:=λ(k:Nat)=>KZ (l:=u.drop k) h0 hu.drop
 have hln:=λ(k:Nat)=>(show(jF v (u.drop k)).1.length=n-k by rw[FR,List.length_drop,hl])
 have hdr:=λ(k:Nat) (h:k<n)=>Ji (u:=u) (k:=k) omgz
 have zx5:List.replicate n 0++(jF v (u.drop n)).1=List.replicate n (0:Int):=by
  rw[List.drop_eq_nil_of_le omgz,FQ,List.append_nil]
 have zx6:(jF v (u.drop n)).2=0:=by rw[List.drop_eq_nil_of_le omgz,FQ]
 have zx7:List.replicate 0 (0:Int)++(jF v (u.drop 0)).1=(jF v u).1:=rfl
 have zx8:(jF v u).2=val u%v:=s3
 have zx9:(jF v u).1.take n=(jF v u).1:=List.take_of_length_le omgz
 have hmr:0<=val u%v/\val u%v<v:=by rw[<-s3];exact⟨s4,s5⟩
 rw[s3] at s4 s5
 generalize lb (val u/v).toNat=R at ht⊢
 generalize val u%v=r0 at*
 clear e1 e2 s2 s3
 have zx10:=ae;have zx11:=ae;have zx12:=ae;have zx13:=ae;have zx14:=ae;have zx15:=ae;have zx3:=ae
 refine az Tryz.func209 Tryz.ntmps209 rfl ?_
 have zx1:= @gd0;have zx4:= @a1s;have zx16:=aA;repeat' (first|((first|refine bT (r:=9) 0 ?_|refine bS (r:=9) 0 ?_);refine ab5 ?_;intro K hK;refine hK _ _ ?_;clear hK K)|(refine ah ?_;refine ak [0] ([0].length) (Tq z u n v) (λk=>k.val) (⟨n,Nat.le_refl _⟩) rfl (by unfold Tq;exact wS) ?_;(rintro⟨k,hk⟩;rcases Nat.eq_zero_or_pos k with hk0|hk0<;>first|(subst hk0;(simp-dsimp only[Tq];refine zqS ?_))|(obtain⟨k,rfl⟩:∃k',k=k'+1:=⟨k-1,omgz⟩;have hxr:=hu.at k;obtain⟨t1,t2,t3,t4,t5⟩:=hst (k+1);obtain⟨q1,q2,q3,q4,q5⟩:=hst k;have hl1:=hln (k+1);rw[hdr k omgz,qY] at q1 q4 q5;have zx11:jF v (u.drop k)=_:=(by rw[hdr k omgz,qY]);generalize zx10:jF v (u.drop (k+1))=S at*;obtain⟨Q,r⟩:=S;dsimp only at*;generalize zx3:u.getD k 0=x at*;have hq1:=q1.hd;generalize zx14:(r*1000000000+x)/v=qq at*;generalize zx15:(r*1000000000+x)%v=rr at*;have zx13:=zS (i:=k) (x:=qq) (L:=Q);(simp-dsimp only[Tq];refine zqS ?_))))|(refine aj ?_;refine Nxt.mk [0] (⟨k,omgz⟩) rfl (by unfold Tq;exact wS) zqO)|refine zqN ?_|refine Qy ht.down ?_|refine Qx ?_|refine Qz ?_|(refine QA ?_ ?_<;>intro hc<;>try exact zqM))
 all_goals exact aB []
def scI(z:Bool)(u:List Int)(m:Nat)(d:Int)(n:Nat)(i:{i:Nat // i<=n}):St:=
 ⟨40,0,[(0,.isl z (cI .u32 u) m),(1,.val (.int .u64 d)),(7,.sl 0 0 n 1),(8,.val (.int .u64 (scC u d i.val))),(13,.val (.int .i64 n)),(14,.val (.int .i64 i.val))],[(0,some (.cells (cI .u32 (scL u d i.val++List.replicate (n-i.val) 0)) 136))]⟩
theorem Tt(hu:Lim u)(hl:u.length=m)(hm:m<2^30)(hn:n<2^30)(hd:0<=d/\d<1000000000):ACall Tryz.prog 211 [.isl z (cI .u32 u) m,.val (.int .u64 d),.val (.int .i64 n)] [] 0 (.sl 0 0 n 1) [.cells (cI .u32 (scL u d n)) 136]:=by
 have zx2:scL u d 0++List.replicate (n-0) 0=List.replicate n (0:Int):=rfl
 have zx3:scL u d n++List.replicate (n-n) 0=scL u d n:=by rw[Nat.sub_self,List.replicate_zero,List.append_nil]
 have hcc:=λ(i:Nat)=>qZ (i:=i) hu hd
 have zx6:=ae;have zx7:=ae;have zx8:=ae;have zx9:=ae;have zx10:=ae
 have hlen:=λ(i:Nat) (h:i<=n)=>(show(scL u d i++List.replicate (n-i) 0).length=n by rw[List.length_append,jc,List.length_replicate];omega)
 refine az Tryz.func211 Tryz.ntmps211 rfl ?_
 have zx1:= @gd0;have zx4:= @FT;have zx5:= @jc;have zx11:=aA;have zx12:=aA;repeat' (first|(refine ah ?_;refine ak [0] ([0].length) (scI z u m d n) (λi=>n-i.val) (⟨0,Nat.zero_le _⟩) rfl (by unfold scI;exact cO) ?_;(rintro⟨i,hi⟩;rcases Nat.lt_or_eq_of_le hi with hil|hil<;>first|(have ei:n=i:=hil.symm;subst ei;(simp-dsimp only[scI];refine zqS ?_))|(have hur:=hu.at i;have hc1:=hcc i;have hmr:=lH hur hd;have zx7:=BS (u:=u) (d:=d) (i:=i);have zx8:=FU (u:=u) (d:=d) (i:=i);have hll:=hlen i hi;have zx9:=K4 (n:=n) (x:=(scC u d i+u.getD i 0*d)%1000000000) (jc (u:=u) (d:=d) (i:=i)) hil;rw[<-zx8] at zx9;rcases Nat.lt_or_ge i m with him|him<;>first|(have zx10:u.getD i 0=0:=eu omgz;rw[zx10,Int.zero_mul,Int.add_zero] at zx7 zx9;(simp-dsimp only[scI];refine zqS ?_))|(generalize zx6:u.getD i 0*d=pp at*;(simp-dsimp only[scI];refine zqS ?_)))))|(refine aj ?_;refine Nxt.mk [0] (⟨i+1,omgz⟩) rfl (by unfold scI;exact cO) zqO)|refine zqN ?_|refine nQ ?_|refine nR ?_|(refine nS ?_ ?_<;>intro hc<;>try exact zqM))
 all_goals exact aB [0]
theorem Tu(hu:Lim u)(hl:u.length=m)(hm:m<2^30)(hn:n<2^30)(hd:0<=d/\d<1000000000):ACall Tryz.prog 211 [.isl z (cI .u32 u) m,.val (.int .u64 d),.val (.int .i64 n)] [] 0 (.isl false (cI .u32 (scL u d n)) n) []:=by
 have zx2:scL u d 0++List.replicate (n-0) 0=List.replicate n (0:Int):=rfl
 have zx3:scL u d n++List.replicate (n-n) 0=scL u d n:=by rw[Nat.sub_self,List.replicate_zero,List.append_nil]
 have tk0:(scL u d n).take n=scL u d n:=List.take_of_length_le (by rw[jc];exact Nat.le_refl _)
 have hcc:=λ(i:Nat)=>qZ (i:=i) hu hd
 have zx6:=ae;have zx7:=ae;have zx8:=ae;have zx9:=ae;have zx10:=ae
 have hlen:=λ(i:Nat) (h:i<=n)=>(show(scL u d i++List.replicate (n-i) 0).length=n by rw[List.length_append,jc,List.length_replicate];omega)
 refine az Tryz.func211 Tryz.ntmps211 rfl ?_
 have zx1:= @gd0;have zx4:= @FT;have zx5:= @jc;have zx11:=aA;have zx12:=aA;repeat' (first|(refine ah ?_;refine ak [0] ([0].length) (scI z u m d n) (λi=>n-i.val) (⟨0,Nat.zero_le _⟩) rfl (by unfold scI;exact cO) ?_;(rintro⟨i,hi⟩;rcases Nat.lt_or_eq_of_le hi with hil|hil<;>first|(have ei:n=i:=hil.symm;subst ei;(simp-dsimp only[scI];refine zqS ?_))|(have hur:=hu.at i;have hc1:=hcc i;have hmr:=lH hur hd;have zx7:=BS (u:=u) (d:=d) (i:=i);have zx8:=FU (u:=u) (d:=d) (i:=i);have hll:=hlen i hi;have zx9:=K4 (n:=n) (x:=(scC u d i+u.getD i 0*d)%1000000000) (jc (u:=u) (d:=d) (i:=i)) hil;rw[<-zx8] at zx9;rcases Nat.lt_or_ge i m with him|him<;>first|(have zx10:u.getD i 0=0:=eu omgz;rw[zx10,Int.zero_mul,Int.add_zero] at zx7 zx9;(simp-dsimp only[scI];refine zqS ?_))|(generalize zx6:u.getD i 0*d=pp at*;(simp-dsimp only[scI];refine zqS ?_)))))|(refine aj ?_;refine Nxt.mk [0] (⟨i+1,omgz⟩) rfl (by unfold scI;exact cO) zqO)|refine zqN ?_|refine nQ ?_|refine nR ?_|(refine nS ?_ ?_<;>intro hc<;>try exact zqM))
 all_goals first
  |(((refine Ends.frz 0 ?_;simp-dsimp(disch:=try exact vD) only[push_cast,simprocAttr,Tryz.f211,tk0];(repeat refine aI ?_);intro K hK;refine hK _ _ ?_;clear hK K);refine Ends.mk2 zqI [] ?_;simp-dsimp(disch:=try exact vD) only[push_cast,simprocAttr,Tryz.f211,tk0];try exact zqF);done)
  |skip
end
section
open Go Go.Sy Go.Bp Go.Lm
attribute [local irreducible] AO AL AC OpT ACall Ends DGo aK Thn Blk Nxt
variable {n N M k i m j:Nat} {z z' neg:Bool} {l a b u L X y w R T:List Int} {v x d f:Int}
def sbZ(X:List Int)(j n:Nat)(R:List Int):List Int:=X.take j++R++X.drop (j+n+1)
theorem Du(hR:R.length=n+1)(h:j+n+1<=X.length):(sbZ X j n R).length=X.length:=by
 unfold sbZ;rw[List.length_append,List.length_append,List.length_take,List.length_drop,hR];omega
theorem K7(hR:R.length=n+1)(h:j+n+1<=X.length)(hi:i<n+1):(sbZ X j n R).getD (j+i) 0=R.getD i 0:=by
 unfold sbZ
 have e:(X.take j).length=j:=by rw[List.length_take];omega
 rw[List.append_assoc,List.getD_eq_getElem?_getD,List.getElem?_append_right omgz,e,Nat.add_sub_cancel_left,List.getElem?_append_left omgz,<-List.getD_eq_getElem?_getD]
theorem K8(hR:R.length=n+1)(h:j+n+1<=X.length)(hi:i<n+1):(sbZ X j n R).set (j+i) x=sbZ X j n (R.set i x):=by
 unfold sbZ
 have e:(X.take j).length=j:=by rw[List.length_take];omega
 rw[List.append_assoc,List.set_append_right _ _ omgz,e,Nat.add_sub_cancel_left,List.set_append_left _ _ omgz,<-List.append_assoc]
theorem F7(h:j+n+1<=X.length):sbZ X j n ((X.drop j).take (n+1))=X:=by
 unfold sbZ
 rw[List.append_assoc,show X.drop (j+n+1)=(X.drop j).drop (n+1) by rw[List.drop_drop];rfl,List.take_append_drop,List.take_append_drop]
theorem q8(hT:T.length=i)(hw:w.length=n)(hi:i<=n):(T++w.drop i).length=n:=by
 rw[List.length_append,List.length_drop,hT,hw];omega
theorem K9(hT:T.length=i)(hw:w.length=n)(hi:i<n):(T++w.drop i).getD i 0=w.getD i 0:=by
 rw[List.getD_eq_getElem?_getD,List.getElem?_append_right omgz,hT,Nat.sub_self,List.getElem?_drop,Nat.add_zero,<-List.getD_eq_getElem?_getD]
theorem La(hT:T.length=i)(hw:w.length=n)(hi:i<n):(T++w.drop i).set i x=(T++[x])++w.drop (i+1):=by
 rw[List.set_append_right _ _ omgz,hT,Nat.sub_self,List.drop_eq_getElem_cons omgz,List.append_assoc];rfl
theorem Lb(h:j+n+1<=X.length):((X.drop j).take (n+1)).length=n+1:=by
 rw[List.length_take,List.length_drop];omega
def suZ(X w y:List Int)(j n:Nat)(f:Int)(i:Nat):List Int:=sbZ X j n (tL w y f i++w.drop i)
def reZ(X w y:List Int)(j n:Nat)(i:Nat):List Int:=sbZ X j n (pL w y i++w.drop i)
theorem Lc(h:tL w y f (i+1)=T):suZ X w y j n f (i+1)=sbZ X j n (T++w.drop (i+1)):=by unfold suZ;rw[h]
theorem Ld(h:pL w y (i+1)=T):reZ X w y j n (i+1)=sbZ X j n (T++w.drop (i+1)):=by unfold reZ;rw[h]
def F8(X w y:List Int)(j n:Nat)(f:Int)(i:{i:Nat // i<=n+1}):St:=
 ⟨54,1,[(0,.sl 0 j (n+1) 1),(1,.isl false (cI .u32 y) n),(2,.val (.int .u64 f)),(7,.val (.int .u64 (tC y f i.val))),(8,.val (.int .i64 (tB w y f i.val))),(12,.val (.int .i64 ((n:Int)+1))),(13,.val (.int .i64 i.val))],[(0,some (.cells (cI .u32 (suZ X w y j n f i.val)) 136))]⟩
theorem wU(hX:Lim X)(hXl:X.length=M)(hy:Lim y)(hl:y.length=n)(hj:j+n+1<=M)(hM:M<2^30)(hf:0<=f/\f<1000000000)(hw:(X.drop j).take (n+1)=w):
 ACall Tryz.prog 212 [.sl 0 j (n+1) 1,.isl false (cI .u32 y) n,.val (.int .u64 f)] [.cells (cI .u32 X) 136] 1 (.val (.bool (decide (¬tB w y f (n+1)=0)))) [.cells (cI .u32 (sbZ X j n (tL w y f (n+1)))) 136]:=by
 subst hXl
 have hwl:w.length=n+1:=by rw[<-hw];exact Lb hj
 have hwL:Lim w:=by rw[<-hw];exact hX.drop.take
 have e0:X=suZ X w y j n f 0:=by rw[<-hw];exact(F7 hj).symm
 have zx11:suZ X w y j n f (n+1)=sbZ X j n (tL w y f (n+1)):=by unfold suZ;rw[List.drop_eq_nil_of_le omgz,List.append_nil]
 have hln:∀(i:Nat),i<=n+1->(suZ X w y j n f i).length=X.length:=λi h=>Du (X:=X) (j:=j) (q8 (T:=tL w y f i) tL_len hwl h) hj
 have hgt:∀(i:Nat),i<n+1->(suZ X w y j n f i).getD (j+i) 0=w.getD i 0:=λi h=>(K7 (X:=X) (j:=j) (q8 (T:=tL w y f i) tL_len hwl omgz) hj h).trans (K9 tL_len hwl h)
 have hst:∀(i:Nat) (x:Int),i<n+1->(suZ X w y j n f i).set (j+i) x=sbZ X j n ((tL w y f i++[x])++w.drop (i+1)):=λi x h=>(K8 (X:=X) (j:=j) (x:=x) (q8 (T:=tL w y f i) tL_len hwl omgz) hj h).trans (congrArg (sbZ X j n) (La tL_len hwl h))
 have hcr:=λ(i:Nat)=>Je (i:=i) hy hf
 have hbr:=λ(i:Nat)=>Di (w:=w) (yl:=y) (f:=f) (i:=i)
 clear hw
 have zx2:=ae;have zx3:=ae;have zx4:=ae;have zx5:=ae;have zx6:=ae;have zx7:=ae;have zx8:=ae;have zx9:=ae;have zx10:=ae
 revert e0
 generalize hXX:cI IntKind.u32 X=C
 intro e00
 have e0:C=cI IntKind.u32 (suZ X w y j n f 0):=by rw[<-e00];exact hXX.symm
 subst e0
 clear hXX e00
 refine az Tryz.func212 Tryz.ntmps212 rfl ?_
 have zx1:= @gd0;have zx12:= @agv;have zx13:= @tB_0;have zx14:=aA;have zx15:=aA;have zx16:=aA;repeat' (first|(refine ah ?_;refine ak [0] ([0].length) (F8 X w y j n f) (λi=>n+1-i.val) (⟨0,Nat.zero_le _⟩) rfl (by unfold F8;exact wS) ?_;(rintro⟨i,hi⟩;have hci:=hcr i;have hbi:=hbr i;have zx10:=hln i hi;rcases Nat.lt_or_eq_of_le hi with hil|hil<;>first|(subst hil;(simp-dsimp only[F8];refine zqS ?_))|(have hwr:=hwL.at i;have hyr:=hy.at i;have hmr:=lH hyr hf;have zx8:=hgt i hil;have zx9:=λx=>hst i x hil;have zx4:=Zh (yl:=y) (f:=f) (i:=i);rcases Nat.lt_or_ge i n with him|him<;>rcases Decidable.em (w.getD i 0-(tC y f i+y.getD i 0*f)%1000000000-tB w y f i<0) with zx2|zx2<;>first|(have zx6:y.getD i 0=0:=eu omgz;have zx3:=Lc (X:=X) (j:=j) (n:=n) (agy zx2);have zx5:=agw zx2;rw[zx6,Int.zero_mul,Int.add_zero] at zx3 zx2 zx4;(simp-dsimp only[F8];refine zqS ?_))|(have zx6:y.getD i 0=0:=eu omgz;have zx3:=Lc (X:=X) (j:=j) (n:=n) (agz zx2);have zx5:=agx zx2;rw[zx6,Int.zero_mul,Int.add_zero] at zx3 zx2 zx4;(simp-dsimp only[F8];refine zqS ?_))|(have zx3:=Lc (X:=X) (j:=j) (n:=n) (agy zx2);have zx5:=agw zx2;generalize zx7:y.getD i 0*f=pp at*;(simp-dsimp only[F8];refine zqS ?_))|(have zx3:=Lc (X:=X) (j:=j) (n:=n) (agz zx2);have zx5:=agx zx2;generalize zx7:y.getD i 0*f=pp at*;(simp-dsimp only[F8];refine zqS ?_)))))|(refine aj ?_;refine Nxt.mk [0] (⟨i+1,omgz⟩) rfl (by unfold F8;exact wS) zqO)|refine zqN ?_|refine Qx ?_|refine Qz ?_|(refine QA ?_ ?_<;>intro hc<;>try exact zqM))
 all_goals exact aB [0]
def reI(X w y:List Int)(j n:Nat)(i:{i:Nat // i<=n+1}):St:=
 ⟨37,1,[(0,.sl 0 j (n+1) 1),(1,.isl false (cI .u32 y) n),(4,.val (.int .u32 (pC w y i.val))),(8,.val (.int .i64 ((n:Int)+1))),(9,.val (.int .i64 i.val))],[(0,some (.cells (cI .u32 (reZ X w y j n i.val)) 136))]⟩
theorem Jj(hX:Lim X)(hXl:X.length=M)(hy:Lim y)(hl:y.length=n)(hj:j+n+1<=M)(hM:M<2^30)(hw:(X.drop j).take (n+1)=w):
 ACall Tryz.prog 213 [.sl 0 j (n+1) 1,.isl false (cI .u32 y) n] [.cells (cI .u32 X) 136] 1 (.tup []) [.cells (cI .u32 (sbZ X j n (pL w y (n+1)))) 136]:=by
 subst hXl
 have hwl:w.length=n+1:=by rw[<-hw];exact Lb hj
 have hwL:Lim w:=by rw[<-hw];exact hX.drop.take
 have e0:X=reZ X w y j n 0:=by rw[<-hw];exact(F7 hj).symm
 have zx9:reZ X w y j n (n+1)=sbZ X j n (pL w y (n+1)):=by unfold reZ;rw[List.drop_eq_nil_of_le omgz,List.append_nil]
 have hln:∀(i:Nat),i<=n+1->(reZ X w y j n i).length=X.length:=λi h=>Du (X:=X) (j:=j) (q8 (T:=pL w y i) pL_len hwl h) hj
 have hgt:∀(i:Nat),i<n+1->(reZ X w y j n i).getD (j+i) 0=w.getD i 0:=λi h=>(K7 (X:=X) (j:=j) (q8 (T:=pL w y i) pL_len hwl omgz) hj h).trans (K9 pL_len hwl h)
 have hst:∀(i:Nat) (x:Int),i<n+1->(reZ X w y j n i).set (j+i) x=sbZ X j n ((pL w y i++[x])++w.drop (i+1)):=λi x h=>(K8 (X:=X) (j:=j) (x:=x) (q8 (T:=pL w y i) pL_len hwl omgz) hj h).trans (congrArg (sbZ X j n) (La pL_len hwl h))
 have hcr:=λ(i:Nat)=>nL (a:=w) (b:=y) (i:=i)
 clear hw
 have zx2:=ae;have zx3:=ae;have zx4:=ae;have zx5:=ae;have zx6:=ae;have zx7:=ae;have zx8:=ae
 revert e0
 generalize hXX:cI IntKind.u32 X=C
 intro e00
 have e0:C=cI IntKind.u32 (reZ X w y j n 0):=by rw[<-e00];exact hXX.symm
 subst e0
 clear hXX e00
 refine az Tryz.func213 Tryz.ntmps213 rfl ?_
 have zx1:= @gd0;have zx10:= @Ze;have zx11:=aA;have zx12:=aA;repeat' (first|(refine ah ?_;refine ak [0] ([0].length) (reI X w y j n) (λi=>n+1-i.val) (⟨0,Nat.zero_le _⟩) rfl (by unfold reI;exact cO) ?_;(rintro⟨i,hi⟩;have hci:=hcr i;have zx8:=hln i hi;rcases Nat.lt_or_eq_of_le hi with hil|hil<;>first|(subst hil;(simp-dsimp only[reI];refine zqS ?_))|(have hwr:=hwL.at i;have hyr:=hy.at i;have zx6:=hgt i hil;have zx7:=λx=>hst i x hil;rcases Nat.lt_or_ge i n with him|him<;>rcases Decidable.em (1000000000<=w.getD i 0+pC w y i+y.getD i 0) with zx2|zx2<;>first|(have zx5:y.getD i 0=0:=eu omgz;have zx3:=Ld (X:=X) (j:=j) (n:=n) (I9 zx2);have zx4:=FN zx2;rw[zx5,Int.add_zero] at zx3 zx2;(simp-dsimp only[reI];refine zqS ?_))|(have zx5:y.getD i 0=0:=eu omgz;have zx3:=Ld (X:=X) (j:=j) (n:=n) (Ja zx2);have zx4:=Dh zx2;rw[zx5,Int.add_zero] at zx3 zx2;(simp-dsimp only[reI];refine zqS ?_))|(have zx3:=Ld (X:=X) (j:=j) (n:=n) (I9 zx2);have zx4:=FN zx2;(simp-dsimp only[reI];refine zqS ?_))|(have zx3:=Ld (X:=X) (j:=j) (n:=n) (Ja zx2);have zx4:=Dh zx2;(simp-dsimp only[reI];refine zqS ?_)))))|(refine aj ?_;refine Nxt.mk [0] (⟨i+1,omgz⟩) rfl (by unfold reI;exact cO) zqO)|refine zqN ?_|refine nQ ?_|refine nR ?_|(refine nS ?_ ?_<;>intro hc<;>try exact zqM))
 all_goals exact aB [0]
end
section
open Go Go.Sy Go.Bp Go.Lm
attribute [local irreducible] AO AL AC OpT ACall Ends DGo aK Thn Blk Nxt
variable {n N M k i m j:Nat} {z z' neg:Bool} {l a b:List Int} {v x y:Int}
theorem Le{c:Int}:(pL a b n++[c]).take (n+1)=pL a b n++[c]:=List.take_of_length_le (by rw[List.length_append,pL_len];exact Nat.le_refl _)
theorem acP:(mL a b n).take n=mL a b n:=List.take_of_length_le (by rw[p8];exact Nat.le_refl _)
def psI(z z':Bool)(a b:List Int)(n m:Nat)(i:{i:Nat // i<=n}):St:=
 ⟨53,0,[(0,.isl z (cI .u32 a) n),(1,.isl z' (cI .u32 b) m),(5,.sl 0 0 i.val 1),(6,.val (.int .u32 (pC a b i.val))),(20,.isl z (cI .u32 a) n),(21,.val (.int .i64 n)),(22,.val (.int .i64 i.val))],[(0,some (.cells (cI .u32 (pL a b i.val)) 136))]⟩
theorem agL(ha:Lim a)(hb:Lim b)(hl:a.length=n)(hm:b.length=m)(hle:m<=n)(hn:n<2^40):ACall Tryz.prog 216 [.isl z (cI .u32 a) n,.isl z' (cI .u32 b) m] [] 0 (.isl false (cI .u32 (pY a b)) (n+1)) []:=by
 have zx2:=ae;have zx3:=ae;have zx4:=ae;have zx5:=ae
 unfold pY
 rw[hl]
 refine az Tryz.func216 Tryz.ntmps216 rfl ?_
 have zx1:= @gd0;have zx6:= @agp;have zx7:= @Ze;have zx8:= @pL_len;have zx9:= @fF;repeat' (first|(refine ah ?_;refine ak [0] ([0].length) (psI z z' a b n m) (λi=>n-i.val) (⟨0,Nat.zero_le _⟩) rfl (by unfold psI;exact aO) ?_;(rintro⟨i,hi⟩;have hpr:=nL (a:=a) (b:=b) (i:=i);rcases Nat.lt_or_eq_of_le hi with hil|hil<;>first|(have ei:n=i:=hil.symm;subst ei;(simp-dsimp only[psI];refine zqS ?_))|(have har:=ha.at i;have hbr:=hb.at i;rcases Nat.lt_or_ge i m with him|him<;>rcases Decidable.em (1000000000<=a.getD i 0+pC a b i+b.getD i 0) with zx2|zx2<;>first|(have zx5:b.getD i 0=0:=eu omgz;have zx3:=I9 zx2;have zx4:=FN zx2;rw[zx5,Int.add_zero] at zx3 zx2;(simp-dsimp only[psI];refine zqS ?_))|(have zx5:b.getD i 0=0:=eu omgz;have zx3:=Ja zx2;have zx4:=Dh zx2;rw[zx5,Int.add_zero] at zx3 zx2;(simp-dsimp only[psI];refine zqS ?_))|(have zx3:=I9 zx2;have zx4:=FN zx2;(simp-dsimp only[psI];refine zqS ?_))|(have zx3:=Ja zx2;have zx4:=Dh zx2;(simp-dsimp only[psI];refine zqS ?_)))))|(refine aj ?_;refine Nxt.mk [2] (⟨i+1,omgz⟩) rfl (by unfold psI;exact aO) zqO)|(refine aj ?_;refine Nxt.mk [1] (⟨i+1,omgz⟩) rfl (by unfold psI;exact aO) zqO)|refine zqN ?_|((first|refine ay rfl (λK hK=>?_)|refine au (λK hK=>?_));(first|apply oC);refine sJ ?_;apply hK;clear hK K)|refine mh ?_|refine kg ?_|refine ko ?_|refine kr ?_|refine mo ?_|(refine mq ?_ ?_<;>intro hc<;>try exact zqM))
 all_goals first
  |(((refine Ends.frz 2 ?_;simp-dsimp(disch:=try exact vD) only[push_cast,simprocAttr,Tryz.f216,Le];(repeat refine aI ?_);intro K hK;refine hK _ _ ?_;clear hK K);refine Ends.mk2 zqI [] ?_;simp-dsimp(disch:=try exact vD) only[push_cast,simprocAttr,Tryz.f216,Le];try exact zqF);done)
  |skip
theorem agM(ha:Lim a)(hb:Lim b)(hl:a.length=n)(hm:b.length=m)(hle:m<n)(hn:n<2^40):ACall Tryz.prog 216 [.isl z' (cI .u32 b) m,.isl z (cI .u32 a) n] [] 0 (.isl false (cI .u32 (pY a b)) (n+1)) []:=by
 have zx2:=ae;have zx3:=ae;have zx4:=ae;have zx5:=ae
 unfold pY
 rw[hl]
 refine az Tryz.func216 Tryz.ntmps216 rfl ?_
 have zx1:= @gd0;have zx6:= @agp;have zx7:= @Ze;have zx8:= @pL_len;have zx9:= @fF;repeat' (first|(refine ah ?_;refine ak [0] ([0].length) (psI z z' a b n m) (λi=>n-i.val) (⟨0,Nat.zero_le _⟩) rfl (by unfold psI;exact aO) ?_;(rintro⟨i,hi⟩;have hpr:=nL (a:=a) (b:=b) (i:=i);rcases Nat.lt_or_eq_of_le hi with hil|hil<;>first|(have ei:n=i:=hil.symm;subst ei;(simp-dsimp only[psI];refine zqS ?_))|(have har:=ha.at i;have hbr:=hb.at i;rcases Nat.lt_or_ge i m with him|him<;>rcases Decidable.em (1000000000<=a.getD i 0+pC a b i+b.getD i 0) with zx2|zx2<;>first|(have zx5:b.getD i 0=0:=eu omgz;have zx3:=I9 zx2;have zx4:=FN zx2;rw[zx5,Int.add_zero] at zx3 zx2;(simp-dsimp only[psI];refine zqS ?_))|(have zx5:b.getD i 0=0:=eu omgz;have zx3:=Ja zx2;have zx4:=Dh zx2;rw[zx5,Int.add_zero] at zx3 zx2;(simp-dsimp only[psI];refine zqS ?_))|(have zx3:=I9 zx2;have zx4:=FN zx2;(simp-dsimp only[psI];refine zqS ?_))|(have zx3:=Ja zx2;have zx4:=Dh zx2;(simp-dsimp only[psI];refine zqS ?_)))))|(refine aj ?_;refine Nxt.mk [2] (⟨i+1,omgz⟩) rfl (by unfold psI;exact aO) zqO)|(refine aj ?_;refine Nxt.mk [1] (⟨i+1,omgz⟩) rfl (by unfold psI;exact aO) zqO)|refine zqN ?_|((first|refine ay rfl (λK hK=>?_)|refine au (λK hK=>?_));(first|apply oC);refine sJ ?_;apply hK;clear hK K)|refine mh ?_|refine kg ?_|refine ko ?_|refine kr ?_|refine mo ?_|(refine mq ?_ ?_<;>intro hc<;>try exact zqM))
 all_goals first
  |(((refine Ends.frz 2 ?_;simp-dsimp(disch:=try exact vD) only[push_cast,simprocAttr,Tryz.f216,Le];(repeat refine aI ?_);intro K hK;refine hK _ _ ?_;clear hK K);refine Ends.mk2 zqI [] ?_;simp-dsimp(disch:=try exact vD) only[push_cast,simprocAttr,Tryz.f216,Le];try exact zqF);done)
  |skip
def mnI(z z':Bool)(a b:List Int)(n m:Nat)(i:{i:Nat // i<=n}):St:=
 ⟨45,0,[(1,.isl z' (cI .u32 b) m),(5,.sl 0 0 i.val 1),(6,.val (.int .u32 (mC a b i.val))),(13,.isl z (cI .u32 a) n),(14,.val (.int .i64 n)),(15,.val (.int .i64 i.val))],[(0,some (.cells (cI .u32 (mL a b i.val)) 136))]⟩
theorem Lf(ha:Lim a)(hb:Lim b)(hl:a.length=n)(hm:b.length=m)(hle:m<=n)(hn:n<2^40)(hv:val b<=val a):ACall Tryz.prog 217 [.isl z (cI .u32 a) n,.isl z' (cI .u32 b) m] [] 0 (.isl false (cI .u32 (lb (val a-val b).toNat)) (lb (val a-val b).toNat).length) []:=by
 have zx2:=ae;have zx3:=ae;have zx4:=ae;have zx5:=ae
 have hmo:=FO ha hb omgz hv
 rw[hl] at hmo
 have hml:(mL a b n).length=n:=p8
 have ht:=PLift.up (nA (z:=false) (l:=mL a b n) hml omgz)
 have e1:=jQ hmo.1
 have e2:=jR hmo.1
 rw[hml,hmo.2] at e1 e2
 rw[e1,<-e2] at ht
 generalize lb (val a-val b).toNat=R at ht⊢
 refine az Tryz.func217 Tryz.ntmps217 rfl ?_
 have zx1:= @gd0;have zx6:= @mL_z;have zx7:= @mC_0;have zx8:= @p8;have zx9:= @fF;have zx10:= @acP;have zx11:=aA;have zx12:=aA;repeat' (first|((first|refine bT (r:=15) 0 ?_|refine bS (r:=15) 0 ?_);refine o5 ?_;intro K hK;refine hK _ _ ?_;clear hK K)|(refine ah ?_;refine ak [0] ([0].length) (mnI z z' a b n m) (λi=>n-i.val) (⟨0,Nat.zero_le _⟩) rfl (by unfold mnI;exact cO) ?_;(rintro⟨i,hi⟩;have hpr:=wm (a:=a) (b:=b) (i:=i);rcases Nat.lt_or_eq_of_le hi with hil|hil<;>first|(have ei:n=i:=hil.symm;subst ei;(simp-dsimp only[mnI];refine zqS ?_))|(have har:=ha.at i;have hbr:=hb.at i;rcases Nat.lt_or_ge i m with him|him<;>rcases Decidable.em (a.getD i 0<mC a b i+b.getD i 0) with zx2|zx2<;>first|(have zx5:b.getD i 0=0:=eu omgz;have zx3:=agq zx2;have zx4:=Zf zx2;rw[zx5,Int.add_zero] at zx3 zx2;(simp-dsimp only[mnI];refine zqS ?_))|(have zx5:b.getD i 0=0:=eu omgz;have zx3:=agr zx2;have zx4:=Zg zx2;rw[zx5,Int.add_zero] at zx3 zx2;(simp-dsimp only[mnI];refine zqS ?_))|(have zx3:=agq zx2;have zx4:=Zf zx2;(simp-dsimp only[mnI];refine zqS ?_))|(have zx3:=agr zx2;have zx4:=Zg zx2;(simp-dsimp only[mnI];refine zqS ?_)))))|(refine aj ?_;refine Nxt.mk [2] (⟨i+1,omgz⟩) rfl (by unfold mnI;exact cO) zqO)|(refine aj ?_;refine Nxt.mk [1] (⟨i+1,omgz⟩) rfl (by unfold mnI;exact cO) zqO)|refine zqN ?_|refine jq ht.down ?_|((first|refine ay rfl (λK hK=>?_)|refine au (λK hK=>?_));(first|apply oC);refine o5 ?_;apply hK;clear hK K)|refine nQ ?_|refine sK ?_|refine sM ?_|refine sO ?_|refine nR ?_|(refine nS ?_ ?_<;>intro hc<;>try exact zqM))
 all_goals exact aB []
end
section
open Go Go.Sy Go.Bp Go.Lm
attribute [local irreducible] AO AL AC OpT ACall Ends DGo aK Thn Blk Nxt
variable {n N M k i m j:Nat} {z z' neg:Bool} {l a b T:List Int} {v x y:Int}
def tmI(z z':Bool)(a b:List Int)(n m:Nat)(i:{i:Nat // i<=n}):St:=
 ⟨69,0,[(1,.isl z' (cI .u32 b) m),(5,.sl 0 0 (n+m) 1),(18,.isl z (cI .u32 a) n),(19,.val (.int .i64 n)),(20,.val (.int .i64 i.val))],[(0,some (.cells (cI .u32 (tT a b i.val)) 136))]⟩
def tmJ(z z':Bool)(a b:List Int)(n m i:Nat)(x:Int)(T:List Int)(k:{k:Nat // k<=m}):St:=
 ⟨69,0,[(1,.isl z' (cI .u32 b) m),(5,.sl 0 0 (n+m) 1),(6,.val (.int .i64 i)),(7,.val (.int .u32 x)),(8,.val (.int .u64 (tK x b i T k.val).2)),(18,.isl z (cI .u32 a) n),(19,.val (.int .i64 n)),(20,.val (.int .i64 i)),(25,.isl z' (cI .u32 b) m),(26,.val (.int .i64 m)),(27,.val (.int .i64 k.val))],[(0,some (.cells (cI .u32 (tK x b i T k.val).1) 136))]⟩
theorem Zz(ha:Lim a)(hb:Lim b)(hl:a.length=n)(hm:b.length=m)(hn:n<2^30)(hn2:m<2^30):ACall Tryz.prog 205 [.isl z (cI .u32 a) n,.isl z' (cI .u32 b) m] [] 0 (.isl false (cI .u32 (lb (val a*val b).toNat)) (lb (val a*val b).toNat).length) []:=by
 have zx2:=ae;have zx3:=ae;have zx4:=ae;have zx5:=ae;have zx6:=ae
 have hmo:=SK ha hb
 rw[hl] at hmo
 have hml:(tT a b n).length=n+m:=by rw[Jb,hl,hm]
 have ht:=PLift.up (nA (z:=false) (l:=tT a b n) hml omgz)
 have e1:=jQ hmo.1
 have e2:=jR hmo.1
 rw[hml,hmo.2] at e1 e2
 rw[e1,<-e2] at ht
 have zx8:(tT a b n).take (n+m)=tT a b n:=List.take_of_length_le omgz
 have zx7:tT a b 0=List.replicate (n+m) 0:=by rw[agt,hl,hm]
 have hts:=λ(i:Nat)=>agu (a:=a) (b:=b) (i:=i)
 have hok:=λ(i:Nat) (h:i<=n)=>acJ (i:=i) ha hb omgz
 have hTl:=λ(i:Nat)=>Jb (a:=a) (b:=b) (i:=i)
 rw[hm] at hts
 rw[hl,hm] at hTl
 clear e1 e2 hmo
 generalize lb (val a*val b).toNat=R at ht⊢
 refine az Tryz.func205 Tryz.ntmps205 rfl ?_
 have zx1:= @gd0;have zx9:= @tK_0;have zx10:= @zR;have zx11:=aA;have zx12:=aA;repeat' (first|((first|refine bT (r:=15) 0 ?_|refine bS (r:=15) 0 ?_);refine o5 ?_;intro K hK;refine hK _ _ ?_;clear hK K)|(refine ah ?_;refine ak [0] ([0].length) (tmJ z z' a b n m i x T) (λk=>m-k.val) (⟨0,Nat.zero_le _⟩) rfl (by unfold tmJ;exact cO) ?_;(rintro⟨k,hk⟩;obtain⟨g1,g2,g3,g4,g5⟩:=acI (i:=i) (k:=k) hTi hb hxr omgz;have hlT:(tK x b i T k).1.length=n+m:=(by rw[zR];exact hTT);rcases Nat.lt_or_eq_of_le hk with hkl|hkl<;>first|(have ek:m=k:=hkl.symm;subst ek;(simp-dsimp only[tmJ];refine zqS ?_))|(have zx3:=ags (x:=x) (b:=b) (i:=i) (T:=T) (k:=k);have hra:=g1.at (i+k);have hrb:=hb.at k;have hmr:=lH hxr hrb;generalize zx5:tK x b i T k=P at*;obtain⟨L,c⟩:=P;dsimp only at*;generalize zx6:x*b.getD k 0=pp at*;(simp-dsimp only[tmJ];refine zqS ?_))))|(refine aj ?_;refine Nxt.mk [0] (⟨k+1,omgz⟩) rfl (by unfold tmJ;exact cO) zqO)|(refine ah ?_;refine ak [0] ([0].length) (tmI z z' a b n m) (λi=>n-i.val) (⟨0,Nat.zero_le _⟩) rfl (by unfold tmI;exact cO) ?_;(rintro⟨i,hi⟩;rcases Nat.lt_or_eq_of_le hi with hil|hil<;>first|(have ei:n=i:=hil.symm;subst ei;(simp-dsimp only[tmI];refine zqS ?_))|(have hxr:=ha.at i;have hTi:=(hok i hi).1;have hTT:=hTl i;have zx4:=hts i;generalize zx2:a.getD i 0=x at*;dsimp only[tmI];generalize tT a b i=T at*;(simp-dsimp(disch:=try exact vD) only[push_cast,simprocAttr,]))))|(refine aj ?_;refine Nxt.mk [0] (⟨i+1,omgz⟩) rfl (by unfold tmI;exact cO) zqO)|refine zqN ?_|refine jq ht.down ?_|refine nQ ?_|refine nR ?_|(refine nS ?_ ?_<;>intro hc<;>try exact zqM))
 all_goals exact aB []
end
section
open Go Go.Sy Go.Bp Go.Lm
attribute [local irreducible] AO AL AC OpT ACall Ends DGo aK Thn Blk Nxt
variable {n N M k i m j:Nat} {z z' neg nx ny:Bool} {l a b P Lx Ly:List Int} {v x y e:Int} {W:IV}
def rI(v:Int):IV:=if v.natAbs<10^300 then iC v else iC 0
def rE(v:Int):Int:=if v.natAbs<10^300 then 0 else 3
abbrev rV(v:Int):AV:= .tup [.agg (aa.cells (rI v)),.val (.int .i64 (rE v))]
theorem qf(h:D300 v):rI v=iC v:=if_pos h
theorem qg(h:D300 v):rE v=0:=if_pos h
theorem Dv:(sg neg v).natAbs=v.natAbs:=by unfold sg;split<;>omega
theorem iU(hi:Lim l)(hl:l.length=n)(hn:n<2^47)(hz:z=true->l=[])(hv:sg neg (val l)=v):ACall Tryz.prog 191 [.val (.bool neg),.isl z (cI .u32 l) n] [] 0 (rV v) []:=by
 subst hv
 by_cases h:D300 (val l)
 ·have h2:D300 (sg neg (val l)):=by unfold D300;rw[Dv];exact h
  unfold rV
  rw[qf h2,qg h2]
  exact NI hi hl hn hz h
 ·have h2:¬(sg neg (val l)).natAbs<10^300:=by rw[Dv];exact h
  unfold rV rI rE
  rw[if_neg h2,if_neg h2]
  exact Jh hi hl hn h
theorem ZA(ha:Lim a)(hb:Lim b)(h1:a.length<2^39)(h2:b.length<2^39):∃P,Lim P/\val P=val a+val b/\P.length<2^47/\ACall Tryz.prog 216 [.isl z (cI .u32 a) a.length,.isl z' (cI .u32 b) b.length] [] 0 (.isl false (cI .u32 P) P.length) []:=by
 rcases Nat.lt_or_ge a.length b.length with h|h
 ·obtain⟨p1,p2⟩:=KX hb ha omgz
  refine⟨pY b a,p1,by rw[p2];omega,by rw[qX];omega,?_⟩
  rw[qX]
  exact agM hb ha rfl rfl h omgz
 ·obtain⟨p1,p2⟩:=KX ha hb h
  refine⟨pY a b,p1,p2,by rw[qX];omega,?_⟩
  rw[qX]
  exact agL ha hb rfl rfl h omgz
theorem NK(hne:nx=ny)(hp:ACall Tryz.prog 216 [.isl z (cI .u32 Lx) n,.isl z' (cI .u32 Ly) m] [] 0 (.isl false (cI .u32 P) k) [])(hr:ACall Tryz.prog 191 [.val (.bool nx),.isl false (cI .u32 P) k] [] 0 (.tup [.agg (aa.cells W),.val (.int .i64 e)]) []):
 ACall Tryz.prog 204 [.agg [.val (.bool nx),.isl z (cI .u32 Lx) n],.agg [.val (.bool ny),.isl z' (cI .u32 Ly) m]] [] 0 (.tup [.agg (aa.cells W),.val (.int .i64 e)]) []:=by
 subst hne
 have hp:=PLift.up hp;have hr:=PLift.up hr
 rcases Bool.eq_false_or_eq_true nx with hnx|hnx
 all_goals subst hnx
 all_goals(refine az Tryz.func204 Tryz.ntmps204 rfl ?_)
 all_goals repeat' (first|refine zqN ?_|refine aM hp.down ?_|refine aM hr.down ?_|refine aY ?_|refine aZ ?_|(refine bf ?_ ?_<;>intro hc<;>try exact zqM)|refine zqR [(2,10,[2],0),(4,10,[2],0),(5,10,[2],0)] ?_|refine zqD ?_|fail)
 all_goals exact aB []
theorem ZB{c:Int}(hne:¬nx=ny)(hc0:0<=c)(hcm:ACall Tryz.prog 192 [.isl z (cI .u32 Lx) n,.isl z' (cI .u32 Ly) m] [] 0 (.val (.int .i64 c)) [])(hp:ACall Tryz.prog 217 [.isl z (cI .u32 Lx) n,.isl z' (cI .u32 Ly) m] [] 0 (.isl false (cI .u32 P) k) [])(hr:ACall Tryz.prog 191 [.val (.bool nx),.isl false (cI .u32 P) k] [] 0 (.tup [.agg (aa.cells W),.val (.int .i64 e)]) []):
 ACall Tryz.prog 204 [.agg [.val (.bool nx),.isl z (cI .u32 Lx) n],.agg [.val (.bool ny),.isl z' (cI .u32 Ly) m]] [] 0 (.tup [.agg (aa.cells W),.val (.int .i64 e)]) []:=by
 have hp:=PLift.up hp;have hr:=PLift.up hr;have hcm:=PLift.up hcm
 rcases Bool.eq_false_or_eq_true nx with hnx|hnx<;>rcases Bool.eq_false_or_eq_true ny with hny|hny
 all_goals subst hnx
 all_goals subst hny
 all_goals first
  |(exact absurd rfl hne;done)
  |skip
 all_goals(refine az Tryz.func204 Tryz.ntmps204 rfl ?_)
 all_goals repeat' (first|refine zqN ?_|refine aM hcm.down ?_|refine aM hp.down ?_|refine aM hr.down ?_|refine aY ?_|refine aZ ?_|(refine bf ?_ ?_<;>intro hc<;>try exact zqM)|refine zqR [(2,10,[2],0),(4,10,[2],0),(5,10,[2],0)] ?_|refine zqD ?_|fail)
 all_goals exact aB []
theorem ZC{c:Int}(hne:¬nx=ny)(hc0:¬0<=c)(hcm:ACall Tryz.prog 192 [.isl z (cI .u32 Lx) n,.isl z' (cI .u32 Ly) m] [] 0 (.val (.int .i64 c)) [])(hp:ACall Tryz.prog 217 [.isl z' (cI .u32 Ly) m,.isl z (cI .u32 Lx) n] [] 0 (.isl false (cI .u32 P) k) [])(hr:ACall Tryz.prog 191 [.val (.bool ny),.isl false (cI .u32 P) k] [] 0 (.tup [.agg (aa.cells W),.val (.int .i64 e)]) []):
 ACall Tryz.prog 204 [.agg [.val (.bool nx),.isl z (cI .u32 Lx) n],.agg [.val (.bool ny),.isl z' (cI .u32 Ly) m]] [] 0 (.tup [.agg (aa.cells W),.val (.int .i64 e)]) []:=by
 have hp:=PLift.up hp;have hr:=PLift.up hr;have hcm:=PLift.up hcm
 rcases Bool.eq_false_or_eq_true nx with hnx|hnx<;>rcases Bool.eq_false_or_eq_true ny with hny|hny
 all_goals subst hnx
 all_goals subst hny
 all_goals first
  |(exact absurd rfl hne;done)
  |skip
 all_goals(refine az Tryz.func204 Tryz.ntmps204 rfl ?_)
 all_goals repeat' (first|refine zqN ?_|refine aM hcm.down ?_|refine aM hp.down ?_|refine aM hr.down ?_|refine aY ?_|refine aZ ?_|(refine bf ?_ ?_<;>intro hc<;>try exact zqM)|refine zqR [(2,10,[2],0),(4,10,[2],0),(5,10,[2],0)] ?_|refine zqD ?_|fail)
 all_goals exact aB []
theorem Lg(h:D300 x)(h2:D300 y):ACall Tryz.prog 204 [.agg (aa.cells (iV z x)),.agg (aa.cells (iV z' y))] [] 0 (rV (x+y)) []:=by
 have f1:=h.few;have f2:=h2.few
 by_cases hne:decide (x<0)=decide (y<0)
 ·obtain⟨P,p1,p2,p3,p4⟩:=ZA (z:=z) (z':=z') (a:=lb x.natAbs) (b:=lb y.natAbs) lim_lb lim_lb omgz omgz
  rw[aS,aS] at p2
  refine NK hne p4 (iU p1 rfl omgz (λh=>nomatch h) ?_)
  rw[p2];unfold sg
  show(if decide (x<0)=true then _ else _)=_
  by_cases hx:x<0
  ·rw[decide_eq_true hx] at hne
   have:=of_decide_eq_true hne.symm
   rw[decide_eq_true hx,if_pos rfl];omega
  ·rw[decide_eq_false hx] at hne
   have:=of_decide_eq_false hne.symm
   rw[decide_eq_false hx,if_neg (by simp)];omega
 ·have hcm:=nC (z:=z) (z':=z') (a:=lb x.natAbs) (b:=lb y.natAbs) lim_lb lim_lb jC jC omgz omgz
  rw[F5] at hcm
  have hxy:(x<0/\¬y<0)\/(¬x<0/\y<0):=by
   by_cases hx:x<0<;>by_cases hy:y<0
   ·rw[decide_eq_true hx,decide_eq_true hy] at hne;exact absurd rfl hne
   ·exact .inl ⟨hx,hy⟩
   ·exact .inr ⟨hx,hy⟩
   ·rw[decide_eq_false hx,decide_eq_false hy] at hne;exact absurd rfl hne
  have hlen:∀{p q:Nat},p<=q->(lb p).length<=(lb q).length:=λ{p q} hpq=>by
   refine Decidable.not_not.1 λhc=>?_
   have:=wh (a:=lb q) (b:=lb p) lim_lb lim_lb jC omgz
   rw[aS,aS] at this;omega
  by_cases hge:y.natAbs<=x.natAbs
  ·have hm:=Lf (z:=z) (z':=z') (a:=lb x.natAbs) (b:=lb y.natAbs) lim_lb lim_lb rfl rfl (hlen hge) omgz (by rw[aS,aS];omega)
   rw[aS,aS] at hm
   refine ZB hne (by unfold fE;repeat' split<;>try omega) hcm hm (iU lim_lb rfl (Nat.lt_of_le_of_lt (hlen (show _<=x.natAbs by omega)) omgz) (λh=>nomatch h) ?_)
   rw[aS];unfold sg
   show(if decide (x<0)=true then _ else _)=_
   rcases hxy with⟨hx,hy⟩|⟨hx,hy⟩
   ·rw[decide_eq_true hx,if_pos rfl];omega
   ·rw[decide_eq_false hx,if_neg (by simp)];omega
  ·have hm:=Lf (z:=z') (z':=z) (a:=lb y.natAbs) (b:=lb x.natAbs) lim_lb lim_lb rfl rfl (hlen omgz) omgz (by rw[aS,aS];omega)
   rw[aS,aS] at hm
   refine ZC hne (by unfold fE;repeat' split<;>try omega) hcm hm (iU lim_lb rfl (Nat.lt_of_le_of_lt (hlen (show _<=y.natAbs by omega)) omgz) (λh=>nomatch h) ?_)
   rw[aS];unfold sg
   show(if decide (y<0)=true then _ else _)=_
   rcases hxy with⟨hx,hy⟩|⟨hx,hy⟩
   ·rw[decide_eq_false hy,if_neg (by simp)];omega
   ·rw[decide_eq_true hy,if_pos rfl];omega
theorem Tx(hck:ACall Tryz.prog 188 [.isl false [.val (.bool nx),.isl z (cI .u32 Lx) n,.val (.bool ny),.isl z' (cI .u32 Ly) m] 2] [] 0 (.val (.int .i64 0)) [])
 (hr:ACall Tryz.prog 204 [.agg [.val (.bool nx),.isl z (cI .u32 Lx) n],.agg [.val (.bool ny),.isl z' (cI .u32 Ly) m]] [] 0 (.tup [.agg (aa.cells W),.val (.int .i64 e)]) []):
 ACall Tryz.prog 214 [.agg [.val (.bool nx),.isl z (cI .u32 Lx) n],.agg [.val (.bool ny),.isl z' (cI .u32 Ly) m]] [] 0 (.tup [.agg (aa.cells W),.val (.int .i64 e)]) []:=by
 have hck:=PLift.up hck;have hr:=PLift.up hr
 refine az Tryz.func214 Tryz.ntmps214 rfl ?_
 repeat' (first|refine zqN ?_|((first|refine ay rfl (λK hK=>?_)|refine au (λK hK=>?_));(first|refine ai (f:=188) [] 0 true ?_|refine ai (f:=204) [] 0 false ?_);refine mg ?_;(first|refine⟨_,_,hck.down,?_⟩|refine⟨_,_,hr.down,?_⟩);refine jo ?_;apply hK;clear hK K)|refine aY ?_|refine aZ ?_|(refine bf ?_ ?_<;>intro hc<;>try exact zqM))
 all_goals exact aB []
theorem agN(h:D300 x)(h2:D300 y):ACall Tryz.prog 214 [.agg (aa.cells (iV z x)),.agg (aa.cells (iV z' y))] [] 0 (rV (x+y)) []:=Tx (ww h h2) (Lg h h2)
theorem Ty(hck:ACall Tryz.prog 188 [.isl false [.val (.bool nx),.isl z (cI .u32 Lx) n,.val (.bool ny),.isl z' (cI .u32 Ly) m] 2] [] 0 (.val (.int .i64 0)) [])
 (hr:ACall Tryz.prog 204 [.agg [.val (.bool nx),.isl z (cI .u32 Lx) n],.agg [.val (.bool (!ny&&decide (0<m))),.isl z' (cI .u32 Ly) m]] [] 0 (.tup [.agg (aa.cells W),.val (.int .i64 e)]) []):
 ACall Tryz.prog 179 [.agg [.val (.bool nx),.isl z (cI .u32 Lx) n],.agg [.val (.bool ny),.isl z' (cI .u32 Ly) m]] [] 0 (.tup [.agg (aa.cells W),.val (.int .i64 e)]) []:=by
 have hck:=PLift.up hck
 rcases Bool.eq_false_or_eq_true ny with hny|hny<;>rcases Nat.eq_zero_or_pos m with hm|hm
 all_goals subst hny
 all_goals first
  |(subst hm)
  |(rw[decide_eq_true hm] at hr;(try rw[show(!false&&true)=decide ((0:Int)<(m:Int)) from(decide_eq_true omgz).symm] at hr))
 all_goals have hr:=PLift.up hr
 all_goals(refine az Tryz.func179 Tryz.ntmps179 rfl ?_)
 all_goals repeat' (first|refine zqN ?_|((first|refine ay rfl (λK hK=>?_)|refine au (λK hK=>?_));(first|refine ai (f:=188) [] 0 true ?_|refine ai (f:=204) [] 0 false ?_);refine mg ?_;(first|refine⟨_,_,hck.down,?_⟩|refine⟨_,_,hr.down,?_⟩);refine jo ?_;apply hK;clear hK K)|refine aY ?_|refine aZ ?_|(refine bf ?_ ?_<;>intro hc<;>try exact zqM))
 all_goals exact aB []
theorem Lh(h:D300 x)(h2:D300 y):ACall Tryz.prog 179 [.agg (aa.cells (iV z x)),.agg (aa.cells (iV z' y))] [] 0 (rV (x-y)) []:=by
 have h3:D300 (-y):=by unfold D300;rw[Int.natAbs_neg];exact h2
 have hr:=Lg (z:=z) (z':=z') h h3
 rw[<-Int.sub_eq_add_neg] at hr
 refine Ty (ww h h2) ?_
 have e1:(!decide (y<0)&&decide (0<(lb y.natAbs).length))=decide (-y<0):=by
  have hl:(lb y.natAbs).length=0↔y=0:=by rw[List.length_eq_zero_iff,iR];omega
  rw[Bool.eq_iff_iff]
  simp only[Bool.and_eq_true,Bool.not_eq_true',decide_eq_false_iff_not,decide_eq_true_eq]
  omega
 unfold iV at hr
 rw[Int.natAbs_neg,<-e1] at hr
 exact hr
theorem Tz{q:Bool}(hq:(nx !=ny)=q)(hck:ACall Tryz.prog 188 [.isl false [.val (.bool nx),.isl z (cI .u32 Lx) n,.val (.bool ny),.isl z' (cI .u32 Ly) m] 2] [] 0 (.val (.int .i64 0)) [])
 (hp:ACall Tryz.prog 205 [.isl z (cI .u32 Lx) n,.isl z' (cI .u32 Ly) m] [] 0 (.isl false (cI .u32 P) k) []) (hr:ACall Tryz.prog 191 [.val (.bool q),.isl false (cI .u32 P) k] [] 0 (.tup [.agg (aa.cells W),.val (.int .i64 e)]) []):
 ACall Tryz.prog 181 [.agg [.val (.bool nx),.isl z (cI .u32 Lx) n],.agg [.val (.bool ny),.isl z' (cI .u32 Ly) m]] [] 0 (.tup [.agg (aa.cells W),.val (.int .i64 e)]) []:=by
 subst hq
 have hck:=PLift.up hck;have hp:=PLift.up hp
 rcases Bool.eq_false_or_eq_true nx with hnx|hnx<;>rcases Bool.eq_false_or_eq_true ny with hny|hny
 all_goals subst hnx
 all_goals subst hny
 all_goals have hr:=PLift.up hr
 all_goals(refine az Tryz.func181 Tryz.ntmps181 rfl ?_)
 all_goals repeat' (first|refine zqN ?_|((first|refine ay rfl (λK hK=>?_)|refine au (λK hK=>?_)|refine aD (λK hK=>?_));(first|refine ai (f:=188) [] 0 true ?_|refine ai (f:=205) [] 0 false ?_|refine ai (f:=191) [] 0 false ?_);refine mg ?_;(first|refine⟨_,_,hck.down,?_⟩|refine⟨_,_,hp.down,?_⟩|refine⟨_,_,hr.down,?_⟩);refine jo ?_;apply hK;clear hK K)|refine aY ?_|refine aZ ?_|(refine bf ?_ ?_<;>intro hc<;>try exact zqM)|refine zqR [(4,13,[2],0)] ?_|refine zqD ?_|fail)
 all_goals exact aB []
theorem agO(h:D300 x)(h2:D300 y):ACall Tryz.prog 181 [.agg (aa.cells (iV z x)),.agg (aa.cells (iV z' y))] [] 0 (rV (x*y)) []:=by
 have f1:=h.few;have f2:=h2.few
 have ht:=Zz (z:=z) (z':=z') (a:=lb x.natAbs) (b:=lb y.natAbs) lim_lb lim_lb rfl rfl omgz omgz
 rw[aS,aS] at ht
 have hlen:(lb ((x.natAbs:Int)*y.natAbs).toNat).length<2^47:=by
  have e:((x.natAbs:Int)*y.natAbs).toNat=x.natAbs*y.natAbs:=by rw[<-Int.natCast_mul,Int.toNat_natCast]
  rw[e]
  have:x.natAbs*y.natAbs<10^600:=zX (s:=300) (t:=300) (u:=600) h h2 rfl
  have:=Dm this
  omega
 refine Tz rfl (ww h h2) ht (iU lim_lb rfl hlen (λh=>nomatch h) ?_)
 have hnn:0<=(x.natAbs:Int)*y.natAbs:=Int.mul_nonneg omgz omgz
 rw[aS,Int.toNat_of_nonneg hnn]
 unfold sg
 show(if(decide (x<0) !=decide (y<0))=true then _ else _)=_
 have ea:∀t:Int,(t.natAbs:Int)=if t<0 then-t else t:=λt=>by split<;>omega
 rw[ea x,ea y]
 by_cases hx:x<0<;>by_cases hy:y<0
 ·rw[decide_eq_true hx,decide_eq_true hy,if_pos hx,if_pos hy,if_neg (by simp),Int.neg_mul_neg]
 ·rw[decide_eq_true hx,decide_eq_false hy,if_pos hx,if_neg hy,if_pos (by rfl),Int.neg_mul,Int.neg_neg]
 ·rw[decide_eq_false hx,decide_eq_true hy,if_neg hx,if_pos hy,if_pos (by rfl),Int.mul_neg,Int.neg_neg]
 ·rw[decide_eq_false hx,decide_eq_false hy,if_neg hx,if_neg hy,if_neg (by simp)]
end
