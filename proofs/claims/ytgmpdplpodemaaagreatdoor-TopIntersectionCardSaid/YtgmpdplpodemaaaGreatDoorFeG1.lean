/- Fe1 Fe9 Fe10 Fe2. No condition. -/
import Derived.Test.YtgmpdplpodemaaaGreatDoorBuG29
set_option linter.all false
set_option maxHeartbeats 2000000
set_option maxRecDepth 20000
namespace Go.Proofs.YtgmpdplpodemaaaGreatDoor
section
open Go Go.Sy Go.Bp
attribute [local irreducible] AO AL AC OpT ACall Ends DGo aN Thn Blk Nxt
variable {s i j k n:Nat}
theorem acN:Es 0= .ipt (cI .u8 wU) 0:=rfl
theorem r9(h:s%65536≠0):U (bP s (65536-s%65536))=U (2^low s)∧low s<16:=by
 have:=Lib.lowest_bit 16 (s%65536) h (Nat.mod_lt _ (by decide))
 refine⟨?_,this.2⟩
 have h2:=this.1
 have e:65536-s%65536=2^16-s%65536:=by omega
 unfold bP low
 rw[←h2,←e]
 unfold U
 congr 1
 have lt:65536-s%65536<65536:=by omega
 rw[jL,Nat.mod_eq_of_lt lt,Nat.mod_eq_of_lt (show s%65536&&&(65536-s%65536)<65536 from Nat.lt_of_le_of_lt Nat.and_le_right lt)]
def dbI(p:Nat):Nat:=2^p*125613361%4294967296/134217728
theorem WT(h:n<32):dbI n<32∧wU[dbI n]? =some (n:Int):=by
 have key:∀k,k<32→dbI k<32∧wU[dbI k]? =some (k:Int):=by decide+kernel
 exact key n h
theorem Z7(m:Nat):IntKind.wrap .u32 (m:Int)=((m%4294967296:Nat):Int):=by
 simp[IntKind.wrap,IntKind.bits,IntKind.signed]
theorem Z8(m:Nat):Int.fdiv (m:Int) (2^min (27:Nat) (IntKind.bits .u32))=((m/134217728:Nat):Int):=by
 rw[show min (27:Nat) (IntKind.bits .u32)=27 from rfl,Int.fdiv_eq_ediv_of_nonneg _ (by decide),show(2:Int)^27=((134217728:Nat):Int) by rfl,←Int.natCast_ediv]
theorem Z9(h:n<16):Int.fdiv (IntKind.wrap .u32 (U (2^n)*125613361)) (2^min (27:Nat) (IntKind.bits .u32))=(dbI n:Int):=by
 have h2:2^n<65536:=by rw[show(65536:Nat)=2^16 by rfl];exact Nat.pow_lt_pow_right (by decide) h
 rw[FD h2,show(((2^n:Nat):Int)*125613361)=((2^n*125613361:Nat):Int) by simp,Z7,Z8];rfl
theorem aaa{q d r:Nat}(hne:¬s%65536=0)(hl:U (bP s (65536-s%65536))=U q)(hm:Int.fdiv (IntKind.wrap .u32 (U q*125613361)) (2^min (27:Nat) (IntKind.bits .u32))=(d:Int))(hd:d<32)(ha:wU[d]? =some (r:Int))(hr:r<16):
 ACall Tryz.prog 85 [.val (.int .u16 (U s))] [] 0 (.val (.int .i64 r)) []:=by
 refine az Tryz.func85 Tryz.ntmps85 rfl ?_
 have zx1:= @hne;have zx2:= @hl;have zx3:= @hm;have zx4:= @acN;have zx5:= @ha;have zx6:=aD;repeat' (first|refine zqN ?_|refine adH ?_|refine l7 ?_|(refine l8 ?_ ?_<;>intro hc<;>try exact zqM))
 all_goals(refine Ends.mk2 zqI [] ?_;simp-dsimp(disch:=try exact vD) only[push_cast,simprocAttr,Tryz.f85];try exact zqF)
theorem acO(hne:¬s%65536=0):ACall Tryz.prog 85 [.val (.int .u16 (U s))] [] 0 (.val (.int .i64 (low s))) []:=
 aaa hne (r9 hne).1 (Z9 (r9 hne).2) (WT (n:=low s) (by have:=(r9 hne).2;omega)).1 (WT (n:=low s) (by have:=(r9 hne).2;omega)).2 (r9 hne).2
def P8:ByteArray:=⟨[0,1,1,2,1,2,2,3,1,2,2,3,2,3,3,4,1,2,2,3,2,3,3,4,2,3,3,4,3,4,4,5,1,2,2,3,2,3,3,4,2,3,3,4,3,4,4,5,2,3,3,4,3,4,4,5,3,4,4,5,4,5,5,6,1,2,2,3,2,3,3,4,2,3,3,4,3,4,4,5,2,3,3,4,3,4,4,5,3,4,4,5,4,5,5,6,2,3,3,4,3,4,4,5,3,4,4,5,4,5,5,6,3,4,4,5,4,5,5,6,4,5,5,6,5,6,6,7,1,2,2,3,2,3,3,4,2,3,3,4,3,4,4,5,2,3,3,4,3,4,4,5,3,4,4,5,4,5,5,6,2,3,3,4,3,4,4,5,3,4,4,5,4,5,5,6,3,4,4,5,4,5,5,6,4,5,5,6,5,6,6,7,2,3,3,4,3,4,4,5,3,4,4,5,4,5,5,6,3,4,4,5,4,5,5,6,4,5,5,6,5,6,6,7,3,4,4,5,4,5,5,6,4,5,5,6,5,6,6,7,4,5,5,6,5,6,6,7,5,6,6,7,6,7,7,8].toArray⟩
theorem UH:P8.size=256:=by decide+kernel
def FP(i:Int):Int:=(aA i.toNat 16:Nat)
theorem acP:∀i,i<256→((P8.get! i).toNat:Int)=(aA i 16:Nat):=by decide+kernel
theorem acQ{P:Program} {st:St} {dst:Option Nat} {ty:TypeId} {pos:String} {af:Array Edge} {g:Option (Nat×Bool)} {nid:Nat} {K:Nat→Eff→Prop}(t:TypeId){lit:ByteArray}(ix:Operand) [ht:BR P t](hl:lit=P8)
 (h:aH (jg (st.op ix)) fun i=>(0≤i∧i<256)∧K 0 ⟨.val (.int .u8 (FP i)),[]⟩):AO P ⟨dst,.index t (.const (.string lit)) ix,ty,pos,af,g⟩ nid st K:=by
 subst hl
 obtain⟨i,h1,⟨h2,h3⟩,h4⟩:=h
 refine iQ t _ ix ⟨_,rfl,i,h1,⟨h2,?_⟩,?_⟩
 ·rw[UH];exact h3
 ·have:=acP i.toNat (by omega)
  show K 0 ⟨.val (.int .u8 ((P8.get! i.toNat).toNat:Int)),[]⟩
  rw[this];exact h4
theorem Ib(i:Int):0≤FP i∧FP i≤16:=by have:=lF (s:=i.toNat) (j:=16);unfold FP;omega
def cb(s i:Nat):Nat:=if s.testBit i=true then 1 else 0
theorem AB{s j:Nat}:aA s (j+1)=aA s j+cb s j:=by
 unfold cb
 cases h:s.testBit j with
 |true=>rw[FI h];simp
 |false=>rw[FJ h];simp
theorem qF{s:Nat}:aA s 16=cb s 0+cb s 1+cb s 2+cb s 3+cb s 4+cb s 5+cb s 6+cb s 7+cb s 8+cb s 9+cb s 10+cb s 11+cb s 12+cb s 13+cb s 14+cb s 15:=by
 iterate 16 rw[AB]
 rw[FH];omega
theorem Oh{s:Nat}:aA (s%65536) 16=aA s 16:=by
 have key:∀i,i<16→cb (s%65536) i=cb s i:=fun i hi=>by
  unfold cb;rw[show(65536:Nat)=2^16 by rfl,Nat.testBit_mod_two_pow];simp[hi]
 rw[qF,qF]
 simp(discharger:=omega) only[key]
theorem UI{s:Nat}:FP (U (s%65536/256))+FP (U (bP s 255))=(aA s 16:Nat):=by
 have e1:(U (s%65536/256)).toNat=s%65536/256:=by rw[FD (by omega)];rfl
 have e2:bP s 255<65536:=Nat.lt_of_le_of_lt Nat.and_le_right (by decide)
 have e3:(U (bP s 255)).toNat=bP s 255:=by rw[FD e2];rfl
 unfold FP
 rw[e1,e3,←Oh (s:=s),qF,qF,qF]
 have h1:∀i,cb (s%65536/256) i=cb (s%65536) (i+8):=fun i=>by
  unfold cb
  rw[show(256:Nat)=2^8 by rfl,Nat.testBit_div_two_pow]
 have h2:∀i,i<8→cb (bP s 255) i=cb (s%65536) i:=fun i hi=>by
  unfold cb bP
  rw[Nat.testBit_and,show(255:Nat)=2^8-1 by rfl,Nat.testBit_two_pow_sub_one,show(65536:Nat)=2^16 by rfl,Nat.testBit_mod_two_pow]
  simp[hi,show i<16 by omega]
 have h3:∀i,8≤i→cb (bP s 255) i=0:=fun i hi=>by
  unfold cb bP
  rw[Nat.testBit_and,show(255:Nat)=2^8-1 by rfl,Nat.testBit_two_pow_sub_one]
  simp[show¬i<8 by omega]
 have h4:∀i,16≤i→cb (s%65536) i=0:=fun i hi=>by
  unfold cb
  rw[show(65536:Nat)=2^16 by rfl,Nat.testBit_mod_two_pow]
  simp[show¬i<16 by omega]
 simp only[h1,Nat.reduceAdd]
 simp(discharger:=omega) only[h2,h3,h4]
 omega
theorem acR:ACall Tryz.prog 37 [.val (.int .u16 (U s))] [] 0 (.val (.int .i64 (aA s 16:Nat))) []:=by
 have e0:U (s%65536/256)<256:=by rw[FD (by omega)];omega
 have e1:U (bP s 255)<256:=by
  have h:bP s 255≤255:=Nat.and_le_right
  rw[FD (by omega)];omega
 have e2:=Uf (x:=s%65536/256)
 have e3:=Uf (x:=bP s 255)
 have e4:=Ib (U (s%65536/256))
 have e5:=Ib (U (bP s 255))
 have zx1:=UI (s:=s)
 have e7:=lF (s:=s) (j:=16)
 generalize aA s 16=m at*
 refine az Tryz.func37 Tryz.ntmps37 rfl ?_
 have zx2:=aD;have zx3:=aD;repeat' (first|((refine aJ (fun K hK=>?_);refine acQ _ _ (by kernel_rfl) ?_;(simp-dsimp(disch:=try exact vD) only[push_cast,simprocAttr,zx1]);(repeat refine aI ?_);first|refine hK _ _ _ ?_|refine hK _ _ ?_;clear hK K))|refine zqN ?_|refine dx ?_|refine dz ?_|(refine dA ?_ ?_<;>intro hc<;>try exact zqM)|refine zqR 1 [⟨0,[],[6,7,8],[],[],0⟩,⟨1,[0],[6,7,8],[],[],0⟩,⟨2,[0,1],[6,7,8],[],[],0⟩,⟨3,[],[3,4,5],[],[],0⟩,⟨4,[3],[3,4,5],[],[],0⟩,⟨5,[3,4],[3,4,5],[],[],0⟩,⟨6,[0,1,2,3,4,5],[],[],[],0⟩,⟨7,[0,1,2,3,4,5,6],[],[],[],0⟩,⟨8,[0,1,2,3,4,5,6,7],[],[],[],0⟩] ?_|refine zqD ?_|fail)
 all_goals(refine Ends.mk2 zqI [] ?_;simp-dsimp(disch:=try exact vD) only[push_cast,simprocAttr,Tryz.f37];try exact zqF)
def msI(s:Nat)(k:{k:Nat // k≤16}):St:=
 ⟨16,0,[(0,.val (.int .u16 (U (nH s k.val)))),(3,gL (aA s k.val) 0 1)],gM (aA s k.val) 0 (cI .i64 (mem s k.val)) 3⟩
theorem acS:ACall Tryz.prog 46 [.val (.int .u16 (U s))] [] 0 (.isl (aA s 16==0) (cI .i64 (mem s 16)) (aA s 16)) []:=by
 have h00:U s=U (nH s 0):=by rw[Z0,WO]
 rw[h00]
 have zx2:=ae;have zx3:=ae;have zx4:=ae;have zx5:=ae
 have hle:=fun(j:Nat)=>lF (s:=s) (j:=j)
 refine az Tryz.func46 Tryz.ntmps46 rfl ?_
 have zx1:= @NW;have zx6:= @FH;have zx7:= @mK;have zx8:= @H8;have zx9:=aD;repeat' (first|(refine ai ?_;refine au [9] ([9].length) (msI s) (fun k=>16-k.val) (⟨0,by omega⟩) rfl (by unfold msI;exact dM) ?_;(rintro⟨k,hk⟩;have hkl:=hle k;rcases Decidable.em (nH s k%65536=0) with hz|hz<;>first|(have hlm:=N9 hz hk;rcases Nat.eq_zero_or_pos (aA s k) with h0|h0<;>(simp-dsimp only[msI];refine zqS ?_))|(have hn:=N8 hz;have hnp:=hn.lt;have hng:=hn.ge;have zx2:=hn.mem;have zx3:=hn.len;have zx4:=hn.cut;generalize zx5:low (nH s k)=p at hn hnp hng zx2 zx3 zx4;rcases Nat.eq_zero_or_pos (aA s k) with h0|h0<;>(simp-dsimp only[msI];refine zqS ?_))))|(refine aj ?_;refine Nxt.mk [2] (⟨p+1,by omega⟩) rfl (by unfold msI;exact dM) zqO)|(refine aj ?_;refine Nxt.mk [1] (⟨p+1,by omega⟩) rfl (by unfold msI;exact dM) zqO)|refine zqN ?_|refine kY (acO (s:=nH s k) (by assumption)) ?_|refine rJ ?_|refine rM ?_|refine rO ?_|refine rP ?_|refine rT ?_|(refine rU ?_ ?_<;>intro hc<;>try exact zqM))
 all_goals first
  |(rw[hlm.1,hlm.2,h0,H8 h0];(refine Ends.mk2 zqI [] ?_;simp-dsimp(disch:=try exact vD) only[push_cast,simprocAttr,Tryz.f46];try exact zqF);done)
  |(rw[hlm.1,hlm.2,zB h0];((refine Ends.frz 0 ?_;simp-dsimp(disch:=try exact vD) only[push_cast,simprocAttr,Tryz.f46,Ap,mK];(repeat refine aI ?_);intro K hK;refine hK _ _ ?_;clear hK K);refine Ends.mk2 zqI [] ?_;simp-dsimp(disch:=try exact vD) only[push_cast,simprocAttr,Tryz.f46,Ap,mK];try exact zqF);done)
  |skip
theorem qG:ACall Tryz.prog 12 [.val (.int .u16 (U s))] [] 0 (.val (.int .i64 (aA s 16:Nat))) []:=by
 refine az Tryz.func12 Tryz.ntmps12 rfl ?_
 repeat' (first|refine zqN ?_|refine aT (acR (s:=s)) ?_|refine bA ?_|refine bB ?_|(refine bC ?_ ?_<;>intro hc<;>try exact zqM))
 all_goals(refine Ends.mk2 zqI [] ?_;simp-dsimp(disch:=try exact vD) only[push_cast,simprocAttr,Tryz.f12];try exact zqF)
end
section
open Go Go.Sy Go.Bp
attribute [local irreducible] AO AL AC OpT ACall Ends DGo aN Thn Blk Nxt
variable {n i j k m s N j0:Nat} {H:iU}
theorem aab{k:List Nat}(hi:i<k.length):(k.map fun(i:Nat)=>(i:Int)).getD i default=((k.getD i 0:Nat):Int):=by
 simp[List.getD_eq_getElem?_getD,List.getElem?_eq_getElem hi]
def piN(s i:Nat):Nat:=(Au s 16).getD i 0
theorem aac(hi:i<aA s 16):(mem s 16).getD i default=(piN s i:Int):=by rw[WQ,aab (by rw[←Ob];exact hi)];rfl
theorem UJ(hi:i<aA s 16):piN s i∈Au s 16:=by
 rw[Ob] at hi
 unfold piN;rw[List.getD_eq_getElem?_getD,List.getElem?_eq_getElem hi,Option.getD_some];exact List.getElem_mem hi
theorem UK(hi:i<aA s 16):piN s i<16∧bit s (piN s i)=true:=by
 have:=Oc.1 (UJ hi)
 exact⟨this.1,by unfold bit;rw[oW this.1];exact this.2⟩
def pkA(s n i:Nat):Nat:=zC (Au s 16) n i
theorem acT:pkA s n 0=0:=rfl
theorem acU(h:Ku n i=true):pkA s n (i+1)=sor (pkA s n i) (2^piN s i):=by unfold pkA piN;simp[zC,h]
theorem acV(h:Ku n i=false):pkA s n (i+1)=pkA s n i:=by unfold pkA;simp[zC,h]
theorem UL:pkA s n (aA s 16)=pick s n:=rfl
structure CG(s k N:Nat)(go:Nat→Bool)(j0:Nat)(p:Nat×Nat):Prop where
 hle:p.1≤N
 hat:p.1<N→p.2=(gq (aA s 16) k).getD p.1 0
 hend:p.1=N→¬p.2%4294967296<2^aA s 16
 hgo:go (j0+p.1)=true
 hfd:fd go j0 N=fd go (j0+p.1) (N-p.1)
theorem Oi:V (sor (n+bP n (FE n)) (UA (pQ n (n+bP n (FE n))) (bP n (FE n))%4294967296/4))=V (FL n):=rfl
theorem CG.nxt{go:Nat→Bool} {j0:Nat}(hc:Xl (aA s 16) k i n)(hN:(gq (aA s 16) k).length=N)(hi:i<N)(h0:n≠0)(hg:go (j0+i+1)=true)(hf:fd go j0 N=fd go (j0+i) (N-i)):
 CG s k N go j0 (i+1,FL n%4294967296):=by
 refine⟨by omega,fun e=>hc.next h0 (by dsimp only at e;omega),fun e=>?_,hg,?_⟩
 ·dsimp only at e⊢
  rw[Nat.mod_mod];exact hc.last h0 (by omega)
 ·rw[hf];dsimp only
  rw[show N-i=N-(i+1)+1 by omega,AA hg,Nat.add_assoc]
theorem fdG{go:Nat→Bool} {j0:Nat}(hi:i<N)(hg:go (j0+i+1)=false)(hf:fd go j0 N=fd go (j0+i) (N-i)):fd go j0 N=(j0+i+1,false):=by
 rw[hf,show N-i=N-(i+1)+1 by omega,Kv hg]
theorem fdZ{go:Nat→Bool} {j0:Nat}(hi:i+1=N)(hg:go (j0+i+1)=true)(hf:fd go j0 N=fd go (j0+i) (N-i)):fd go j0 N=(j0+i+1,true):=by
 rw[hf,show N-i=0+1 by omega,AA hg];rfl
theorem fdN{go:Nat→Bool} {j0:Nat}(hi:i=N)(hf:fd go j0 N=fd go (j0+i) (N-i)):fd go j0 N=(j0+i,true):=by
 rw[hf,show N-i=0 by omega];rfl
attribute [local irreducible] aA mem gq pick pkA fd
def coI(s:Nat)(k N:Nat)(H:iU)(j0:Nat)(p:{p:Nat×Nat // CG s k N H.go j0 p}):St:=
 ⟨70,1,[(2,.yl 0),(7,.isl (aA s 16==0) (cI .i64 (mem s 16)) (aA s 16)),(8,.val (.int .u32 (V p.val.2)))],[(0,some (.tr H (j0+p.val.1)))]⟩
def coJ(s n:Nat)(H:iU)(j:Nat)(i:{i:Nat // i≤aA s 16}):St:=
 ⟨70,1,[(2,.yl 0),(7,.isl (aA s 16==0) (cI .i64 (mem s 16)) (aA s 16)),(8,.val (.int .u32 (V n))),(9,.val (.int .u16 (U (pkA s n i.val)))),(32,.isl (aA s 16==0) (cI .i64 (mem s 16)) (aA s 16)),(33,.val (.int .i64 (aA s 16))),(34,.val (.int .i64 i.val))],[(0,some (.tr H j))]⟩
theorem zF(hP:H.P=Tryz.prog)(hm:aA s 16<7)(hk:k≤aA s 16)(hN:(gq (aA s 16) k).length=N)(hgo:H.go j0=true)(hx:∀i,i<N→H.xs (j0+i)=some (.int .u16 (U (pick s ((gq (aA s 16) k).getD i 0))))):
 ACall Tryz.prog 39 [.val (.int .u16 (U s)),.val (.int .i64 k),.yl 0] [.tr H j0] 1 (.val (.bool (fd H.go j0 N).2)) [.tr H (fd H.go j0 N).1]:=by
 have hf:=FN hm hk
 have hM:2^aA s 16≤64:=by rw[show(64:Nat)=2^6 by rfl];exact Nat.pow_le_pow_right (by decide) (by omega)
 have hk1:2^k≤2^aA s 16:=Nat.pow_le_pow_right (by decide) hk
 have zx3:2^aA s 16%4294967296=2^aA s 16:=Nat.mod_eq_of_lt (by omega)
 have zx4:=mK (s:=s) (j:=16)
 have h0:CG s k N H.go j0 (0,2^k-1):=⟨by omega,fun _=>hf.2.2.symm,fun e=>absurd e (by show¬(0=N);omega),hgo,rfl⟩
 have hat:=fun(i:Nat) (h:i<N)=>PLift.up (UF hm hk (j:=i) (by omega))
 have hx:=PLift.up hx
 generalize hM2:2^aA s 16=M at hM zx3
 have zx5:=ae;have zx6:=ae;have zx7:=ae;have hne:=ae;have hmn:=ae;have zx8:=ae;have zx9:=ae;have zx10:=ae;have zx11:=ae;have zx12:=ae;have zx13:=ae;have zx14:=ae;have zx15:=ae;have zx16:=ae
 refine az Tryz.func39 Tryz.ntmps39 rfl ?_
 have zx1:= @hP;have zx2:= @hM2;have zx17:= @acT;have zx18:= @acU;have zx19:= @acV;have zx20:= @Oi;repeat' (first|(((first|refine ax rfl (fun K hK=>?_)|refine ak (fun K hK=>?_));apply Ua;(simp-dsimp(disch:=try exact vD) only[push_cast,simprocAttr,hP,zx10,zx13,zx14]);(repeat refine aI ?_);apply hK;clear hK K))|(refine ai ?_;refine au [0] ([0].length) (coJ s n H (j0+i)) (fun a=>aA s 16-a.val) (⟨0,by omega⟩) rfl (by unfold coJ;exact gW) ?_;(rintro⟨a,ha⟩;rcases Nat.lt_or_eq_of_le ha with hal|hal<;>first|(have zx11:=aac (s:=s) hal;have hpb:=UK hal;rcases Bool.eq_false_or_eq_true (Ku n a) with zx12|zx12<;>(simp-dsimp only[coJ];refine zqS ?_))|(have zx16:pkA s n a=pick s n:=(by rw[hal];exact UL);(simp-dsimp only[coJ];refine zqS ?_))))|(refine aj ?_;refine Nxt.mk [0] (⟨a+1,by omega⟩) rfl (by unfold coJ;exact gW) zqO)|(refine ai ?_;refine au [0] ([0].length) (coI s k N H j0) (fun p=>N-p.val.1) (⟨(0,2^k-1),h0⟩) rfl (by unfold coI;exact gW) ?_;(rintro⟨⟨i,n⟩,hc0⟩;have hle:=hc0.hle;have zx14:=hc0.hgo;have hfd:=hc0.hfd;dsimp only at hle zx14 hfd;rcases Nat.lt_or_eq_of_le hle with hil|hil<;>first|(have zx9:=hc0.hend hil;have zx6:=fdN hil hfd;rw[hM2] at zx9;(simp-dsimp only[coI];refine zqS ?_))|(have hne:=hc0.hat hil;have hCN:=(hat i hil).down;have zx10:=hx.down i hil;dsimp only at hne;rw[←hne] at hCN zx10;clear hne;have zx5:j0+(i+1)=j0+i+1:=(Nat.add_assoc j0 i 1).symm;have zx8:=hCN.lt;rw[hM2] at zx8;have hmn:n%4294967296=n:=Nat.mod_eq_of_lt (by omega);rw[←hmn] at zx8;have hzl:=hCN.zero;rw[hN] at hzl;rcases Nat.eq_zero_or_pos n with hnz|hnz<;>(first|(have zx15:(n%4294967296=0)=True:=eq_true (by omega))|(have zx15:(n%4294967296=0)=False:=eq_false (by omega)));all_goals(rcases Bool.eq_false_or_eq_true (H.go (j0+i+1)) with zx13|zx13)<;>(first|have zx7:(bP n (FE n)%4294967296=0)=False:=eq_false (hCN.low (by omega))|have hlo:=ae)<;>(first|have zx6:=fdG hil zx13 hfd|have zx6:=fdZ (hzl hnz) zx13 hfd|have zx6:=CG.nxt hCN hN hil (by omega) zx13 hfd)<;>(simp-dsimp only[coI];refine zqS ?_))))|(refine aj ?_;refine Nxt.mk [0] (⟨(i+1,FL n%4294967296),zx6⟩) rfl (by unfold coI;exact gW) zqO)|refine zqN ?_|refine WL (acS (s:=s)) ?_|refine Hz ?_|refine HV ?_|(refine HY ?_ ?_<;>intro hc<;>try exact zqM))
 all_goals first
  |((refine Ends.mk2 zqI [0] ?_;simp-dsimp(disch:=try exact vD) only[push_cast,simprocAttr,Tryz.f39,zx6];try exact zqF);done)
  |skip
end
section
open Go Go.Sy Go.Bp
attribute [local irreducible] AO AL AC OpT ACall Ends DGo aN Thn Blk Nxt
variable {n i j k m s N j0:Nat} {H:iU}
attribute [local irreducible] aA mem gq pick fd sbL dW
abbrev bxS(s:Nat):AV:= .ipt [.val (.int .u16 (U s))] 0
def sbI(s:Nat)(H:iU)(k:{k:Nat // SG s H.go k}):St:=
 ⟨16,1,[(0,.yl 0),(1,bxS s),(3,.val (.int .i64 k.val))],[(0,some (.tr H (sbL s k.val)))]⟩
theorem CZ(hP:H.P=Tryz.prog)(hm:aA s 16<7)(hgo:H.go 0=true)(hx:∀i,i<(dW s).length→H.xs i=some (.int .u16 (U ((dW s).getD i 0)))):
 ACall Tryz.prog 78 [.yl 0,bxS s] [.tr H 0] 1 (.tup []) [.tr H (fd H.go 0 (dW s).length).1]:=by
 have hxc:∀k,k≤aA s 16→∀i,i<(gq (aA s 16) k).length→H.xs (sbL s k+i)=some (.int .u16 (U (pick s ((gq (aA s 16) k).getD i 0)))):=by
  intro k hk i hi
  have hl:=FO (s:=s) (k:=k+1) (m:=aA s 16+1) (by omega)
  rw[hx _ (by rw[wy];rw[xP] at hl;omega),UG hk hi]
 have hz:=SG.zero (s:=s) hgo
 have hch:=fun(k:Nat) (h:SG s H.go k) (hk:k≤aA s 16)=>PLift.up (zF hP hm hk rfl h.hgo (hxc k hk))
 clear hx hxc
 have zx1:=ae;have zx2:=ae;have zx3:=ae
 refine az Tryz.func78 Tryz.ntmps78 rfl ?_
 have zx4:= @WS;have zx5:=aD;have zx6:=aD;repeat' (first|(refine ai ?_;refine au [0] ([0].length) (sbI s H) (fun k=>aA s 16+1-k.val) (⟨0,hz⟩) rfl (by unfold sbI;exact gG) ?_;(rintro⟨k,hc0⟩;have hle:=hc0.hle;rcases Nat.lt_or_ge (aA s 16) k with hk|hk<;>first|(have zx2:=hc0.e (by omega);(simp-dsimp only[sbI];refine zqS ?_))|(rcases Bool.eq_false_or_eq_true (fd H.go (sbL s k) (gq (aA s 16) k).length).2 with zx1|zx1<;>first|(have zx3:=(hc0.t hk zx1).2;have hn:=(hc0.t hk zx1).1;(simp-dsimp only[sbI];refine zqS ?_))|(have zx2:=hc0.f hk zx1;(simp-dsimp only[sbI];refine zqS ?_)))))|(refine aj ?_;refine Nxt.mk [0] (⟨k+1,hn⟩) rfl (by unfold sbI;exact gG) zqO)|refine zqN ?_|((first|refine ax rfl (fun K hK=>?_)|refine ak (fun K hK=>?_));(first|refine ah (f:=12) [] 0 false ?_|refine ah (f:=39) [0] 1 false ?_);refine CR ?_;(first|refine⟨_,_,qG (s:=s),?_⟩|refine⟨_,_,(hch k hc0 ‹_›).down,?_⟩);refine rH ?_;apply hK;clear hK K)|refine adH ?_|refine l7 ?_|(refine l8 ?_ ?_<;>intro hc<;>try exact zqM))
 all_goals first
  |((refine Ends.mk2 zqI [0] ?_;simp-dsimp(disch:=try exact vD) only[push_cast,simprocAttr,Tryz.f78,zx2];try exact zqF);done)
  |skip
theorem Ic:ACall Tryz.prog 34 [.val (.int .u16 (U s))] [] 0 (.fn 78 [bxS s]) []:=by
 refine az Tryz.func34 Tryz.ntmps34 rfl ?_
 repeat' (first|refine zqN ?_|refine bA ?_|refine bB ?_|(refine bC ?_ ?_<;>intro hc<;>try exact zqM))
 all_goals first
  |(((refine Ends.frz 0 ?_;simp-dsimp(disch:=try exact vD) only[push_cast,simprocAttr,Tryz.f34];(repeat refine aI ?_);intro K hK;refine hK _ _ ?_;clear hK K);refine Ends.mk2 zqI [] ?_;simp-dsimp(disch:=try exact vD) only[push_cast,simprocAttr,Tryz.f34];try exact zqF);done)
  |skip
end
section
open Go Go.Sy Go.Bp
attribute [local irreducible] AO AL AC OpT ACall Ends DGo aN Thn Blk Nxt
variable {z zl:Bool} {n i j m q s r:Nat} {a b:Int} {x:Ex} {t:Nd}
theorem af8(hw:t.w.length=0):ACall Tryz.prog 92 [.agg (aa.cells t),.val (.int .i64 q)] [] 0 (.val (.int .i64 (wt t q))) []:=by
 have e:wt t q=1:=by unfold wt;rw[if_pos hw]
 rw[e]
 refine az Tryz.func92 Tryz.ntmps92 rfl ?_
 have zx1:= @hw;have zx2:=aD;have zx3:=aD;repeat' (first|refine zqN ?_|refine dx ?_|refine dz ?_|(refine dA ?_ ?_<;>intro hc<;>try exact zqM))
 all_goals(refine Ends.mk2 zqI [] ?_;simp-dsimp(disch:=try exact vD) only[push_cast,simprocAttr,Tryz.f92];try exact zqF)
theorem af9(hw:q<t.w.length)(hb:t.w.length<2^40):ACall Tryz.prog 92 [.agg (aa.cells t),.val (.int .i64 q)] [] 0 (.val (.int .i64 (wt t q))) []:=by
 have e:wt t q=t.w.getD q default:=by unfold wt;rw[if_neg (by omega)];rfl
 rw[e]
 refine az Tryz.func92 Tryz.ntmps92 rfl ?_
 repeat' (first|refine zqN ?_|refine bA ?_|refine bB ?_|(refine bC ?_ ?_<;>intro hc<;>try exact zqM))
 all_goals(refine Ends.mk2 zqI [] ?_;simp-dsimp(disch:=try exact vD) only[push_cast,simprocAttr,Tryz.f92];try exact zqF)
theorem afw(hn:NOk t i)(hq:q<t.k.length)(hk:t.k.length≤1000):ACall Tryz.prog 92 [.agg (aa.cells t),.val (.int .i64 q)] [] 0 (.val (.int .i64 (wt t q))) []:=by
 by_cases h:t.w.length=0
 ·exact af8 h
 ·have:=hn.wl (fun e=>h (by rw[e];rfl))
  exact af9 (by omega) (by omega)
def hpI(s:Nat)(x:Ex)(r:Nat)(p:{p:Nat×List Bool // p.1≤r+1∧afk (aeF (s%65536)) x p.1 p.2}):St:=
 ⟨62,0,[(1,.val (.int .u16 (U s))),(2,.pt 0 0),(5,.pt 1 0),(16,.isl x.nz (cR (x.nodes.take (r+1))) (r+1)),(17,.val (.int .i64 ((r:Int)+1))),(18,.val (.int .i64 p.val.1))],[(0,some (.cells (aa.cells x) 50)),(1,some (.cells (cB p.val.2) 146))]⟩
def hpJ(s:Nat)(x:Ex)(r i:Nat)(A:List Bool)(t:Nd)(q:{q:Nat // q≤t.k.length}):St:=
 ⟨62,0,[(1,.val (.int .u16 (U s))),(2,.pt 0 0),(5,.pt 1 0),(6,.val (.int .i64 i)),(7,.pt 2 0),(8,.val (.int .i64 (aey t A q))),(16,.isl x.nz (cR (x.nodes.take (r+1))) (r+1)),(17,.val (.int .i64 ((r:Int)+1))),(18,.val (.int .i64 i)),
    (35,.isl t.kz (cI .i64 t.k) t.k.length),(36,.val (.int .i64 t.k.length)),(37,.val (.int .i64 q.val))],
  [(0,some (.cells (aa.cells x) 50)),(1,some (.cells (cB A) 146)),(2,some (.cells (aa.cells t) 95))]⟩
theorem ah5:(vB 60).map ofV=cB (List.replicate 60 false):=rfl
theorem ahr{α:Type} [Inhabited α]{l:List α} {i k:Nat}(h:i<k):(l.take k).getD i default=l.getD i default:=by simp[List.getD_eq_getElem?_getD,List.getElem?_take_of_lt h]
theorem afx(hx:XOk x)(hks:KS x)(hr:x.root=(r:Nat)):ACall Tryz.prog 53 [.agg (aa.cells x),.val (.int .u16 (U s))] [] 0 (.val (.bool (hold (aeF (s%65536)) x))) []:=by
 have hfew:=hx.few
 have hrl:=hx.root.2
 have zx1:=ae;have zx2:=ae;have zx3:=ae;have zx4:=ae;have zx5:=ae;have zx6:=ae
 refine az Tryz.func53 Tryz.ntmps53 rfl ?_
 have zx7:= @hr;have zx8:= @agx;have zx9:= @ah5;have zx10:= @ahr;have zx11:=aD;have zx12:=aD;repeat' (first|(refine ai ?_;refine au [0,1,2] ([0,1,2].length) (hpJ s x r i A t) (fun q=>t.k.length-q.val) (⟨0,by omega⟩) rfl (by unfold hpJ;exact bX) ?_;(rintro⟨q,hq⟩;have hgr:=afo (A:=A) hno hq;rcases Nat.lt_or_eq_of_le hq with hql|hql<;>first|(exfalso;omega)|(subst hql;(simp-dsimp only[hpJ];refine zqS ?_))|(have hkq:=hno.ks _ (iR (d:=default) hql);have hwr:=afa hno hql;have hgt:=afo (A:=A) hno (q:=q+1) hql;rcases Decidable.em (A.getD (t.k.getD q default).toNat default=true) with zx5|zx5<;>first|(have zx3:=ah3 hql zx5;(simp-dsimp only[hpJ];refine zqS ?_))|(have zx3:=ah4 hql zx5;(simp-dsimp only[hpJ];refine zqS ?_)))))|(refine aj ?_;refine Nxt.mk [0,1,2] (⟨q+1,by omega⟩) rfl (by unfold hpJ;exact bX) zqO)|(refine ai ?_;refine au [0,1] ([0,1].length) (hpI s x r) (fun p=>r+1-p.val.1) (⟨(0,List.replicate 60 false),by omega,afk.zero⟩) rfl (by unfold hpI;exact bX) ?_;(rintro⟨⟨i,A⟩,hi,hA⟩;dsimp only at hi hA;have hAl:=hA.len;rcases Nat.lt_or_eq_of_le hi with hil|hil<;>first|(have ei:r+1=i:=hil.symm;subst ei;have zx4:=hA.root hr (by omega);(simp-dsimp only[hpI];refine zqS ?_))|(have hno:=hx.node i (by omega);have hkl:=hks i (by omega);generalize zx1:x.nodes.getD i default=t at hno hkl;have hsv:=hno.srv;rcases Decidable.em (t.kind=1) with zx2|zx2<;>first|(have hk0:t.k.length=0:=(by rw[(hno.leaf zx2).2.2];rfl);(simp-dsimp only[hpI];refine zqS ?_))|(have hk2:t.kind=2:=(hno.kind.resolve_left zx2);(simp-dsimp only[hpI];refine zqS ?_)))))|(refine aj ?_;refine Nxt.mk [0,1] (⟨(i+1,A.set i (bit s t.server.toNat)),by omega,hA.step (by omega) (by omega) (by rw[zx1];exact(ev_1 (h:=aeF (s%65536)) (A:=A) hno zx2).symm)⟩) rfl (by unfold hpI;exact bX) zqO)|(refine aj ?_;refine Nxt.mk [0,1] (⟨(i+1,A.set i (decide (t.need≤aey t A t.k.length))),by omega,hA.step (by omega) (by omega) (by rw[zx1];exact(ev_2 (h:=aeF (s%65536)) (A:=A) hno zx2).symm)⟩) rfl (by unfold hpI;exact bX) zqO)|refine zqN ?_|refine bW (afw hno (q:=q) (by omega) (by omega)) ?_|refine jV ?_|refine Fu ?_|refine Fv ?_|refine Fw ?_|refine jW ?_|(refine jX ?_ ?_<;>intro hc<;>try exact zqM))
 all_goals first
  |((refine Ends.mk2 zqI [] ?_;simp-dsimp(disch:=try exact vD) only[push_cast,simprocAttr,Tryz.f53];try exact zqF);done)
  |skip
end
