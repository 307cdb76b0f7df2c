/- Fe1. No condition. -/
import Derived.Test.YtgmpdplpodemaaaGreatDoorEc1
set_option linter.all false
set_option maxHeartbeats 2000000
set_option maxRecDepth 20000
namespace Go.Proofs.YtgmpdplpodemaaaGreatDoor
open Go Go.Sy Go.Bp
attribute [local irreducible] AO AL AC OpT ACall Ends DGo aN Thn Blk Nxt
variable {s i j k n:Nat}
theorem acN:Es 0= .ipt (cI .u8 wU) 0:=rfl
theorem r9(h:s%65536≠0):U (bP s (65536-s%65536))=U (2^low s)∧low s<16:=by
 have:=Lib.lowest_bit 16 (s%65536) h (Nat.mod_lt _ (by decide))
 refine⟨?_,this.2⟩
 have h2:=this.1
 have e:65536-s%65536=2^16-s%65536:=by omega
 unfold bP low
 rw[←h2,←e]
 unfold U
 congr 1
 have lt:65536-s%65536<65536:=by omega
 rw[jL,Nat.mod_eq_of_lt lt,Nat.mod_eq_of_lt (show s%65536&&&(65536-s%65536)<65536 from Nat.lt_of_le_of_lt Nat.and_le_right lt)]
def dbI(p:Nat):Nat:=2^p*125613361%4294967296/134217728
theorem WT(h:n<32):dbI n<32∧wU[dbI n]? =some (n:Int):=by
 have key:∀k,k<32→dbI k<32∧wU[dbI k]? =some (k:Int):=by decide+kernel
 exact key n h
theorem Z7(m:Nat):IntKind.wrap .u32 (m:Int)=((m%4294967296:Nat):Int):=by
 simp[IntKind.wrap,IntKind.bits,IntKind.signed]
theorem Z8(m:Nat):Int.fdiv (m:Int) (2^min (27:Nat) (IntKind.bits .u32))=((m/134217728:Nat):Int):=by
 rw[show min (27:Nat) (IntKind.bits .u32)=27 from rfl,Int.fdiv_eq_ediv_of_nonneg _ (by decide),show(2:Int)^27=((134217728:Nat):Int) by rfl,←Int.natCast_ediv]
theorem Z9(h:n<16):Int.fdiv (IntKind.wrap .u32 (U (2^n)*125613361)) (2^min (27:Nat) (IntKind.bits .u32))=(dbI n:Int):=by
 have h2:2^n<65536:=by rw[show(65536:Nat)=2^16 by rfl];exact Nat.pow_lt_pow_right (by decide) h
 rw[FD h2,show(((2^n:Nat):Int)*125613361)=((2^n*125613361:Nat):Int) by simp,Z7,Z8];rfl
theorem aaa{q d r:Nat}(hne:¬s%65536=0)(hl:U (bP s (65536-s%65536))=U q)(hm:Int.fdiv (IntKind.wrap .u32 (U q*125613361)) (2^min (27:Nat) (IntKind.bits .u32))=(d:Int))(hd:d<32)(ha:wU[d]? =some (r:Int))(hr:r<16):
 ACall Tryz.prog 85 [.val (.int .u16 (U s))] [] 0 (.val (.int .i64 r)) []:=by
 refine az Tryz.func85 Tryz.ntmps85 rfl ?_
 have zx1:= @hne;have zx2:= @hl;have zx3:= @hm;have zx4:= @acN;have zx5:= @ha;have zx6:=aD;repeat' (first|refine zqN ?_|refine l6 ?_|refine l7 ?_|(refine l8 ?_ ?_<;>intro hc<;>try exact zqM))
 all_goals(refine Ends.mk2 zqI [] ?_;simp-dsimp(disch:=try exact vD) only[push_cast,simprocAttr,Tryz.f85];try exact zqF)
theorem acO(hne:¬s%65536=0):ACall Tryz.prog 85 [.val (.int .u16 (U s))] [] 0 (.val (.int .i64 (low s))) []:=
 aaa hne (r9 hne).1 (Z9 (r9 hne).2) (WT (n:=low s) (by have:=(r9 hne).2;omega)).1 (WT (n:=low s) (by have:=(r9 hne).2;omega)).2 (r9 hne).2
def P8:ByteArray:=⟨[0,1,1,2,1,2,2,3,1,2,2,3,2,3,3,4,1,2,2,3,2,3,3,4,2,3,3,4,3,4,4,5,1,2,2,3,2,3,3,4,2,3,3,4,3,4,4,5,2,3,3,4,3,4,4,5,3,4,4,5,4,5,5,6,1,2,2,3,2,3,3,4,2,3,3,4,3,4,4,5,2,3,3,4,3,4,4,5,3,4,4,5,4,5,5,6,2,3,3,4,3,4,4,5,3,4,4,5,4,5,5,6,3,4,4,5,4,5,5,6,4,5,5,6,5,6,6,7,1,2,2,3,2,3,3,4,2,3,3,4,3,4,4,5,2,3,3,4,3,4,4,5,3,4,4,5,4,5,5,6,2,3,3,4,3,4,4,5,3,4,4,5,4,5,5,6,3,4,4,5,4,5,5,6,4,5,5,6,5,6,6,7,2,3,3,4,3,4,4,5,3,4,4,5,4,5,5,6,3,4,4,5,4,5,5,6,4,5,5,6,5,6,6,7,3,4,4,5,4,5,5,6,4,5,5,6,5,6,6,7,4,5,5,6,5,6,6,7,5,6,6,7,6,7,7,8].toArray⟩
theorem UH:P8.size=256:=by decide+kernel
def FP(i:Int):Int:=(aA i.toNat 16:Nat)
theorem acP:∀i,i<256→((P8.get! i).toNat:Int)=(aA i 16:Nat):=by decide+kernel
theorem acQ{P:Program} {st:St} {dst:Option Nat} {ty:TypeId} {pos:String} {af:Array Edge} {g:Option (Nat×Bool)} {nid:Nat} {K:Nat→Eff→Prop}(t:TypeId){lit:ByteArray}(ix:Operand) [ht:BR P t](hl:lit=P8)
 (h:aH (jg (st.op ix)) fun i=>(0≤i∧i<256)∧K 0 ⟨.val (.int .u8 (FP i)),[]⟩):AO P ⟨dst,.index t (.const (.string lit)) ix,ty,pos,af,g⟩ nid st K:=by
 subst hl
 obtain⟨i,h1,⟨h2,h3⟩,h4⟩:=h
 refine iQ t _ ix ⟨_,rfl,i,h1,⟨h2,?_⟩,?_⟩
 ·rw[UH];exact h3
 ·have:=acP i.toNat (by omega)
  show K 0 ⟨.val (.int .u8 ((P8.get! i.toNat).toNat:Int)),[]⟩
  rw[this];exact h4
theorem Ib(i:Int):0≤FP i∧FP i≤16:=by have:=lF (s:=i.toNat) (j:=16);unfold FP;omega
def cb(s i:Nat):Nat:=if s.testBit i=true then 1 else 0
theorem AB{s j:Nat}:aA s (j+1)=aA s j+cb s j:=by
 unfold cb
 cases h:s.testBit j with
 |true=>rw[FI h];simp
 |false=>rw[FJ h];simp
theorem qF{s:Nat}:aA s 16=cb s 0+cb s 1+cb s 2+cb s 3+cb s 4+cb s 5+cb s 6+cb s 7+cb s 8+cb s 9+cb s 10+cb s 11+cb s 12+cb s 13+cb s 14+cb s 15:=by
 iterate 16 rw[AB]
 rw[FH];omega
theorem Oh{s:Nat}:aA (s%65536) 16=aA s 16:=by
 have key:∀i,i<16→cb (s%65536) i=cb s i:=fun i hi=>by
  unfold cb;rw[show(65536:Nat)=2^16 by rfl,Nat.testBit_mod_two_pow];simp[hi]
 rw[qF,qF]
 simp(discharger:=omega) only[key]
theorem UI{s:Nat}:FP (U (s%65536/256))+FP (U (bP s 255))=(aA s 16:Nat):=by
 have e1:(U (s%65536/256)).toNat=s%65536/256:=by rw[FD (by omega)];rfl
 have e2:bP s 255<65536:=Nat.lt_of_le_of_lt Nat.and_le_right (by decide)
 have e3:(U (bP s 255)).toNat=bP s 255:=by rw[FD e2];rfl
 unfold FP
 rw[e1,e3,←Oh (s:=s),qF,qF,qF]
 have h1:∀i,cb (s%65536/256) i=cb (s%65536) (i+8):=fun i=>by
  unfold cb
  rw[show(256:Nat)=2^8 by rfl,Nat.testBit_div_two_pow]
 have h2:∀i,i<8→cb (bP s 255) i=cb (s%65536) i:=fun i hi=>by
  unfold cb bP
  rw[Nat.testBit_and,show(255:Nat)=2^8-1 by rfl,Nat.testBit_two_pow_sub_one,show(65536:Nat)=2^16 by rfl,Nat.testBit_mod_two_pow]
  simp[hi,show i<16 by omega]
 have h3:∀i,8≤i→cb (bP s 255) i=0:=fun i hi=>by
  unfold cb bP
  rw[Nat.testBit_and,show(255:Nat)=2^8-1 by rfl,Nat.testBit_two_pow_sub_one]
  simp[show¬i<8 by omega]
 have h4:∀i,16≤i→cb (s%65536) i=0:=fun i hi=>by
  unfold cb
  rw[show(65536:Nat)=2^16 by rfl,Nat.testBit_mod_two_pow]
  simp[show¬i<16 by omega]
 simp only[h1,Nat.reduceAdd]
 simp(discharger:=omega) only[h2,h3,h4]
 omega
theorem acR:ACall Tryz.prog 37 [.val (.int .u16 (U s))] [] 0 (.val (.int .i64 (aA s 16:Nat))) []:=by
 have e0:U (s%65536/256)<256:=by rw[FD (by omega)];omega
 have e1:U (bP s 255)<256:=by
  have h:bP s 255≤255:=Nat.and_le_right
  rw[FD (by omega)];omega
 have e2:=Uf (x:=s%65536/256)
 have e3:=Uf (x:=bP s 255)
 have e4:=Ib (U (s%65536/256))
 have e5:=Ib (U (bP s 255))
 have zx1:=UI (s:=s)
 have e7:=lF (s:=s) (j:=16)
 generalize aA s 16=m at*
 refine az Tryz.func37 Tryz.ntmps37 rfl ?_
 have zx2:=aD;have zx3:=aD;repeat' (first|((refine aJ (fun K hK=>?_);refine acQ _ _ (by kernel_rfl) ?_;(simp-dsimp(disch:=try exact vD) only[push_cast,simprocAttr,zx1]);(repeat refine aI ?_);first|refine hK _ _ _ ?_|refine hK _ _ ?_;clear hK K))|refine zqN ?_|refine dx ?_|refine dz ?_|(refine dA ?_ ?_<;>intro hc<;>try exact zqM)|refine zqR 1 [⟨0,[],[6,7,8],[],[],0⟩,⟨1,[0],[6,7,8],[],[],0⟩,⟨2,[0,1],[6,7,8],[],[],0⟩,⟨3,[],[3,4,5],[],[],0⟩,⟨4,[3],[3,4,5],[],[],0⟩,⟨5,[3,4],[3,4,5],[],[],0⟩,⟨6,[0,1,2,3,4,5],[],[],[],0⟩,⟨7,[0,1,2,3,4,5,6],[],[],[],0⟩,⟨8,[0,1,2,3,4,5,6,7],[],[],[],0⟩] ?_|refine zqD ?_|fail)
 all_goals(refine Ends.mk2 zqI [] ?_;simp-dsimp(disch:=try exact vD) only[push_cast,simprocAttr,Tryz.f37];try exact zqF)
def msI(s:Nat)(k:{k:Nat // k≤16}):St:=
 ⟨16,0,[(0,.val (.int .u16 (U (nH s k.val)))),(3,gL (aA s k.val) 0 1)],gM (aA s k.val) 0 (cI .i64 (mem s k.val)) 3⟩
theorem acS:ACall Tryz.prog 46 [.val (.int .u16 (U s))] [] 0 (.isl (aA s 16==0) (cI .i64 (mem s 16)) (aA s 16)) []:=by
 have h00:U s=U (nH s 0):=by rw[Z0,WO]
 rw[h00]
 have zx2:=ae;have zx3:=ae;have zx4:=ae;have zx5:=ae
 have hle:=fun(j:Nat)=>lF (s:=s) (j:=j)
 refine az Tryz.func46 Tryz.ntmps46 rfl ?_
 have zx1:= @NW;have zx6:= @FH;have zx7:= @mK;have zx8:= @H8;have zx9:=aD;repeat' (first|(refine ai ?_;refine au [9] ([9].length) (msI s) (fun k=>16-k.val) (⟨0,by omega⟩) rfl (by unfold msI;exact dM) ?_;(rintro⟨k,hk⟩;have hkl:=hle k;rcases Decidable.em (nH s k%65536=0) with hz|hz<;>first|(have hlm:=N9 hz hk;rcases Nat.eq_zero_or_pos (aA s k) with h0|h0<;>(simp-dsimp only[msI];refine zqS ?_))|(have hn:=N8 hz;have hnp:=hn.lt;have hng:=hn.ge;have zx2:=hn.mem;have zx3:=hn.len;have zx4:=hn.cut;generalize zx5:low (nH s k)=p at hn hnp hng zx2 zx3 zx4;rcases Nat.eq_zero_or_pos (aA s k) with h0|h0<;>(simp-dsimp only[msI];refine zqS ?_))))|(refine aj ?_;refine Nxt.mk [2] (⟨p+1,by omega⟩) rfl (by unfold msI;exact dM) zqO)|(refine aj ?_;refine Nxt.mk [1] (⟨p+1,by omega⟩) rfl (by unfold msI;exact dM) zqO)|refine zqN ?_|refine kY (acO (s:=nH s k) (by assumption)) ?_|refine rJ ?_|refine rM ?_|refine rO ?_|refine rP ?_|refine rT ?_|(refine rU ?_ ?_<;>intro hc<;>try exact zqM))
 all_goals first
  |(rw[hlm.1,hlm.2,h0,H8 h0];(refine Ends.mk2 zqI [] ?_;simp-dsimp(disch:=try exact vD) only[push_cast,simprocAttr,Tryz.f46];try exact zqF);done)
  |(rw[hlm.1,hlm.2,zB h0];((refine Ends.frz 0 ?_;simp-dsimp(disch:=try exact vD) only[push_cast,simprocAttr,Tryz.f46,Ap,mK];(repeat refine aI ?_);intro K hK;refine hK _ _ ?_;clear hK K);refine Ends.mk2 zqI [] ?_;simp-dsimp(disch:=try exact vD) only[push_cast,simprocAttr,Tryz.f46,Ap,mK];try exact zqF);done)
  |skip
theorem qG:ACall Tryz.prog 12 [.val (.int .u16 (U s))] [] 0 (.val (.int .i64 (aA s 16:Nat))) []:=by
 refine az Tryz.func12 Tryz.ntmps12 rfl ?_
 repeat' (first|refine zqN ?_|refine aT (acR (s:=s)) ?_|refine bA ?_|refine bB ?_|(refine bC ?_ ?_<;>intro hc<;>try exact zqM))
 all_goals(refine Ends.mk2 zqI [] ?_;simp-dsimp(disch:=try exact vD) only[push_cast,simprocAttr,Tryz.f12];try exact zqF)
