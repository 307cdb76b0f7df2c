/- Fe9 Fe10 Fe25. No condition. -/
import Derived.Test.YtgmpdplpodemaaaGreatDoorEc3
import Derived.Test.YtgmpdplpodemaaaGreatDoorBu29
set_option linter.all false
set_option maxHeartbeats 2000000
set_option maxRecDepth 20000
namespace Go.Proofs.YtgmpdplpodemaaaGreatDoor
section
open Go Go.Sy Go.Bp
attribute [local irreducible] AO AL AC OpT ACall Ends DGo aN Thn Blk Nxt
variable {n i j k m s N j0:Nat} {H:iU}
theorem aab{k:List Nat}(hi:i<k.length):(k.map fun(i:Nat)=>(i:Int)).getD i default=((k.getD i 0:Nat):Int):=by
 simp[List.getD_eq_getElem?_getD,List.getElem?_eq_getElem hi]
def piN(s i:Nat):Nat:=(Au s 16).getD i 0
theorem aac(hi:i<aA s 16):(mem s 16).getD i default=(piN s i:Int):=by rw[WQ,aab (by rw[←Ob];exact hi)];rfl
theorem UJ(hi:i<aA s 16):piN s i∈Au s 16:=by
 rw[Ob] at hi
 unfold piN;rw[List.getD_eq_getElem?_getD,List.getElem?_eq_getElem hi,Option.getD_some];exact List.getElem_mem hi
theorem UK(hi:i<aA s 16):piN s i<16∧bit s (piN s i)=true:=by
 have:=Oc.1 (UJ hi)
 exact⟨this.1,by unfold bit;rw[oW this.1];exact this.2⟩
def pkA(s n i:Nat):Nat:=zC (Au s 16) n i
theorem acT:pkA s n 0=0:=rfl
theorem acU(h:Ku n i=true):pkA s n (i+1)=sor (pkA s n i) (2^piN s i):=by unfold pkA piN;simp[zC,h]
theorem acV(h:Ku n i=false):pkA s n (i+1)=pkA s n i:=by unfold pkA;simp[zC,h]
theorem UL:pkA s n (aA s 16)=pick s n:=rfl
structure CG(s k N:Nat)(go:Nat→Bool)(j0:Nat)(p:Nat×Nat):Prop where
 hle:p.1≤N
 hat:p.1<N→p.2=(gq (aA s 16) k).getD p.1 0
 hend:p.1=N→¬p.2%4294967296<2^aA s 16
 hgo:go (j0+p.1)=true
 hfd:fd go j0 N=fd go (j0+p.1) (N-p.1)
theorem Oi:V (sor (n+bP n (FE n)) (UA (pQ n (n+bP n (FE n))) (bP n (FE n))%4294967296/4))=V (FL n):=rfl
theorem CG.nxt{go:Nat→Bool} {j0:Nat}(hc:Xl (aA s 16) k i n)(hN:(gq (aA s 16) k).length=N)(hi:i<N)(h0:n≠0)(hg:go (j0+i+1)=true)(hf:fd go j0 N=fd go (j0+i) (N-i)):
 CG s k N go j0 (i+1,FL n%4294967296):=by
 refine⟨by omega,fun e=>hc.next h0 (by dsimp only at e;omega),fun e=>?_,hg,?_⟩
 ·dsimp only at e⊢
  rw[Nat.mod_mod];exact hc.last h0 (by omega)
 ·rw[hf];dsimp only
  rw[show N-i=N-(i+1)+1 by omega,AA hg,Nat.add_assoc]
theorem fdG{go:Nat→Bool} {j0:Nat}(hi:i<N)(hg:go (j0+i+1)=false)(hf:fd go j0 N=fd go (j0+i) (N-i)):fd go j0 N=(j0+i+1,false):=by
 rw[hf,show N-i=N-(i+1)+1 by omega,Kv hg]
theorem fdZ{go:Nat→Bool} {j0:Nat}(hi:i+1=N)(hg:go (j0+i+1)=true)(hf:fd go j0 N=fd go (j0+i) (N-i)):fd go j0 N=(j0+i+1,true):=by
 rw[hf,show N-i=0+1 by omega,AA hg];rfl
theorem fdN{go:Nat→Bool} {j0:Nat}(hi:i=N)(hf:fd go j0 N=fd go (j0+i) (N-i)):fd go j0 N=(j0+i,true):=by
 rw[hf,show N-i=0 by omega];rfl
attribute [local irreducible] aA mem gq pick pkA fd
def coI(s:Nat)(k N:Nat)(H:iU)(j0:Nat)(p:{p:Nat×Nat // CG s k N H.go j0 p}):St:=
 ⟨70,1,[(2,.yl 0),(7,.isl (aA s 16==0) (cI .i64 (mem s 16)) (aA s 16)),(8,.val (.int .u32 (V p.val.2)))],[(0,some (.tr H (j0+p.val.1)))]⟩
def coJ(s n:Nat)(H:iU)(j:Nat)(i:{i:Nat // i≤aA s 16}):St:=
 ⟨70,1,[(2,.yl 0),(7,.isl (aA s 16==0) (cI .i64 (mem s 16)) (aA s 16)),(8,.val (.int .u32 (V n))),(9,.val (.int .u16 (U (pkA s n i.val)))),(32,.isl (aA s 16==0) (cI .i64 (mem s 16)) (aA s 16)),(33,.val (.int .i64 (aA s 16))),(34,.val (.int .i64 i.val))],[(0,some (.tr H j))]⟩
theorem zF(hP:H.P=Tryz.prog)(hm:aA s 16<7)(hk:k≤aA s 16)(hN:(gq (aA s 16) k).length=N)(hgo:H.go j0=true)(hx:∀i,i<N→H.xs (j0+i)=some (.int .u16 (U (pick s ((gq (aA s 16) k).getD i 0))))):
 ACall Tryz.prog 39 [.val (.int .u16 (U s)),.val (.int .i64 k),.yl 0] [.tr H j0] 1 (.val (.bool (fd H.go j0 N).2)) [.tr H (fd H.go j0 N).1]:=by
 have hf:=FN hm hk
 have hM:2^aA s 16≤64:=by rw[show(64:Nat)=2^6 by rfl];exact Nat.pow_le_pow_right (by decide) (by omega)
 have hk1:2^k≤2^aA s 16:=Nat.pow_le_pow_right (by decide) hk
 have zx3:2^aA s 16%4294967296=2^aA s 16:=Nat.mod_eq_of_lt (by omega)
 have zx4:=mK (s:=s) (j:=16)
 have h0:CG s k N H.go j0 (0,2^k-1):=⟨by omega,fun _=>hf.2.2.symm,fun e=>absurd e (by show¬(0=N);omega),hgo,rfl⟩
 have hat:=fun(i:Nat) (h:i<N)=>PLift.up (UF hm hk (j:=i) (by omega))
 have hx:=PLift.up hx
 generalize hM2:2^aA s 16=M at hM zx3
 have zx5:=ae;have zx6:=ae;have zx7:=ae;have hne:=ae;have hmn:=ae;have zx8:=ae;have zx9:=ae;have zx10:=ae;have zx11:=ae;have zx12:=ae;have zx13:=ae;have zx14:=ae;have zx15:=ae;have zx16:=ae
 refine az Tryz.func39 Tryz.ntmps39 rfl ?_
 have zx1:= @hP;have zx2:= @hM2;have zx17:= @acT;have zx18:= @acU;have zx19:= @acV;have zx20:= @Oi;repeat' (first|(((first|refine ax rfl (fun K hK=>?_)|refine ak (fun K hK=>?_));apply Ua;(simp-dsimp(disch:=try exact vD) only[push_cast,simprocAttr,hP,zx10,zx13,zx14]);(repeat refine aI ?_);apply hK;clear hK K))|(refine ai ?_;refine au [0] ([0].length) (coJ s n H (j0+i)) (fun a=>aA s 16-a.val) (⟨0,by omega⟩) rfl (by unfold coJ;exact gW) ?_;(rintro⟨a,ha⟩;rcases Nat.lt_or_eq_of_le ha with hal|hal<;>first|(have zx11:=aac (s:=s) hal;have hpb:=UK hal;rcases Bool.eq_false_or_eq_true (Ku n a) with zx12|zx12<;>(simp-dsimp only[coJ];refine zqS ?_))|(have zx16:pkA s n a=pick s n:=(by rw[hal];exact UL);(simp-dsimp only[coJ];refine zqS ?_))))|(refine aj ?_;refine Nxt.mk [0] (⟨a+1,by omega⟩) rfl (by unfold coJ;exact gW) zqO)|(refine ai ?_;refine au [0] ([0].length) (coI s k N H j0) (fun p=>N-p.val.1) (⟨(0,2^k-1),h0⟩) rfl (by unfold coI;exact gW) ?_;(rintro⟨⟨i,n⟩,hc0⟩;have hle:=hc0.hle;have zx14:=hc0.hgo;have hfd:=hc0.hfd;dsimp only at hle zx14 hfd;rcases Nat.lt_or_eq_of_le hle with hil|hil<;>first|(have zx9:=hc0.hend hil;have zx6:=fdN hil hfd;rw[hM2] at zx9;(simp-dsimp only[coI];refine zqS ?_))|(have hne:=hc0.hat hil;have hCN:=(hat i hil).down;have zx10:=hx.down i hil;dsimp only at hne;rw[←hne] at hCN zx10;clear hne;have zx5:j0+(i+1)=j0+i+1:=(Nat.add_assoc j0 i 1).symm;have zx8:=hCN.lt;rw[hM2] at zx8;have hmn:n%4294967296=n:=Nat.mod_eq_of_lt (by omega);rw[←hmn] at zx8;have hzl:=hCN.zero;rw[hN] at hzl;rcases Nat.eq_zero_or_pos n with hnz|hnz<;>(first|(have zx15:(n%4294967296=0)=True:=eq_true (by omega))|(have zx15:(n%4294967296=0)=False:=eq_false (by omega)));all_goals(rcases Bool.eq_false_or_eq_true (H.go (j0+i+1)) with zx13|zx13)<;>(first|have zx7:(bP n (FE n)%4294967296=0)=False:=eq_false (hCN.low (by omega))|have hlo:=ae)<;>(first|have zx6:=fdG hil zx13 hfd|have zx6:=fdZ (hzl hnz) zx13 hfd|have zx6:=CG.nxt hCN hN hil (by omega) zx13 hfd)<;>(simp-dsimp only[coI];refine zqS ?_))))|(refine aj ?_;refine Nxt.mk [0] (⟨(i+1,FL n%4294967296),zx6⟩) rfl (by unfold coI;exact gW) zqO)|refine zqN ?_|refine WL (acS (s:=s)) ?_|refine Hz ?_|refine HV ?_|(refine HY ?_ ?_<;>intro hc<;>try exact zqM))
 all_goals first
  |((refine Ends.mk2 zqI [0] ?_;simp-dsimp(disch:=try exact vD) only[push_cast,simprocAttr,Tryz.f39,zx6];try exact zqF);done)
  |skip
end
section
open Go Go.Sy Go.Bp
attribute [local irreducible] AO AL AC OpT ACall Ends DGo aN Thn Blk Nxt
variable {n i j k m s N j0:Nat} {H:iU}
attribute [local irreducible] aA mem gq pick fd sbL dW
abbrev bxS(s:Nat):AV:= .ipt [.val (.int .u16 (U s))] 0
def sbI(s:Nat)(H:iU)(k:{k:Nat // SG s H.go k}):St:=
 ⟨16,1,[(0,.yl 0),(1,bxS s),(3,.val (.int .i64 k.val))],[(0,some (.tr H (sbL s k.val)))]⟩
theorem CZ(hP:H.P=Tryz.prog)(hm:aA s 16<7)(hgo:H.go 0=true)(hx:∀i,i<(dW s).length→H.xs i=some (.int .u16 (U ((dW s).getD i 0)))):
 ACall Tryz.prog 78 [.yl 0,bxS s] [.tr H 0] 1 (.tup []) [.tr H (fd H.go 0 (dW s).length).1]:=by
 have hxc:∀k,k≤aA s 16→∀i,i<(gq (aA s 16) k).length→H.xs (sbL s k+i)=some (.int .u16 (U (pick s ((gq (aA s 16) k).getD i 0)))):=by
  intro k hk i hi
  have hl:=FO (s:=s) (k:=k+1) (m:=aA s 16+1) (by omega)
  rw[hx _ (by rw[wy];rw[xP] at hl;omega),UG hk hi]
 have hz:=SG.zero (s:=s) hgo
 have hch:=fun(k:Nat) (h:SG s H.go k) (hk:k≤aA s 16)=>PLift.up (zF hP hm hk rfl h.hgo (hxc k hk))
 clear hx hxc
 have zx1:=ae;have zx2:=ae;have zx3:=ae
 refine az Tryz.func78 Tryz.ntmps78 rfl ?_
 have zx4:= @WS;have zx5:=aD;have zx6:=aD;repeat' (first|(refine ai ?_;refine au [0] ([0].length) (sbI s H) (fun k=>aA s 16+1-k.val) (⟨0,hz⟩) rfl (by unfold sbI;exact gG) ?_;(rintro⟨k,hc0⟩;have hle:=hc0.hle;rcases Nat.lt_or_ge (aA s 16) k with hk|hk<;>first|(have zx2:=hc0.e (by omega);(simp-dsimp only[sbI];refine zqS ?_))|(rcases Bool.eq_false_or_eq_true (fd H.go (sbL s k) (gq (aA s 16) k).length).2 with zx1|zx1<;>first|(have zx3:=(hc0.t hk zx1).2;have hn:=(hc0.t hk zx1).1;(simp-dsimp only[sbI];refine zqS ?_))|(have zx2:=hc0.f hk zx1;(simp-dsimp only[sbI];refine zqS ?_)))))|(refine aj ?_;refine Nxt.mk [0] (⟨k+1,hn⟩) rfl (by unfold sbI;exact gG) zqO)|refine zqN ?_|((first|refine ax rfl (fun K hK=>?_)|refine ak (fun K hK=>?_));(first|refine ah (f:=12) [] 0 false ?_|refine ah (f:=39) [0] 1 false ?_);refine CR ?_;(first|refine⟨_,_,qG (s:=s),?_⟩|refine⟨_,_,(hch k hc0 ‹_›).down,?_⟩);refine rH ?_;apply hK;clear hK K)|refine l6 ?_|refine l7 ?_|(refine l8 ?_ ?_<;>intro hc<;>try exact zqM))
 all_goals first
  |((refine Ends.mk2 zqI [0] ?_;simp-dsimp(disch:=try exact vD) only[push_cast,simprocAttr,Tryz.f78,zx2];try exact zqF);done)
  |skip
theorem Ic:ACall Tryz.prog 34 [.val (.int .u16 (U s))] [] 0 (.fn 78 [bxS s]) []:=by
 refine az Tryz.func34 Tryz.ntmps34 rfl ?_
 repeat' (first|refine zqN ?_|refine bA ?_|refine bB ?_|(refine bC ?_ ?_<;>intro hc<;>try exact zqM))
 all_goals first
  |(((refine Ends.frz 0 ?_;simp-dsimp(disch:=try exact vD) only[push_cast,simprocAttr,Tryz.f34];(repeat refine aI ?_);intro K hK;refine hK _ _ ?_;clear hK K);refine Ends.mk2 zqI [] ?_;simp-dsimp(disch:=try exact vD) only[push_cast,simprocAttr,Tryz.f34];try exact zqF);done)
  |skip
end
section
open Go Go.Sy Go.Bp
attribute [local irreducible] AO AL AC OpT ACall Ends DGo aN Thn Blk Nxt
variable {z zl zr:Bool} {n i j m q s b:Nat} {a:Int} {x:Ex} {l r:List Ex} {qs:List Nat}
def s8I(zl zr:Bool)(qs:List Nat)(n:Nat)(i:{i:Nat // i≤n}):St:=
 ⟨26,0,[(0,.isl zl (cX qs) n),(1,.isl zr (cX qs) n),(5,.val (.int .i64 i.val))],[]⟩
theorem QZ(hl:qs.length=n)(hn:n<2^47):ACall Tryz.prog 16 [.isl zl (cX qs) n,.isl zr (cX qs) n] [] 0 (.val (.bool true)) []:=by
 refine az Tryz.func16 Tryz.ntmps16 rfl ?_
 have zx1:= @bg;have zx2:=aD;have zx3:=aD;repeat' (first|(refine ai ?_;refine au [] ([].length) (s8I zl zr qs n) (fun i=>n-i.val) (⟨0,by omega⟩) rfl (by unfold s8I;exact eH) ?_;(rintro⟨i,hi⟩;(simp-dsimp only[s8I];refine zqS ?_)))|(refine aj ?_;refine Nxt.mk [] (⟨i+1,by omega⟩) rfl (by unfold s8I;exact eH) zqO)|refine zqN ?_|refine dx ?_|refine dz ?_|(refine dA ?_ ?_<;>intro hc<;>try exact zqM)|refine zqR 6 [⟨0,[],[18,21,22,23,24],[],[],0⟩,⟨1,[],[17,21,22,23,24],[],[],0⟩,⟨2,[0,1],[21,22,23,24],[],[],0⟩,⟨3,[0,1,2],[21,22,23,24],[],[],0⟩,⟨4,[],[17,18,19,20,22],[],[],0⟩,⟨5,[],[17,18,19,20,21],[],[],0⟩,⟨6,[4,5],[17,18,19,20],[],[],0⟩,⟨7,[4,5,6],[17,18,19,20],[],[],0⟩,⟨8,[0,1,2,3,4,5,6,7],[],[],[],0⟩] ?_|refine zqD ?_|fail)
 all_goals first
  |((refine Ends.mk2 zqI [] ?_;simp-dsimp(disch:=try exact vD) only[push_cast,simprocAttr,Tryz.f16];try exact zqF);done)
  |skip
end
