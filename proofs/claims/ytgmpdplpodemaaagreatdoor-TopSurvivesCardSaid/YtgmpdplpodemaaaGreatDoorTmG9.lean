/- Tm9 Tm3 Tm11 Tm12. No condition. -/
import Derived.Test.YtgmpdplpodemaaaGreatDoorTmG1
set_option linter.all false
set_option maxHeartbeats 4000000
set_option maxRecDepth 20000
namespace Go.Proofs.YtgmpdplpodemaaaGreatDoor
section
open Go Go.Sy Go.Bp Go.Dg
attribute [local irreducible] AO AL AC OpT ACall Ends DGo aN Thn Blk Nxt
variable {n N M K S k i m r a b j w u v s q y d c:Nat} {z:Bool} {x:Ex} {t:Nd} {e:Int} {ms pl ks:List Int} {f:List Nat} {nd0 nds:List Nd} {h h':Int→Bool} {A acc:List Bool}
theorem aaj(h:q<2^n)(hn:n≤6):dJ (2^n-1) q%65536=cpl n q:=by
 have hp:2^n≤2^6:=Nat.pow_le_pow_right (by omega) hn
 have hc:=Z4 (n:=n) (t:=q)
 have:dJ (2^n-1) q%65536=cpl n q%65536:=mM.2 fun i hi=>by
  rw[xO]
  show(bit (Oa n) i&& !bit q i)=_
  rw[CY (by omega),jM hi,jM hi,Aw h]
 rw[this,Nat.mod_eq_of_lt (by omega)]
theorem OM(hn:n≤6)(hf:∀y∈f,y<2^n)(hq:q<2^n):dD f q= !eO f (cpl n q):=by
 unfold dD eO
 congr 1
 rw[Bool.eq_iff_iff,List.any_eq_true,List.any_eq_true]
 have hp:2^n≤2^6:=Nat.pow_le_pow_right (by omega) hn
 have key:∀m∈f,(bP m q%65536=0↔dJ m (cpl n q)%65536=0):=fun m hm=>by
  have hml:=hf m hm
  have h0:bP m q%65536=0↔∀i,i<16→bit (bP m q) i=false:=by
   constructor
   ·intro h i hi
    have:=mM.1 (show bP m q%65536=0%65536 by omega) i hi
    rw[this,zA]
   ·intro h
    have:bP m q%65536=0%65536:=mM.2 fun i hi=>by rw[h i hi,zA]
    omega
  rw[h0,dR]
  constructor
  ·intro h i hi
   have h16:=FK hi
   have:=h i h16
   rw[iy,hi,Bool.true_and] at this
   rw[jM h16,Aw hq]
   rw[jM h16] at hi this
   have hin:i<n:=Decidable.not_not.1 fun hc=>by
    have:2^n≤2^i:=Nat.pow_le_pow_right (by omega) (by omega)
    rw[Nat.testBit_lt_two_pow (by omega)] at hi;cases hi
   rw[this,decide_eq_true hin];rfl
  ·intro h i hi
   rw[iy]
   cases hb:bit m i with
   |false=>rfl
   |true=>
    have:=h i hb
    rw[jM hi,Aw hq] at this
    rw[jM hi]
    simp only[Bool.and_eq_true,Bool.not_eq_true'] at this
    rw[this.2];rfl
 exact⟨fun⟨m,h1,h2⟩=>⟨m,h1,decide_eq_true ((key m h1).1 (of_decide_eq_true h2))⟩,fun⟨m,h1,h2⟩=>⟨m,h1,decide_eq_true ((key m h1).2 (of_decide_eq_true h2))⟩⟩
end
section
open Go Go.Sy Go.Bp Go.Dg
attribute [local irreducible] AO AL AC OpT ACall Ends DGo aN Thn Blk Nxt
variable {n N M L k i m r a b w u v s q x y d j:Nat} {z up:Bool} {xs o B:List Nat}
def KL(z:Bool)(o:List Nat)(L:Nat)(i:{i:Nat // i≤L}):St:=
 ⟨45,0,[(3,gL (loL o i.val).length 0 1),(4,.isl z (cX o) L),(5,.val (.int .i64 i.val))],gM (loL o i.val).length 0 (cX (loL o i.val)) 30⟩
def pU(z:Bool)(o:List Nat)(L i:Nat)(l:List Nat)(k:{k:Nat // k≤L}):St:=
 ⟨45,0,[(3,gL l.length 0 1),(4,.isl z (cX o) L),(5,.val (.int .i64 i)),(6,.val (.bool (lsB o i k.val))),(7,.val (.int .i64 k.val))],gM l.length 0 (cX l) 30⟩
theorem OQ(hl:xs.length=n)(hn:n<2^40):ACall Tryz.prog 31 [.isl z (cX xs) n] [] 0 (.isl ((iN xs).length==0) (cX (iN xs)) (iN xs).length) []:=by
 have hso:=PLift.up (KJ (z:=z) hl hn)
 have hsl:=AQ (xs:=xs) n
 unfold iN
 rw[hl]
 generalize iT xs n=o at*
 obtain⟨L,hL⟩:∃L,o.length=L:=⟨_,rfl⟩
 rw[hL] at hso hsl⊢
 generalize(L==0)=zo at hso
 clear hl
 have zx1:=ae;have zx2:=ae;have zx3:=ae;have zx4:=ae;have zx5:=ae;have zx6:=ae;have zx7:=ae;have zx8:=ae
 refine az Tryz.func31 Tryz.ntmps31 rfl ?_
 have zx9:= @bg;have zx10:= @acZ;have zx11:= @acY;have zx12:= @bV;have zx13:= @bD;have zx14:=aD;have zx15:=aD;have zx16:=aD;repeat' (first|(refine ai ?_;refine au [9] ([9].length) (pU zo o L i l) (fun k=>L-k.val) (⟨0,Nat.zero_le _⟩) rfl (by unfold pU;exact nC) ?_;(rintro⟨k,hk⟩;rcases Nat.lt_or_eq_of_le hk with hkl|hkl<;>first|(have ek:L=k:=hkl.symm;subst ek;rcases Bool.eq_false_or_eq_true (lsB o i L) with zx2|zx2<;>first|(have zx4:=Dc (o:=o) (i:=i) (by rw[hL];exact zx2);rw[zx1,zx7] at zx4;(simp-dsimp only[pU];refine zqS ?_))|(have zx4:=De (o:=o) (i:=i) (by rw[hL];exact zx2);rw[zx1,zx7] at zx4;(simp-dsimp only[pU];refine zqS ?_)))|(rcases Decidable.em (i=k) with zx5|zx5<;>rcases Decidable.em (dJ (o.getD k default) (o.getD i default)%65536=0) with zx8|zx8<;>first|(have zx3:=Db (o:=o) (.inl zx5);have hik2:((i:Int)=k)=True:=eq_true (by omega);have zx5:=hik2;(simp-dsimp only[pU];refine zqS ?_))|(have zx3:=OG (o:=o) zx5 zx8;have hik2:((i:Int)=k)=False:=eq_false (by omega);have zx5:=hik2;(simp-dsimp only[pU];refine zqS ?_))|(have zx3:=Db (o:=o) (i:=i) (.inr zx8);have hik2:((i:Int)=k)=False:=eq_false (by omega);have zx5:=hik2;(simp-dsimp only[pU];refine zqS ?_)))))|(refine aj ?_;refine Nxt.mk [9] (⟨k+1,by omega⟩) rfl (by unfold pU;exact nC) zqO)|(refine ai ?_;refine au [0] ([0].length) (pU zo o L i l) (fun k=>L-k.val) (⟨0,Nat.zero_le _⟩) rfl (by unfold pU;exact nC) ?_;(rintro⟨k,hk⟩;rcases Nat.lt_or_eq_of_le hk with hkl|hkl<;>first|(have ek:L=k:=hkl.symm;subst ek;rcases Bool.eq_false_or_eq_true (lsB o i L) with zx2|zx2<;>first|(have zx4:=Dc (o:=o) (i:=i) (by rw[hL];exact zx2);rw[zx1] at zx4;(simp-dsimp only[pU];refine zqS ?_))|(have zx4:=De (o:=o) (i:=i) (by rw[hL];exact zx2);rw[zx1] at zx4;(simp-dsimp only[pU];refine zqS ?_)))|(rcases Decidable.em (i=k) with zx5|zx5<;>rcases Decidable.em (dJ (o.getD k default) (o.getD i default)%65536=0) with zx8|zx8<;>first|(have zx3:=Db (o:=o) (.inl zx5);have hik2:((i:Int)=k)=True:=eq_true (by omega);have zx5:=hik2;(simp-dsimp only[pU];refine zqS ?_))|(have zx3:=OG (o:=o) zx5 zx8;have hik2:((i:Int)=k)=False:=eq_false (by omega);have zx5:=hik2;(simp-dsimp only[pU];refine zqS ?_))|(have zx3:=Db (o:=o) (i:=i) (.inr zx8);have hik2:((i:Int)=k)=False:=eq_false (by omega);have zx5:=hik2;(simp-dsimp only[pU];refine zqS ?_)))))|(refine aj ?_;refine Nxt.mk [0] (⟨k+1,by omega⟩) rfl (by unfold pU;exact nC) zqO)|(refine ai ?_;refine au [9] ([9].length) (KL zo o L) (fun i=>L-i.val) (⟨0,by omega⟩) rfl (by unfold KL;exact nC) ?_;(rintro⟨i,hi⟩;have hln:=U2 (o:=o) (i:=i);dsimp only[KL];rcases Nat.lt_or_eq_of_le hi with hil|hil<;>first|(have ei:L=i:=hil.symm;subst ei;generalize zx1:loL o L=l at*;rcases Nat.eq_zero_or_pos l.length with h0|h0<;>(simp-dsimp(disch:=try exact vD) only[push_cast,simprocAttr,]))|(generalize zx1:loL o i=l at*;rcases Nat.eq_zero_or_pos l.length with h0|h0<;>first|(have zx7:=List.length_eq_zero_iff.1 h0;(simp-dsimp(disch:=try exact vD) only[push_cast,simprocAttr,zx7]))|(simp-dsimp(disch:=try exact vD) only[push_cast,simprocAttr,]))))|(refine aj ?_;refine Nxt.mk [9] (⟨i+1,by omega⟩) rfl (by unfold KL;exact nC) zqO)|(refine aj ?_;refine Nxt.mk [2] (⟨i+1,by omega⟩) rfl (by unfold KL;exact nC) zqO)|(refine aj ?_;refine Nxt.mk [0] (⟨i+1,by omega⟩) rfl (by unfold KL;exact nC) zqO)|refine zqN ?_|refine NN hso.down ?_|refine NN KA ?_|refine NM ?_|refine ZM ?_|refine ZN ?_|refine ZO ?_|refine NP ?_|(refine NQ ?_ ?_<;>intro hc<;>try exact zqM)|refine zqR 10 [⟨0,[],[23],[],[],0⟩,⟨1,[],[22],[],[],0⟩,⟨2,[0,1],[],[],[],0⟩,⟨3,[0,1,2],[],[],[],0⟩,⟨4,[0,1,2,3],[27,30,31,32,33],[],[],0⟩,⟨5,[0,1,2,3],[26,30,31,32,33],[],[],0⟩,⟨6,[0,1,2,3,4,5],[30,31,32,33],[],[],0⟩,⟨7,[0,1,2,3,4,5,6],[30,31,32,33],[],[],0⟩,⟨8,[0,1,2,3],[26,27,28,29,31],[],[],0⟩,⟨9,[0,1,2,3],[26,27,28,29,30],[],[],0⟩,⟨10,[0,1,2,3,8,9],[26,27,28,29],[],[],0⟩,⟨11,[0,1,2,3,8,9,10],[26,27,28,29],[],[],0⟩,⟨12,[0,1,2,3,4,5,6,7,8,9,10,11],[],[],[],0⟩,⟨13,[0,1,2,3,4,5,6,7,8,9,10,11,12],[],[],[],0⟩] ?_|refine zqD ?_|fail)
 all_goals first
  |(rw[List.length_eq_zero_iff.1 h0];(refine Ends.mk2 zqI [] ?_;simp-dsimp(disch:=try exact vD) only[push_cast,simprocAttr,Tryz.f31];try exact zqF);done)
  |(rw[zB h0];((refine Ends.frz 0 ?_;simp-dsimp(disch:=try exact vD) only[push_cast,simprocAttr,Tryz.f31,Dh];(repeat refine aI ?_);intro K hK;refine hK _ _ ?_;clear hK K);refine Ends.mk2 zqI [] ?_;simp-dsimp(disch:=try exact vD) only[push_cast,simprocAttr,Tryz.f31,Dh];try exact zqF);done)
  |skip
def kL(n:Nat)(B:List Nat):Nat→List Nat
 |0=>[]
 |j+1=>if bP (B.getD j default) (2^n-1)%65536=0 then kL n B j else kL n B j++[bP (B.getD j default) (2^n-1)]
theorem kL_0:kL n B 0=[]:=rfl
theorem aam(h:bP (B.getD j default) (2^n-1)%65536=0):kL n B (j+1)=kL n B j:=by
 show(if _ then _ else _)=_
 rw[if_pos h]
theorem aan(h:¬bP (B.getD j default) (2^n-1)%65536=0):kL n B (j+1)=kL n B j++[bP (B.getD j default) (2^n-1)]:=by
 show(if _ then _ else _)=_
 rw[if_neg h]
theorem FX:(kL n B j).length≤j:=by
 induction j with
 |zero=>exact Nat.le_refl _
 |succ j ih=>
  by_cases h:bP (B.getD j default) (2^n-1)%65536=0
  ·rw[aam h];omega
  ·rw[aan h,List.length_append];simp;omega
theorem ac1:∀y∈kL n B j,y<2^n∧¬y%65536=0:=by
 have hp:=Nat.two_pow_pos n
 induction j with
 |zero=>intro y hy;cases hy
 |succ j ih=>
  by_cases h:bP (B.getD j default) (2^n-1)%65536=0
  ·rw[aam h];exact ih
  ·rw[aan h]
   intro y hy
   rcases List.mem_append.1 hy with hy|hy
   ·exact ih y hy
   ·rw[List.mem_singleton.1 hy]
    have:bP (B.getD j default) (2^n-1)≤2^n-1:=Nat.and_le_right
    exact⟨by omega,h⟩
abbrev d8(N:Nat)(z:Bool)(B:List Nat)(L:Nat):List AV:=[.val (.int .u8 N),.isl z (cX B) L]
def FY(N:Nat)(z:Bool)(B:List Nat)(L n:Nat)(i:{i:Nat // i≤L}):St:=
 ⟨44,0,[(1,.pt 0 0),(5,.val (.int .i64 n)),(6,gL (kL n B i.val).length 1 1),(7,.val (.int .i64 i.val))],[(0,some (.cells (d8 N z B L) 24))]++gM (kL n B i.val).length 1 (cX (kL n B i.val)) 30⟩
theorem U8(hN:N<256)(hn:1+N%6=n)(hl:B.length=L)(hL:20<L)(hL2:L<2^47):ACall Tryz.prog 6 [.agg (d8 N z B L)] [] 0 (.tup [.isl true [] 0,.val (.int .i64 n),.val (.bool false)]) []:=by
 have zx1:(1:Int)+(N:Int)%6=(n:Int):=by omega
 have hn3:n≤6:=by omega
 unfold d8
 refine az Tryz.func6 Tryz.ntmps6 rfl ?_
 have zx2:=aD;have zx3:=aD;repeat' (first|refine zqN ?_|refine dx ?_|refine p8 ?_|refine p9 ?_|refine qa ?_|refine dz ?_|(refine dA ?_ ?_<;>intro hc<;>try exact zqM)|refine zqR 8 [⟨0,[],[28,31,32,33],[],[],0⟩,⟨1,[0],[28,31,32,33],[],[],0⟩,⟨2,[],[26,27,31,32,33],[],[],0⟩,⟨3,[0,1,2],[31,32,33],[],[],0⟩,⟨4,[0,1,2,3],[31,32,33],[],[],0⟩,⟨5,[],[26,27,28,29,30],[],[],0⟩,⟨6,[5],[26,27,28,29,30],[],[],0⟩,⟨7,[5,6],[26,27,28,29,30],[],[],0⟩,⟨8,[0,1,2,3,4,5,6,7],[],[],[],0⟩,⟨9,[0,1,2,3,4,5,6,7,8],[],[],[],0⟩] ?_|refine zqD ?_|fail)
 all_goals first
  |((refine Ends.mk2 zqI [] ?_;simp-dsimp(disch:=try exact vD) only[push_cast,simprocAttr,Tryz.f6];try exact zqF);done)
  |skip
theorem aao(hN:N<256)(hn:1+N%6=n)(hl:B.length=L)(hL:L≤20):ACall Tryz.prog 6 [.agg (d8 N z B L)] [] 0 (.tup [.isl ((iN (kL n B L)).length==0) (cX (iN (kL n B L))) (iN (kL n B L)).length,.val (.int .i64 n),.val (.bool true)]) []:=by
 have zx1:(1:Int)+(N:Int)%6=(n:Int):=by omega
 have hn3:n≤6:=by omega
 have hle:=PLift.up (OQ (z:=(kL n B L).length==0) (xs:=kL n B L) rfl (by have:=FX (n:=n) (B:=B) (j:=L);omega))
 generalize iN (kL n B L)=R at hle⊢
 have zx2:=ae;have zx3:=ae;have zx4:=ae;have zx5:=ae;have zx6:=ae
 unfold d8
 refine az Tryz.func6 Tryz.ntmps6 rfl ?_
 have zx7:= @bg;have zx8:= @bV;have zx9:= @bD;have zx10:= @kL_0;have zx11:= @Dh;have zx12:=aD;repeat' (first|((first|refine dP (r:=11) 1 ?_|refine dO (r:=11) 1 ?_);refine CS ?_;intro K hK;refine hK _ _ ?_;clear hK K)|(refine ai ?_;refine au [0,9] ([0,9].length) (FY N z B L n) (fun i=>L-i.val) (⟨0,by omega⟩) rfl (by unfold FY;exact bX) ?_;(rintro⟨i,hi⟩;have hln:=FX (n:=n) (B:=B) (j:=i);dsimp only[FY];rcases Nat.lt_or_eq_of_le hi with hil|hil<;>first|(have ei:L=i:=hil.symm;subst ei;generalize zx2:kL n B L=l at*;rcases Nat.eq_zero_or_pos l.length with h0|h0<;>first|(have zx4:=List.length_eq_zero_iff.1 h0;rw[zx4] at hle;(simp-dsimp(disch:=try exact vD) only[push_cast,simprocAttr,zx4]))|(rw[zB h0] at hle;(simp-dsimp(disch:=try exact vD) only[push_cast,simprocAttr,])))|(rcases Decidable.em (bP (B.getD i default) (2^n-1)%65536=0) with zx5|zx5<;>first|(have zx3:=aam zx5;generalize zx2:kL n B i=l at*;rcases Nat.eq_zero_or_pos l.length with h0|h0<;>first|(have zx4:=List.length_eq_zero_iff.1 h0;(simp-dsimp(disch:=try exact vD) only[push_cast,simprocAttr,zx4]))|(simp-dsimp(disch:=try exact vD) only[push_cast,simprocAttr,]))|(have zx3:=aan zx5;generalize zx2:kL n B i=l at*;rcases Nat.eq_zero_or_pos l.length with h0|h0<;>first|(have zx4:=List.length_eq_zero_iff.1 h0;rw[zx4,List.nil_append] at zx3;(simp-dsimp(disch:=try exact vD) only[push_cast,simprocAttr,zx4]))|(simp-dsimp(disch:=try exact vD) only[push_cast,simprocAttr,])))))|(refine aj ?_;refine Nxt.mk [0,9] (⟨i+1,by omega⟩) rfl (by unfold FY;exact bX) zqO)|(refine aj ?_;refine Nxt.mk [0,2] (⟨i+1,by omega⟩) rfl (by unfold FY;exact bX) zqO)|(refine aj ?_;refine Nxt.mk [0,3] (⟨i+1,by omega⟩) rfl (by unfold FY;exact bX) zqO)|(refine aj ?_;refine Nxt.mk [0,1] (⟨i+1,by omega⟩) rfl (by unfold FY;exact bX) zqO)|refine zqN ?_|refine bW hle.down ?_|refine jV ?_|refine Fu ?_|refine Fv ?_|refine Fw ?_|refine jW ?_|(refine jX ?_ ?_<;>intro hc<;>try exact zqM)|refine zqR 8 [⟨0,[],[28,31,32,33],[],[],0⟩,⟨1,[0],[28,31,32,33],[],[],0⟩,⟨2,[],[26,27,31,32,33],[],[],0⟩,⟨3,[0,1,2],[31,32,33],[],[],0⟩,⟨4,[0,1,2,3],[31,32,33],[],[],0⟩,⟨5,[],[26,27,28,29,30],[],[],0⟩,⟨6,[5],[26,27,28,29,30],[],[],0⟩,⟨7,[5,6],[26,27,28,29,30],[],[],0⟩,⟨8,[0,1,2,3,4,5,6,7],[],[],[],0⟩,⟨9,[0,1,2,3,4,5,6,7,8],[],[],[],0⟩] ?_|refine zqD ?_|fail)
 all_goals first
  |((refine Ends.mk2 zqI [] ?_;simp-dsimp(disch:=try exact vD) only[push_cast,simprocAttr,Tryz.f6];try exact zqF);done)
  |skip
end
section
open Go Go.Sy Go.Bp Go.Dg
attribute [local irreducible] AO AL AC OpT ACall Ends DGo aN Thn Blk Nxt
variable {n N M K L S k i m r a b j w u v s q y d c:Nat} {z:Bool} {x:Ex} {t:Nd} {e:Int} {f xs B:List Nat}
structure FOk(n:Nat)(f:List Nat):Prop where
 n6:n≤6
 nz:∀y∈f,¬y%65536=0
 few:f.length≤20
 min:sW n (eO f) f
theorem FOk.of(hn:n≤6)(hL:L≤20):FOk n (iN (kL n B L)):=by
 have hk:=ac1 (n:=n) (B:=B) (j:=L)
 have hl:=FX (n:=n) (B:=B) (j:=L)
 generalize kL n B L=xs at*
 have hp:2^n≤2^6:=Nat.pow_le_pow_right (by omega) hn
 have hx:∀y∈xs,y<2^n:=fun y hy=>(hk y hy).1
 have hsub:(iN xs).Sublist (iT xs xs.length):=by
  have:=Io (o:=iT xs xs.length) (Nat.le_refl _)
  rw[List.take_length] at this;exact this
 obtain⟨hm,_⟩:=Il (xs:=xs) (fun y hy=>by have:=hx y hy;omega) xs.length (Nat.le_refl _)
 refine⟨hn,fun y hy=>?_,?_,(uR hn hx).congr fun t ht=>(KI hn hx t ht).symm⟩
 ·have:=(hm y).1 (hsub.subset hy)
  rw[List.take_length] at this
  exact(hk y this).2
 ·have:=hsub.length_le
  have:=AQ (xs:=xs) xs.length
  omega
theorem FOk.fam(h:FOk n f):pR f=0:=Oy h.n6 h.min
theorem U9(hf:∀y∈f,y<2^n):∀j,j≤f.length→iH f j<2^n:=by
 intro j
 induction j with
 |zero=>intro _;exact Nat.two_pow_pos n
 |succ j ih=>
  intro hj
  rw[FT]
  exact Nat.or_lt_two_pow (ih (by omega)) (hf _ (iR (d:=default) (by omega)))
theorem FOk.sup(h:FOk n f):iH f f.length<2^n:=U9 h.min.lt _ (Nat.le_refl _)
theorem FOk.sub(h:FOk n f)(hm:m∈f)(hi:bit m i=true):bit (iH f f.length) i=true:=by
 obtain⟨k,hk,rfl⟩:=List.getElem_of_mem hm
 refine(Ow f.length).2 ⟨k,hk,?_⟩
 rw[gD hk];exact hi
def dF(f:List Nat):List Nat:=mB (dD f) (dW (iH f f.length)) (dW (iH f f.length)).length
theorem FOk.tdual(h:FOk n f):∃z',ACall Tryz.prog 10 [.isl z (cX f) f.length] [] 0 (.tup [.isl z' (cX (dF f)) (dF f).length,.val (.int .i64 0)]) []:=by
 have hp:2^n≤2^6:=Nat.pow_le_pow_right (by omega) h.n6
 have hs:=h.sup
 exact⟨_,OL (z:=z) (f:=f) rfl (by have:=h.few;omega) h.fam rfl (by omega) rfl rfl⟩
theorem FOk.hon(h:FOk n f):dD f (bP q (iH f f.length))=dD f q:=by
 unfold dD
 congr 1
 rw[Bool.eq_iff_iff,List.any_eq_true,List.any_eq_true]
 have key:∀m∈f,bP m (bP q (iH f f.length))%65536=bP m q%65536:=fun m hm=>mM.2 fun i hi=>by
  rw[iy,iy,iy]
  cases hb:bit m i with
  |false=>rfl
  |true=>rw[h.sub hm hb];simp
 exact⟨fun⟨m,h1,h2⟩=>⟨m,h1,by rw[key m h1] at h2;exact h2⟩,fun⟨m,h1,h2⟩=>⟨m,h1,by rw[key m h1];exact h2⟩⟩
theorem FOk.dmin(h:FOk n f):sW n (dD f) (dF f):=aai h.n6 h.sup fun t _=>h.hon
theorem FOk.cpl(h:FOk n f)(hq:q<2^n):dD f q= !eO f (cpl n q):=OM h.n6 h.min.lt hq
end
set_option maxHeartbeats 8000000
section
open Go Go.Sy Go.Bp Go.Dg
attribute [local irreducible] AO AL AC OpT ACall Ends DGo aN Thn Blk Nxt
variable {n N N' M G G' L s r r':Nat} {z zf zd zd' ze zm zt:Bool} {x x2:Ex} {f g B:List Nat} {F F':List Fo} {p:Nat→Bool}
structure WF(N:Nat)(B:List Nat)(L:Nat):Prop where
 n:N<256
 len:B.length=L
 lt:L<2^47
end
