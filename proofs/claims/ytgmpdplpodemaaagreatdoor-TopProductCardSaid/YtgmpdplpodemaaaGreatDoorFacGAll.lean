/- FacAll FacTopProduct Pr1 Pr2 Pr3 Pr4 Pr5. No condition. -/
import Derived.Test.YtgmpdplpodemaaaGreatDoorBuG8
import Derived.Test.YtgmpdplpodemaaaGreatDoorChecked
import Derived.JoinedOf
import Derived.KernelRfl
import Derived.Test.YtgmpdplpodemaaaGreatDoorCards
import Derived.SevenTiedAt
set_option linter.all false
set_option maxRecDepth 100000
namespace Go.Proofs.YtgmpdplpodemaaaGreatDoor
section
open Go
theorem ac2:laidOutB Tryz.prog=true:=by kernel_rfl
theorem ac3:mapsRowed Tryz.prog=true:=by kernel_rfl
theorem ac4:(Tryz.prog.stops==[])=true:=by kernel_rfl
theorem ac5:(Tryz.prog.stopKnobs==[])=true:=by kernel_rfl
theorem Vf:Tryz.prog.stopsHeard=true:=by kernel_rfl
theorem Vg:Tryz.prog.mayEnter=true:=by kernel_rfl
end
section
open Go
theorem Az:Rows.topProductRow.wf (OpenSpec.ofChange Rows.topProductSpec)=true:=by kernel_rfl
theorem AA:Tryz.f4.params.all (Tryz.prog.readableRec ·)=true:=by kernel_rfl
theorem AB:namedTie Tryz.prog Rows.topProductRow.named Rows.topProductSpec.vars=true:=by kernel_rfl
theorem AJ:(Rows.topProductRow.stops==[])=true:=by kernel_rfl
theorem AP:(Rows.topProductRow.knobs==[])=true:=by kernel_rfl
theorem AQ:(Rows.topProductRow.inPlace==Tryz.prog.inPlace 4)=true:=by kernel_rfl
theorem xW:(Rows.topProductRow.unfollowed==Tryz.prog.unfollowed 4)=true:=by kernel_rfl
theorem xX:(Rows.topProductRow.recurses==Tryz.prog.recurses 4)=true:=by kernel_rfl
theorem xY:(Rows.topProductRow.named==Tryz.prog.varsNamed 4)=true:=by kernel_rfl
theorem xZ:(Rows.topProductRow.maps==(Tryz.f4.params.toList++Rows.topProductSpec.plain.varTypes Tryz.prog).any (Tryz.prog.mapsRec ·))=true:=by kernel_rfl
theorem x8:(Rows.topProductRow.ifaces==(Tryz.f4.params.toList++Rows.topProductSpec.plain.varTypes Tryz.prog).any (Tryz.prog.ifacesRec ·))=true:=by kernel_rfl
theorem x9:(Rows.topProductRow.mapsOut==Tryz.prog.mapsAmong Tryz.f4.resultTypes.toList)=true:=by kernel_rfl
theorem yc:(Rows.topProductRow.loops==(Tryz.f4.params.toList++Rows.topProductSpec.plain.varTypes Tryz.prog).any (Tryz.prog.loopsFrom ·))=true:=by kernel_rfl
theorem yf:(Rows.topProductRow.wideKeys==(Tryz.f4.params.toList++Rows.topProductSpec.plain.varTypes Tryz.prog++Tryz.f4.resultTypes.toList).any (Tryz.prog.wideKeysFrom ·))=true:=by kernel_rfl
theorem yg:Rows.topProductSpec.vars.all (Tryz.prog.varReadable ·)=true:=by kernel_rfl
theorem yh:Tryz.f4.resultTypes.all (λt=>Tryz.prog.readableRec t&&decide (t<Tryz.prog.types.size))=true:=by kernel_rfl
theorem yj:(Rows.topProductRow.ifacesOut==Tryz.f4.resultTypes.toList.any (Tryz.prog.ifacesRec ·))=true:=by kernel_rfl
theorem ym:(Rows.topProductRow.loopsOut==Tryz.f4.resultTypes.toList.any (Tryz.prog.loopsFrom ·))=true:=by kernel_rfl
theorem yn:(Rows.topProductRow.plainKeys==Tryz.prog.plainKeys)=true:=by kernel_rfl
theorem yo:Rows.topProductRow.shortTexts.isNone=true:=by kernel_rfl
theorem yt:(Rows.topProductRow.lifted==Tryz.prog.liftsFinal)=true:=by kernel_rfl
theorem yu:(Tryz.prog.make==some Rows.topProductRow.make)=true:=by kernel_rfl
theorem yw:(Rows.topProductRow.kinds==(if Rows.topProductRow.domain.isEmpty then [] else Tryz.f4.params.toList.map λt=>match Tryz.prog.underlying t with|some (.int k)=>some k|_=>none))=true:=by kernel_rfl
theorem yx:(Rows.topProductRow.pinned==Rows.topProductRow.pinnedBy)=true:=by kernel_rfl
theorem yz:(Rows.topProductRow.veiled==(Tryz.f4.params.toList++Rows.topProductSpec.plain.varTypes Tryz.prog++Tryz.f4.resultTypes.toList).any (Tryz.prog.veiledRec ·))=true:=by kernel_rfl
theorem yA:Rows.topProductRow.veiledFits Tryz.prog Tryz.f4.params.toList (Tryz.f4.params.toList++Rows.topProductSpec.plain.varTypes Tryz.prog++Tryz.f4.resultTypes.toList)=true:=by kernel_rfl
theorem yB:joinedFacts Tryz.prog 4 Tryz.f4 Rows.topProductSpec Rows.topProductRow=true:=by
 simp only[joinedFacts,Bool.and_eq_true]
 exact⟨⟨⟨⟨⟨⟨⟨⟨⟨⟨⟨⟨⟨⟨⟨⟨⟨⟨⟨⟨⟨⟨⟨⟨⟨⟨⟨⟨⟨⟨⟨Az,ac2⟩,ac3⟩,AA⟩,AB⟩,AJ⟩,ac4⟩,AP⟩,ac5⟩,AQ⟩,xW⟩,xX⟩,xY⟩,xZ⟩,x8⟩,x9⟩,yc⟩,yf⟩,yg⟩,yh⟩,yj⟩,ym⟩,yn⟩,yo⟩,Vf⟩,Vg⟩,yt⟩,yu⟩,yw⟩,yx⟩,yz⟩,yA⟩
theorem topProduct_nam:Tryz.pinned.checked.prog.funcNamed Rows.topProductRow.func=some 4:=by kernel_rfl
theorem yC:Tryz.f4.isInstance Tryz.pinned.checked.prog Rows.topProductRow.origin Rows.topProductRow.targs:=of_decide_eq_true (by kernel_rfl)
theorem yD:Tryz.f4.isWrapper Tryz.pinned.checked.prog Rows.topProductRow.wrapper Rows.topProductRow.mainSum:=by unfold Func.isWrapper;first|(rw[if_pos (by decide+kernel)];kernel_rfl)|(rw[if_neg (by decide+kernel)];exact⟨rfl,rfl⟩)
theorem yE:Rows.topProductRow.wfByText (OpenSpec.ofChange Rows.topProductSpec)=true:=by kernel_rfl
theorem yF:Tryz.pinned.checked.prog.mainIs=some (true, "41dbead0fac631f991a28b589f143705b686a18ad42e4376e787a36b5b1608e0".toList):=by kernel_rfl
theorem yG:false=Tryz.pinned.checked.prog.looks []:=by kernel_rfl
theorem yH:([45,45].all λu=> !Tryz.prog.wantsStandIn u)=true:=by kernel_rfl
theorem yI:false=Rows.topProductRow.goesBy Tryz.pinned.checked.prog:=by kernel_rfl
end
set_option maxHeartbeats 4000000
set_option maxRecDepth 20000
section
open Go Go.Sy Go.Bp Go.Dg
attribute [local irreducible] AO AL AC OpT ACall Ends DGo aK Thn Blk Nxt
variable {n m i j k s x q:Nat} {z z':Bool} {f g l A:List Nat}
def c9I(s:Nat)(i:{i:Nat // i<=16}):St:=⟨17,0,[(0,.val (.int .u16 (U s))),(3,.val (.int .i64 (aF s i.val))),(4,.val (.int .i64 i.val))],[]⟩
theorem BN:ACall Tryz.prog 121 [.val (.int .u16 (U s))] [] 0 (.val (.int .i64 (aF s 16))) []:=by
 have zx3:aF s 0=0:=II
 have zx1:=ae;have zx2:=ae
 refine az Tryz.func121 Tryz.ntmps121 rfl ?_
 repeat' (first|(refine ah ?_;refine ak [] ([].length) (c9I s) (λi=>16-i.val) (⟨0,omgz⟩) rfl (by unfold c9I;exact ed) ?_;(rintro⟨i,hi⟩;have hle:=ni (s:=s) (j:=i);rcases Nat.lt_or_eq_of_le hi with hil|hil<;>first|(subst hil;(simp-dsimp only[c9I];refine zqS ?_))|(rcases Bool.eq_false_or_eq_true (bit s i) with zx1|zx1<;>first|(have zx2:aF s (i+1)=aF s i+1:=IJ (by rw[<-nk omgz];exact zx1);(simp-dsimp only[c9I];refine zqS ?_))|(have zx2:aF s (i+1)=aF s i:=IK (by rw[<-nk omgz];exact zx1);(simp-dsimp only[c9I];refine zqS ?_)))))|(refine aj ?_;refine Nxt.mk [] (⟨i+1,omgz⟩) rfl (by unfold c9I;exact ed) zqO)|refine zqN ?_|refine dm ?_|refine dn ?_|(refine dw ?_ ?_<;>intro hc<;>try exact zqM))
 all_goals exact aB []
def u9I(z:Bool)(f:List Nat)(n:Nat)(i:{i:Nat // i<=n}):St:=⟨18,0,[(0,.isl z (cX f) n),(3,.val (.int .u16 (U (gW f i.val)))),(4,.val (.int .i64 i.val))],[]⟩
theorem RH(hl:f.length=n)(hn:n<=10000):ACall Tryz.prog 83 [.isl z (cX f) n] [] 0 (.val (.int .u16 (U (gW f n)))) []:=by
 have zx1:gW f 0=0:=rfl
 have hs:=λ(i:Nat)=>zO (xs:=f) (j:=i)
 refine az Tryz.func83 Tryz.ntmps83 rfl ?_
 have zx2:= @bC;have zx3:=aA;repeat' (first|(refine ah ?_;refine ak [] ([].length) (u9I z f n) (λi=>n-i.val) (⟨0,omgz⟩) rfl (by unfold u9I;exact ed) ?_;(rintro⟨i,hi⟩;rcases Nat.lt_or_eq_of_le hi with hil|hil<;>first|(subst hil;(simp-dsimp only[u9I];refine zqS ?_))|(simp-dsimp only[u9I];refine zqS ?_)))|(refine aj ?_;refine Nxt.mk [] (⟨i+1,omgz⟩) rfl (by unfold u9I;have zx3:= @hs;exact ed) zqO)|refine zqN ?_|refine dm ?_|refine dn ?_|(refine dw ?_ ?_<;>intro hc<;>try exact zqM))
 all_goals exact aB []
def a9I(z:Bool)(f:List Nat)(n s:Nat)(i:{i:Nat // i<=n/\∀k,k<i->¬jE (f.getD k default) s%65536=0}):St:=⟨19,0,[(0,.isl z (cX f) n),(1,.val (.int .u16 (U s))),(5,.val (.int .i64 i.val))],[]⟩
theorem KI(hl:f.length=n)(hn:n<=100000):ACall Tryz.prog 84 [.isl z (cX f) n,.val (.int .u16 (U s))] [] 0 (.val (.bool (fH f s))) []:=by
 have zx1:=ae
 refine az Tryz.func84 Tryz.ntmps84 rfl ?_
 have zx2:= @bC;have zx3:=aA;repeat' (first|(refine ah ?_;refine ak [] ([].length) (a9I z f n s) (λi=>n-i.val) (⟨0,omgz,λk hk=>absurd hk omgz⟩) rfl (by unfold a9I;exact ed) ?_;(rintro⟨i,hi,hib⟩;rcases Nat.lt_or_eq_of_le hi with hil|hil<;>first|(have eQ:=hil.symm;subst eQ;(simp-dsimp only[a9I];refine zqS ?_))|(rcases Decidable.em (jE (f.getD i default) s%65536=0) with zx1|zx1<;>(simp-dsimp only[a9I];refine zqS ?_))))|(refine aj ?_;refine Nxt.mk [] (⟨i+1,omgz,λk hk=>by rcases Nat.lt_or_eq_of_le (Nat.le_of_lt_succ hk) with h|h;exact hib k h;rw[h];exact zx1⟩) rfl (by unfold a9I;exact ed) zqO)|refine zqN ?_|refine dm ?_|refine dn ?_|(refine dw ?_ ?_<;>intro hc<;>try exact zqM))
 all_goals first
  |(have er:fH f s=true:=(by unfold fH;rw[List.any_eq_true];exact⟨f.getD i default,bq omgz,decide_eq_true zx1⟩);exact fu [] @er;done)
  |(have er:fH f s=false:=(by unfold fH;rw[List.any_eq_false];intro y hy;obtain⟨k,hk,rfl⟩:=List.getElem_of_mem hy;have:=hib k omgz;rw[List.getD_eq_getElem?_getD,List.getElem?_eq_getElem hk] at this;simpa using this);exact fu [] @er;done)
  |skip
def p9(s k x:Nat):Bool:=decide (jE x s%65536=0)&&decide (aF x 16=k)
def s9J(A:List Nat)(s k:Nat):Nat->List Nat
 |0=>A
 |x+1=>if p9 s k x=true then s9J A s k x++[x] else s9J A s k x
def s9A(s:Nat):Nat->List Nat
 |0=>[]
 |k+1=>s9J (s9A s k) s k (s+1)
theorem ajn:s9J A s k 0=A:=rfl
theorem RI(h:p9 s k x=true):s9J A s k (x+1)=s9J A s k x++[x]:=if_pos h
theorem ajo(h:p9 s k x=false):s9J A s k (x+1)=s9J A s k x:=if_neg (by rw[h];decide)
theorem RJ:(s9J A s k x).length<=A.length+x:=by
 induction x with
 |zero=>exact Nat.le_refl _
 |succ x ih=>
  unfold s9J
  split
  ·rw[List.length_append];simp only[List.length_singleton];omega
  ·omega
theorem afV:(s9A s k).length<=k*(s+1):=by
 induction k with
 |zero=>exact Nat.zero_le _
 |succ k ih=>
  have:=RJ (A:=s9A s k) (s:=s) (k:=k) (x:=s+1)
  rw[s9A,Nat.succ_mul];omega
def s9I(s:Nat)(k:{k:Nat // k<=aF s 16+1}):St:=
 ⟨36,0,[(0,.val (.int .u16 (U s))),(3,fw (s9A s k.val).length 0 1),(4,.val (.int .i64 k.val))],fA (s9A s k.val).length 0 (cX (s9A s k.val)) 30⟩
def s9K(s k:Nat)(B:List Nat)(x:{x:Nat // x<=s+1}):St:=
 ⟨36,0,[(0,.val (.int .u16 (U s))),(3,fw (s9J B s k x.val).length 0 1),(4,.val (.int .i64 k)),(5,.val (.int .i64 x.val))],fA (s9J B s k x.val).length 0 (cX (s9J B s k x.val)) 30⟩
theorem s9_z(hx:x<65536)(h:(s9J A s k x).length=0)(hp:p9 s k x=true):[AV.val (.int .u16 (x:Int))]=cX (s9J A s k (x+1)):=by
 rw[<-Bb hx,RI hp,List.length_eq_zero_iff.1 h];rfl
theorem s9_s(hx:x<65536)(hp:p9 s k x=true):cX (s9J A s k x)++[AV.val (.int .u16 (x:Int))]=cX (s9J A s k (x+1)):=by rw[<-Bb hx,RI hp,<-bR]
theorem s9_l(hp:p9 s k x=true):(s9J A s k (x+1)).length=(s9J A s k x).length+1:=by rw[RI hp];simp
def s9(s:Nat):List Nat:=s9A s (aF s 16+1)
theorem I4(hx:x<65536):ACall Tryz.prog 121 [.val (.int .u16 (x:Int))] [] 0 (.val (.int .i64 (aF x 16))) []:=by
 have:=BN (s:=x);rwa [Bb hx] at this
theorem uN_n(hx:x<65536):uN (x:Int)=x:=by unfold uN;omega
theorem tk9{l:List Nat}:(cX l).take l.length=cX l:=List.take_of_length_le (by rw[zo];exact Nat.le_refl _)
theorem RN(hs:s<64):ACall Tryz.prog 82 [.val (.int .u16 (U s))] [] 0 (.isl ((s9 s).length==0) (cX (s9 s)) (s9 s).length) []:=by
 have hU:U s=(s:Int):=Bb omgz
 have hm16:aF s 16<=16:=ni
 have hle:=λ(k:Nat)=>afV (s:=s) (k:=k)
 have zx4:s9A s 0=[]:=rfl
 have zx1:=ae;have zx2:=ae;have hst:=ae;have hln:=ae;have zx6:=ae;have zx7:=ae;have zx3:=ae
 unfold s9
 refine az Tryz.func82 Tryz.ntmps82 rfl ?_
 have zx5:= @ajn;have zx8:= @List.length_nil.{0};have zx9:=aA;repeat' (first|(refine ah ?_;refine ak [0] ([0].length) (s9K s k (s9A s k)) (λx=>s+1-x.val) (⟨0,omgz⟩) rfl (by unfold s9K;exact aO) ?_;(rintro⟨x,hx⟩;have hjl:=RJ (A:=s9A s k) (s:=s) (k:=k) (x:=x);have hkl:=hle k;have hkm:k*(s+1)<=16*64:=Nat.mul_le_mul omgz omgz;have hx6:x<65536:=omgz;have hcx:=PLift.up (I4 hx6);have zx3:=uN_n hx6;rcases Nat.lt_or_eq_of_le hx with hxl|hxl<;>first|(subst hxl;have zx6:s9J (s9A s k) s k (s+1)=s9A s (k+1):=rfl;rcases Nat.eq_zero_or_pos (s9A s (k+1)).length with zx7|zx7<;>(simp-dsimp only[s9K];refine zqS ?_))|(rcases Decidable.em (jE x s%65536=0) with zx1|zx1<;>rcases Decidable.em (aF x 16=k) with zx2|zx2<;>first|(have hp:p9 s k x=true:=(by unfold p9;rw[decide_eq_true zx1,decide_eq_true zx2];rfl);have hln:=s9_l (A:=s9A s k) hp;rcases Nat.eq_zero_or_pos (s9J (s9A s k) s k x).length with zx7|zx7<;>first|(have hst:=s9_z hx6 zx7 hp;(simp-dsimp only[s9K];refine zqS ?_))|(have hst:=s9_s (A:=s9A s k) hx6 hp;(simp-dsimp only[s9K];refine zqS ?_)))|(have hp:p9 s k x=false:=(by unfold p9;simp[zx1,zx2]);have hst:=ajo (A:=s9A s k) hp;rcases Nat.eq_zero_or_pos (s9J (s9A s k) s k x).length with zx7|zx7<;>(simp-dsimp only[s9K];refine zqS ?_)))))|(refine aj ?_;refine Nxt.mk [9] (⟨x+1,omgz⟩) rfl (by unfold s9K;have zx9:= @hst;have zx10:= @hln;have zx11:=aA;have zx12:=aA;exact cO) zqO)|(refine aj ?_;refine Nxt.mk [0] (⟨x+1,omgz⟩) rfl (by unfold s9K;have zx9:= @hst;have zx10:= @hln;have zx11:=aA;have zx12:=aA;exact cO) zqO)|(refine aj ?_;refine Nxt.mk [1] (⟨x+1,omgz⟩) rfl (by unfold s9K;have zx9:= @hst;have zx10:= @hln;have zx11:=aA;have zx12:=aA;exact cO) zqO)|(refine aj ?_;refine Nxt.mk [2] (⟨x+1,omgz⟩) rfl (by unfold s9K;have zx9:= @hst;have zx10:= @hln;have zx11:=aA;have zx12:=aA;exact cO) zqO)|(refine ah ?_;refine ak [9] ([9].length) (s9I s) (λk=>aF s 16+1-k.val) (⟨0,omgz⟩) rfl (by unfold s9I;exact aO) ?_;(rintro⟨k,hk⟩;have hkl:=hle k;rcases Nat.lt_or_eq_of_le hk with hkl|hkl<;>rcases Nat.eq_zero_or_pos (s9A s k).length with zx7|zx7<;>first|(have hk16:k<=aF s 16:=omgz;(simp-dsimp only[s9I];refine zqS ?_))|(subst hkl;(simp-dsimp only[s9I];refine zqS ?_))))|(refine aj ?_;refine Nxt.mk [9] (⟨k+1,omgz⟩) rfl (by unfold s9I;exact aO) zqO)|(refine aj ?_;refine Nxt.mk [0] (⟨k+1,omgz⟩) rfl (by unfold s9I;exact aO) zqO)|refine zqN ?_|refine fC BN ?_|refine fC hcx.down ?_|refine mh ?_|refine kg ?_|refine ko ?_|refine kr ?_|refine mo ?_|(refine mq ?_ ?_<;>intro hc<;>try exact zqM))
 all_goals first
  |(rw[zx7,List.length_eq_zero_iff.1 zx7];exact aB [];done)
  |(rw[wT zx7];((refine Ends.frz 0 ?_;simp-dsimp(disch:=try exact vD) only[push_cast,simprocAttr,Tryz.f82,tk9];(repeat refine aI ?_);intro K hK;refine hK _ _ ?_;clear hK K);refine Ends.mk2 zqI [] ?_;simp-dsimp(disch:=try exact vD) only[push_cast,simprocAttr,Tryz.f82,tk9];try exact zqF);done)
  |skip
end
section
open Go Go.Sy Go.Bp Go.Dg
attribute [local irreducible] AO AL AC OpT ACall Ends DGo aK Thn Blk Nxt
variable {n m i j k s x q:Nat} {z zl:Bool} {f g l O:List Nat}
def m9J(O f:List Nat)(x:Nat):Nat->List Nat
 |0=>O
 |k+1=>if f.getD k default%65536=x%65536/\fH (m9J O f x k) x=false then m9J O f x k++[x] else m9J O f x k
def m9I(f l:List Nat):Nat->List Nat
 |0=>[]
 |i+1=>m9J (m9I f l i) f (l.getD i default) f.length
theorem ajp:m9J O f x 0=O:=rfl
theorem RO(h:f.getD k default%65536=x%65536)(h2:fH (m9J O f x k) x=false):m9J O f x (k+1)=m9J O f x k++[x]:=if_pos ⟨h,h2⟩
theorem ajq(h:¬f.getD k default%65536=x%65536):m9J O f x (k+1)=m9J O f x k:=if_neg (λe=>h e.1)
theorem ajr(h:fH (m9J O f x k) x=true):m9J O f x (k+1)=m9J O f x k:=if_neg (λe=>by rw[h] at e;cases e.2)
theorem RP:(m9J O f x k).length<=O.length+k:=by
 induction k with
 |zero=>exact Nat.le_refl _
 |succ k ih=>
  unfold m9J
  split
  ·rw[List.length_append];simp only[List.length_singleton];omega
  ·omega
theorem afW:(m9I f l i).length<=i*f.length:=by
 induction i with
 |zero=>exact Nat.zero_le _
 |succ i ih=>
  have:=RP (O:=m9I f l i) (f:=f) (x:=l.getD i default) (k:=f.length)
  rw[m9I,Nat.succ_mul];omega
theorem m9_z(h:(m9J O f x k).length=0)(hp:f.getD k default%65536=x%65536):[AV.val (.int .u16 (U x))]=cX (m9J O f x (k+1))/\(m9J O f x (k+1)).length=1:=by
 have e:=List.length_eq_zero_iff.1 h
 rw[RO hp (by rw[e];rfl),e];exact⟨rfl,rfl⟩
theorem m9_s(hp:f.getD k default%65536=x%65536)(h2:fH (m9J O f x k) x=false):cX (m9J O f x k)++[AV.val (.int .u16 (U x))]=cX (m9J O f x (k+1)):=by rw[RO hp h2,<-bR]
theorem m9_l(hp:f.getD k default%65536=x%65536)(h2:fH (m9J O f x k) x=false):(m9J O f x (k+1)).length=(m9J O f x k).length+1:=by rw[RO hp h2];simp
def m9X(z:Bool)(f:List Nat)(n:Nat)(zl:Bool)(l:List Nat)(m:Nat)(i:{i:Nat // i<=m}):St:=
 ⟨48,0,[(0,.isl z (cX f) n),(3,fw (m9I f l i.val).length 0 1),(4,.isl zl (cX l) m),(5,.val (.int .i64 i.val))],fA (m9I f l i.val).length 0 (cX (m9I f l i.val)) 30⟩
def m9Y(z:Bool)(f:List Nat)(n:Nat)(zl:Bool)(l:List Nat)(m i:Nat)(O:List Nat)(x:Nat)(k:{k:Nat // k<=n}):St:=
 ⟨48,0,[(0,.isl z (cX f) n),(3,fw (m9J O f x k.val).length 0 1),(4,.isl zl (cX l) m),(5,.val (.int .i64 i)),(6,.val (.int .i64 k.val))],fA (m9J O f x k.val).length 0 (cX (m9J O f x k.val)) 30⟩
theorem YK(hf:f.length=n)(hn:n<=20)(hlm:l.length=m)(hm:m<=1100)(h1:ACall Tryz.prog 83 [.isl z (cX f) n] [] 0 (.val (.int .u16 (U s))) [])(h2:ACall Tryz.prog 82 [.val (.int .u16 (U s))] [] 0 (.isl zl (cX l) m) []):
 ACall Tryz.prog 44 [.isl z (cX f) n] [] 0 (.isl ((m9I f l m).length==0) (cX (m9I f l m)) (m9I f l m).length) []:=by
 have h1:=PLift.up h1;have h2:=PLift.up h2
 have hle:=λ(i:Nat)=>afW (f:=f) (l:=l) (i:=i)
 rw[hf] at hle
 have zx5:m9I f l 0=[]:=rfl
 have hix:∀i,m9J (m9I f l i) f (l.getD i default) n=m9I f l (i+1):=λi=>by rw[<-hf];rfl
 have zx3:=ae;have zx4:=ae;have hst:=ae;have hln:=ae;have zx7:=ae;have zx8:=ae
 refine az Tryz.func44 Tryz.ntmps44 rfl ?_
 have zx1:= @hf;have zx2:= @hlm;have zx6:= @ajp;have zx9:= @List.length_nil.{0};have zx10:= @bC;have zx11:=aA;have zx12:=aA;repeat' (first|(refine ah ?_;refine ak [0] ([0].length) (m9Y z f n zl l m i (m9I f l i) (l.getD i default)) (λk=>n-k.val) (⟨0,omgz⟩) rfl (by unfold m9Y;exact cO) ?_;(rintro⟨k,hk⟩;have hjl:=RP (O:=m9I f l i) (f:=f) (x:=l.getD i default) (k:=k);have hkl:=hle i;have hkm:i*n<=1100*20:=Nat.mul_le_mul omgz omgz;rcases Nat.lt_or_eq_of_le hk with hkl|hkl<;>first|(subst hkl;have zx7:=hix i;rcases Nat.eq_zero_or_pos (m9I f l (i+1)).length with zx8|zx8<;>(simp-dsimp only[m9Y];refine zqS ?_))|(rcases Nat.eq_zero_or_pos (m9J (m9I f l i) f (l.getD i default) k).length with zx8|zx8<;>rcases Decidable.em (f.getD k default%65536=l.getD i default%65536) with zx3|zx3<;>first|(have hst:=ajq (O:=m9I f l i) zx3;(simp-dsimp only[m9Y];refine zqS ?_))|(have hst:=(m9_z zx8 zx3).1;have hln:=(m9_z zx8 zx3).2;have zx4:fH [] (l.getD i default)=false:=rfl;(simp-dsimp only[m9Y];refine zqS ?_))|(rcases Bool.eq_false_or_eq_true (fH (m9J (m9I f l i) f (l.getD i default) k) (l.getD i default)) with zx4|zx4<;>first|(have hst:=ajr zx4;(simp-dsimp only[m9Y];refine zqS ?_))|(have hst:=m9_s zx3 zx4;have hln:=m9_l zx3 zx4;(simp-dsimp only[m9Y];refine zqS ?_))))))|(refine aj ?_;refine Nxt.mk [0] (⟨k+1,omgz⟩) rfl (by unfold m9Y;have zx11:= @hst;have zx12:= @hln;exact cO) zqO)|(refine aj ?_;refine Nxt.mk [1] (⟨k+1,omgz⟩) rfl (by unfold m9Y;have zx11:= @hst;have zx12:= @hln;exact cO) zqO)|(refine aj ?_;refine Nxt.mk [2] (⟨k+1,omgz⟩) rfl (by unfold m9Y;have zx11:= @hst;have zx12:= @hln;exact cO) zqO)|(refine ah ?_;refine ak [0] ([0].length) (m9X z f n zl l m) (λi=>m-i.val) (⟨0,omgz⟩) rfl (by unfold m9X;exact cO) ?_;(rintro⟨i,hi⟩;have hkl:=hle i;rcases Nat.lt_or_eq_of_le hi with hil|hil<;>rcases Nat.eq_zero_or_pos (m9I f l i).length with zx8|zx8<;>first|(subst hil;(simp-dsimp only[m9X];refine zqS ?_))|(simp-dsimp only[m9X];refine zqS ?_)))|(refine aj ?_;refine Nxt.mk [0] (⟨i+1,omgz⟩) rfl (by unfold m9X;exact cO) zqO)|refine zqN ?_|refine jq h1.down ?_|refine jq h2.down ?_|((first|refine ay rfl (λK hK=>?_)|refine au (λK hK=>?_)|refine aD (λK hK=>?_));(first|(refine ai (f:=84) [] 0 true ?_;refine Fe ?_;refine⟨_,_,KI (f:=m9J (m9I f l i) f (l.getD i default) k) rfl omgz,?_⟩;refine o5 ?_;apply hK;clear hK K)|(refine ai (f:=84) [] 0 true ?_;refine Fe ?_;refine⟨_,_,KI (f:=[]) rfl omgz,?_⟩;refine o5 ?_;apply hK;clear hK K)))|refine nQ ?_|refine sK ?_|refine sM ?_|refine sO ?_|refine nR ?_|(refine nS ?_ ?_<;>intro hc<;>try exact zqM)|refine zqR [] ?_|refine zqD ?_|fail)
 all_goals first
  |(rw[zx8,List.length_eq_zero_iff.1 zx8];exact aB [];done)
  |(rw[wT zx8];((refine Ends.frz 0 ?_;simp-dsimp(disch:=try exact vD) only[push_cast,simprocAttr,Tryz.f44,tk9];(repeat refine aI ?_);intro K hK;refine hK _ _ ?_;clear hK K);refine Ends.mk2 zqI [] ?_;simp-dsimp(disch:=try exact vD) only[push_cast,simprocAttr,Tryz.f44,tk9];try exact zqF);done)
  |skip
end
section
open Go Go.Sy Go.Bp Go.Dg
attribute [local irreducible] AO AL AC OpT ACall Ends DGo aK Thn Blk Nxt
variable {n m i j k s x q v:Nat} {z z1 z2:Bool} {f g F G:List Nat} {l S:List Int} {a b:Int}
theorem RS(a b:Int):IntKind.wrap .u8 ((BitVec.ofInt (IntKind.bits .u8) a&&&BitVec.ofInt (IntKind.bits .u8) b).toNat:Int)=(((a%256).toNat&&&(b%256).toNat:Nat):Int):=by
 have e:∀c:Int,(BitVec.ofInt 8 c).toNat=(c%256).toNat:=λc=>by simp[BitVec.toNat_ofInt]
 show IntKind.wrap .u8 ((BitVec.ofInt 8 a&&&BitVec.ofInt 8 b).toNat:Int)=_
 rw[BitVec.toNat_and,e,e]
 have h:(a%256).toNat&&&(b%256).toNat<=(a%256).toNat:=Nat.and_le_left
 have hw:IntKind.wrap .u8 (((a%256).toNat&&&(b%256).toNat:Nat):Int)=(((a%256).toNat&&&(b%256).toNat:Nat):Int)%256:=by simp[IntKind.wrap,IntKind.bits,IntKind.signed]
 rw[hw];omega
theorem RU(a:Int):IntKind.wrap .u8 ((BitVec.ofInt (IntKind.bits .u8) a&&&BitVec.ofInt (IntKind.bits .u8) 63).toNat:Int)=a%64:=by
 rw[RS,show((63:Int)%256).toNat=2^6-1 from rfl,Nat.and_two_pow_sub_one_eq_mod];omega
theorem YL(a:Int):IntKind.wrap .u8 ((BitVec.ofInt (IntKind.bits .u8) a&&&BitVec.ofInt (IntKind.bits .u8) 7).toNat:Int)=a%8:=by
 rw[RS,show((7:Int)%256).toNat=2^3-1 from rfl,Nat.and_two_pow_sub_one_eq_mod];omega
theorem w8_8:IntKind.wrap .u8 (1*2^min 3 (IntKind.bits .u8))=8:=by decide
theorem w8_7:IntKind.wrap .u8 7=7:=by decide
def mdL(l:List Int):Nat->List Nat
 |0=>[]
 |i+1=>mdL l i++[(l.getD i default%64).toNat]
theorem Da:(mdL l i).length=i:=by
 induction i with
 |zero=>rfl
 |succ i ih=>rw[mdL,List.length_append,ih];rfl
theorem acm(h:i=0):mdL l i=[]:=by subst h;rfl
theorem acn(hv:l.getD i default%64=(v:Int))(h:v<64):cX (mdL l i)++[AV.val (.int .u16 (v:Int))]=cX (mdL l (i+1)):=by
 rw[mdL,hv,Int.toNat_natCast,<-Bb (show v<65536 by omega),<-bR]
theorem ajs(h0:i=0)(hv:l.getD i default%64=(v:Int))(h:v<64):[AV.val (.int .u16 (v:Int))]=cX (mdL l (i+1)):=by
 rw[<-acn hv h,acm h0];rfl
theorem afX:(mdL l i).take i=mdL l i:=List.take_of_length_le (by rw[Da];exact Nat.le_refl _)
def nD(l:List Int):Nat:=min l.length 20
theorem RX:nD l<=20/\nD l<=l.length/\(nD l=l.length\/nD l=20):=by unfold nD;omega
def mdI(z:Bool)(l:List Int)(n:Nat)(i:{i:Nat // i<=nD l}):St:=
 ⟨26,0,[(0,.isl z (cI .u8 l) n),(3,fw i.val 0 1),(4,.val (.int .i64 i.val))],fA i.val 0 (cX (mdL l i.val)) 30⟩
theorem RY(hl:l.length=n)(hn:n<2^47)(h:ACall Tryz.prog 44 [.isl (nD l==0) (cX (mdL l (nD l))) (nD l)] [] 0 (.isl z1 (cX G) m) []):
 ACall Tryz.prog 45 [.isl z (cI .u8 l) n] [] 0 (.isl z1 (cX G) m) []:=by
 have hm:=RX (l:=l)
 rw[hl] at hm
 have zx2:=ae;have hst:=ae;have zx3:=ae
 refine az Tryz.func45 Tryz.ntmps45 rfl ?_
 have zx1:= @hl;have zx4:= @RU;have zx5:= @Da;have zx6:= @afX;repeat' (first|((first|refine bT (r:=6) 0 ?_|refine bS (r:=6) 0 ?_);refine nP ?_;intro K hK;refine hK _ _ ?_;clear hK K)|(refine ah ?_;refine ak [0] ([0].length) (mdI z l n) (λi=>nD l-i.val) (⟨0,omgz⟩) rfl (by unfold mdI;exact dK) ?_;(rintro⟨i,hi⟩;rcases Nat.lt_or_eq_of_le hi with hil|hil<;>rcases Nat.eq_zero_or_pos i with h0|h0<;>first|(subst hil;rcases Nat.lt_or_ge 20 n with h9|h9<;>first|(have hmn:=PLift.up h;rw[h0,acm rfl] at hmn;change PLift (ACall _ _ [.isl true [] 0] _ _ _ _) at hmn;(simp-dsimp only[mdI];refine zqS ?_))|(have hmn:=PLift.up h;rw[wT h0] at hmn;(simp-dsimp only[mdI];refine zqS ?_)))|(obtain⟨v,zx2⟩:=Int.eq_ofNat_of_zero_le (show 0<=l.getD i default%64 from Int.emod_nonneg _ omgz);have hv6:v<64:=omgz;first|(have hst:=ajs h0 zx2 hv6;(simp-dsimp only[mdI];refine zqS ?_))|(have hst:=acn zx2 hv6;(simp-dsimp only[mdI];refine zqS ?_)))))|(refine aj ?_;refine Nxt.mk [0] (⟨i+1,omgz⟩) rfl (by unfold mdI;have zx7:= @hst;have zx8:=aA;have zx9:=aA;exact aO) zqO)|(refine aj ?_;refine Nxt.mk [1] (⟨i+1,omgz⟩) rfl (by unfold mdI;have zx7:= @hst;have zx8:=aA;have zx9:=aA;exact aO) zqO)|(refine aj ?_;refine Nxt.mk [2] (⟨i+1,omgz⟩) rfl (by unfold mdI;have zx7:= @hst;have zx8:=aA;have zx9:=aA;exact aO) zqO)|refine zqN ?_|refine o7 hmn.down ?_|refine kI ?_|refine uy ?_|refine uz ?_|refine uA ?_|refine kJ ?_|(refine kK ?_ ?_<;>intro hc<;>try exact zqM))
 all_goals exact aB []
def sfL(l:List Int):Nat->List Int
 |0=>[]
 |i+1=>if l.getD i default%8=0 then sfL l i else sfL l i++[l.getD i default%8]
theorem ajt:sfL l 0=[]:=rfl
theorem aju(h:l.getD i default%8=0):sfL l (i+1)=sfL l i:=if_pos h
theorem RZ(h:¬l.getD i default%8=0):sfL l (i+1)=sfL l i++[l.getD i default%8]:=if_neg h
theorem R4:(sfL l i).length<=i:=by
 induction i with
 |zero=>exact Nat.le_refl _
 |succ i ih=>
  unfold sfL
  split
  ·omega
  ·rw[List.length_append];simp only[List.length_singleton];omega
theorem ajv(h:¬l.getD i default%8=0)(h0:(sfL l i).length=0):[AV.val (.int .u8 (l.getD i default%8))]=cI .u8 (sfL l (i+1)):=by
 rw[RZ h,List.length_eq_zero_iff.1 h0];rfl
theorem aco(h:¬l.getD i default%8=0):(sfL l (i+1)).length=(sfL l i).length+1:=by rw[RZ h];simp
theorem tkL{l:List Int}:l.take l.length=l:=List.take_length
def sfI(z:Bool)(l:List Int)(n:Nat)(i:{i:Nat // i<=n}):St:=
 ⟨44,0,[(1,.val (.int .i64 3)),(6,fw (sfL l i.val).length 0 1),(10,.isl z (cI .u8 l) n),(11,.val (.int .i64 n)),(12,.val (.int .i64 i.val))],fA (sfL l i.val).length 0 (cI .u8 (sfL l i.val)) 5⟩
theorem YM(hl:l.length=n)(hn:n<2^47)(h1:ACall Tryz.prog 45 [.isl ((sfL l n).length==0) (cI .u8 (sfL l n)) (sfL l n).length] [] 0 (.isl z1 (cX F) m) [])(h2:ACall Tryz.prog 44 [.isl z1 (cX F) m] [] 0 (.isl z2 (cX G) k) [])(hG:G.length=k)(hk:k<=10000):
 ACall Tryz.prog 17 [.isl z (cI .u8 l) n,.val (.int .i64 3)] [] 0 (.tup [.isl z2 (cX G) k,.val (.bool (decide (0<k)&& !decide (G.getD 0 default%65536=0)))]) []:=by
 have h2:=PLift.up h2
 have hle:=λ(i:Nat)=>R4 (l:=l) (i:=i)
 have zx3:=ae;have hst:=ae;have hln:=ae;have zx4:=ae;have zx5:=ae;have zx6:=ae
 rcases Nat.eq_zero_or_pos k with zx5|zx5<;>rcases Decidable.em (G.getD 0 default%65536=0) with zx6|zx6
 all_goals(refine az Tryz.func17 Tryz.ntmps17 rfl ?_)
 all_goals(have zx1:= @hl;have zx2:= @hG;have zx7:= @YL;have zx8:= @w8_8;have zx9:= @w8_7;have zx10:= @ajt;have zx11:= @tkL;have zx12:= @List.length_nil.{0};have zx13:= @bC;have zx14:=aA;have zx15:=aA;have zx16:=aA;repeat' (first|((first|refine bT (r:=8) 0 ?_|refine bS (r:=8) 0 ?_);refine ab5 ?_;intro K hK;refine hK _ _ ?_;clear hK K)|(refine ah ?_;refine ak [0] ([0].length) (sfI z l n) (λi=>n-i.val) (⟨0,omgz⟩) rfl (by unfold sfI;exact wS) ?_;(rintro⟨i,hi⟩;have hll:=hle i;rcases Nat.lt_or_eq_of_le hi with hil|hil<;>rcases Nat.eq_zero_or_pos (sfL l i).length with zx4|zx4<;>first|(subst hil;first|(have hmn:=PLift.up h1;rw[zx4,List.length_eq_zero_iff.1 zx4] at hmn;change PLift (ACall _ _ [.isl true [] 0] _ _ _ _) at hmn;(simp-dsimp only[sfI];refine zqS ?_))|(have hmn:=PLift.up h1;rw[wT zx4] at hmn;(simp-dsimp only[sfI];refine zqS ?_)))|(rcases Decidable.em (l.getD i default%8=0) with zx3|zx3<;>first|(have hst:=aju zx3;(simp-dsimp only[sfI];refine zqS ?_))|(first|(have hst:=ajv zx3 zx4;have hln:=aco zx3;(simp-dsimp only[sfI];refine zqS ?_))|(have hst:=(RZ zx3).symm;have hln:=aco zx3;(simp-dsimp only[sfI];refine zqS ?_))))))|(refine aj ?_;refine Nxt.mk [0] (⟨i+1,omgz⟩) rfl (by unfold sfI;have zx14:= @hst;have zx15:= @hln;exact wS) zqO)|(refine aj ?_;refine Nxt.mk [1] (⟨i+1,omgz⟩) rfl (by unfold sfI;have zx14:= @hst;have zx15:= @hln;exact wS) zqO)|(refine aj ?_;refine Nxt.mk [2] (⟨i+1,omgz⟩) rfl (by unfold sfI;have zx14:= @hst;have zx15:= @hln;exact wS) zqO)|refine zqN ?_|refine Qy hmn.down ?_|refine Qy h2.down ?_|refine Qx ?_|refine afg ?_|refine afh ?_|refine afi ?_|refine Qz ?_|(refine QA ?_ ?_<;>intro hc<;>try exact zqM)|refine zqR [] ?_|refine zqD ?_|fail))
 all_goals exact CR [] @zx5 @zx6
end
section
open Go Go.Sy Go.Bp Go.Dg
attribute [local irreducible] AO AL AC OpT ACall Ends DGo aK Thn Blk Nxt
variable {n m i j k s x q v w:Nat} {z z1 z2:Bool} {f g F G l O:List Nat} {S:List Int}
def mC(c:Nat->Bool)(O:List Nat):List Nat->List Nat
 |[]=>O
 |x::l=>mC c (if c x&& !fH O x then O++[x] else O) l
theorem NA:fH (O++[x]) x=true:=RD.2 ⟨x,by simp,zM⟩
theorem YN(hx:x<65536)(hf:∀y∈f,y<65536):∀k,k<=f.length->m9J O f x k=if(f.take k).contains x=true/\fH O x=false then O++[x] else O:=by
 intro k
 induction k with
 |zero=>intro _;rw[if_neg (by simp)];rfl
 |succ k ih=>
  intro hk
  have ih:=ih omgz
  have hkf:k<f.length:=by omega
  have e:f.take (k+1)=f.take k++[f.getD k default]:=by rw[List.take_add_one];simp[List.getD_eq_getElem?_getD,hkf]
  have hy:=hf _ (bq (d:=default) hkf)
  rw[m9J,ih,e]
  by_cases h1:f.getD k default=x
  ·have hm:f.getD k default%65536=x%65536:=by rw[h1]
   by_cases h2:fH O x=false
   ·rw[if_pos (c:=(f.take k++[f.getD k default]).contains x=true/\_) ⟨by rw[h1];simp,h2⟩]
    by_cases h3:(f.take k).contains x=true
    ·rw[if_pos (c:=(f.take k).contains x=true/\_) ⟨h3,h2⟩,if_neg (λh=>by rw[NA] at h;cases h.2)]
    ·rw[if_neg (c:=(f.take k).contains x=true/\_) (λh=>h3 h.1),if_pos ⟨hm,h2⟩]
   ·rw[if_neg (c:=(f.take k).contains x=true/\_) (λh=>h2 h.2),if_neg (c:=_/\fH O x=false) (λh=>h2 h.2),if_neg (λh=>h2 h.2)]
  ·have hm:¬f.getD k default%65536=x%65536:=by rw[Nat.mod_eq_of_lt hy,Nat.mod_eq_of_lt hx];exact h1
   rw[if_neg (c:=f.getD k default%65536=x%65536/\_) (λh=>hm h.1)]
   have ec:(f.take k++[f.getD k default]).contains x=(f.take k).contains x:=by
    rw[Bool.eq_iff_iff];simp only[List.contains_iff_mem,List.mem_append,List.mem_singleton]
    exact⟨λh=>h.elim id λe=>absurd e.symm h1,λh=> .inl h⟩
   rw[ec]
theorem afY(hf:∀y∈f,y<65536):∀i,i<=l.length->(∀y∈l,y<65536)->mC (λx=>f.contains x) (m9I f l i) (l.drop i)=m9I f l l.length:=by
 intro i hi hl
 obtain⟨d,hd⟩:∃d,l.length-i=d:=⟨_,rfl⟩
 induction d generalizing i with
 |zero=>
  have:i=l.length:=by omega
  subst this;rw[List.drop_length];rfl
 |succ d ih=>
  have hil:i<l.length:=by omega
  have hx:=hl _ (bq (d:=default) hil)
  have e:l.drop i=l.getD i default::l.drop (i+1):=by rw[List.drop_eq_getElem_cons hil];simp[List.getD_eq_getElem?_getD,hil]
  rw[<-ih (i+1) omgz omgz,e,mC,m9I,YN hx hf _ (Nat.le_refl _),List.take_length]
  congr 1
  cases f.contains (l.getD i default)<;>cases fH (m9I f l i) (l.getD i default)<;>simp
theorem afZ(hf:∀y∈f,y<65536)(hl:∀y∈l,y<65536):m9I f l l.length=mC (λx=>f.contains x) [] l:=(afY hf 0 (Nat.zero_le _) hl).symm
def YO(w:Nat):Nat:=(List.range 8).foldl (λa x=>if w.testBit x then a|||x else a) 0
def vV(w:Nat):List Nat:=mC (λx=>w.testBit x) [] (s9 (YO w))
def wF(f:List Nat):Nat:=f.foldr (λx a=>a|||2^x) 0
theorem wF_bit:(wF f).testBit x=f.contains x:=by
 induction f with
 |nil=>simp[wF]
 |cons y f ih=>
  show(wF f|||2^y).testBit x=_
  rw[Nat.testBit_or,ih,Nat.testBit_two_pow,List.contains_cons,Bool.or_comm]
  congr 1
  rw[Bool.eq_iff_iff];simp only[decide_eq_true_eq,beq_iff_eq];exact eq_comm
theorem Fz(hf:∀y∈f,0<y/\y<8):wF f<256/\(wF f).testBit 0=false:=by
 constructor
 ·refine Nat.lt_pow_two_of_testBit (n:=8) _ λi hi=>?_
  rw[wF_bit,Bool.eq_false_iff]
  intro h
  have:=hf i (by simpa using h);omega
 ·rw[wF_bit,Bool.eq_false_iff]
  intro h
  have:=hf 0 (by simpa using h);omega
theorem zP:∀w,w<256->((List.range 3).all λi=>(YO w).testBit i==((List.range 8).any λx=>w.testBit x&&x.testBit i))=true/\YO w<8:=by decide+kernel
theorem YP(hf:∀y∈f,y<2^3):∀j,j<=f.length->gW f j<2^3:=by
 intro j
 induction j with
 |zero=>intro _;exact Nat.two_pow_pos 3
 |succ j ih=>
  intro hj
  rw[zO]
  exact Nat.or_lt_two_pow (ih omgz) (hf _ (bq (d:=default) omgz))
theorem R5(hf:∀y∈f,0<y/\y<8):gW f f.length=YO (wF f):=by
 have hw:=Fz hf
 obtain⟨h1,h2⟩:=zP _ hw.1
 have hs:gW f f.length<2^3:=YP (λy hy=>(hf y hy).2) _ (Nat.le_refl _)
 refine Nat.eq_of_testBit_eq λi=>?_
 by_cases hi:i<3
 ·have:=List.all_eq_true.1 h1 i (List.mem_range.2 hi)
  rw[beq_iff_eq] at this
  rw[this,Bool.eq_iff_iff,List.any_eq_true]
  have hb:=Fy (xs:=f) (i:=i) f.length
  rw[nk omgz] at hb
  rw[hb]
  constructor
  ·rintro⟨k,hk,h⟩
   have hm:=bq (d:=default) hk
   have hr:=hf _ hm
   rw[nk omgz] at h
   exact⟨_,List.mem_range.2 hr.2,by rw[wF_bit,h];simpa using hm⟩
  ·rintro⟨x,hx,h⟩
   rw[Bool.and_eq_true,wF_bit] at h
   obtain⟨k,hk,e⟩:=List.getElem_of_mem (show x∈f by simpa using h.1)
   refine⟨k,hk,?_⟩
   rw[List.getD_eq_getElem?_getD,List.getElem?_eq_getElem hk,Option.getD_some,e,nk omgz];exact h.2
 ·have h8:2^3<=2^i:=Nat.pow_le_pow_right omgz omgz
  rw[Nat.testBit_lt_two_pow omgz,Nat.testBit_lt_two_pow omgz]
theorem R6:∀s,s<8->((s9 s).all λx=>decide (x<8))=true/\(s9 s).length<=8:=by decide+kernel
theorem af0(hf:∀y∈f,0<y/\y<8):m9I f (s9 (gW f f.length)) (s9 (gW f f.length)).length=vV (wF f):=by
 have hs:gW f f.length<8:=by rw[R5 hf];exact(zP _ (Fz hf).1).2
 have hb:=R6 _ hs
 rw[afZ (λy hy=>by have:=hf y hy;omega) (λy hy=>by have:=of_decide_eq_true (List.all_eq_true.1 hb.1 y hy);omega),R5 hf]
 unfold vV
 congr 1
 funext x
 exact wF_bit.symm
def FL:List (List Nat):=[[1],[2],[1,2],[3],[4],[1,4],[2,4],[1,2,4],[4,3],[5],[2,5],[3,5],[6],[1,6],[3,6],[5,6],[3,5,6],[7]]
theorem KJ:∀w,w<256->w.testBit 0=false->((vV w).all λy=>decide (0<y/\y<8))=true/\(vV w).length<=7/\(vV (wF (vV w))∈FL\/vV (wF (vV w))=[]):=by decide+kernel
end
section
open Go Go.Sy Go.Bp Go.Dg
attribute [local irreducible] AO AL AC OpT ACall Ends DGo aK Thn Blk Nxt
variable {n m i j k s x q v w:Nat} {z z1 z2:Bool} {f g F G O:List Nat} {S l:List Int}
theorem R7(hf:∀y∈f,0<y/\y<8)(hn:f.length<=20):ACall Tryz.prog 44 [.isl z (cX f) f.length] [] 0 (.isl ((vV (wF f)).length==0) (cX (vV (wF f))) (vV (wF f)).length) []:=by
 have hs:gW f f.length<8:=by rw[R5 hf];exact(zP _ (Fz hf).1).2
 have hb:=R6 _ hs
 have:=YK (z:=z) (f:=f) rfl hn (l:=s9 (gW f f.length)) rfl omgz (RH rfl omgz) (RN omgz)
 rwa [af0 hf] at this
theorem YQ:∀i,∀y∈sfL l i,0<y/\y<8:=by
 intro i
 induction i with
 |zero=>intro y hy;cases hy
 |succ i ih=>
  intro y hy
  unfold sfL at hy
  split at hy
  ·exact ih y hy
  ·rename_i h
   rcases List.mem_append.1 hy with hy|hy
   ·exact ih y hy
   ·have e:y=l.getD i default%8:=by simpa using hy
    omega
theorem YR(hS:∀y∈S,0<y/\y<8):∀i,i<=S.length->∀y∈mdL S i,0<y/\y<8:=by
 intro i
 induction i with
 |zero=>intro _ y hy;cases hy
 |succ i ih=>
  intro hi y hy
  rcases List.mem_append.1 (show y∈mdL S i++[(S.getD i default%64).toNat] from hy) with hy|hy
  ·exact ih omgz y hy
  ·have e:y=(S.getD i default%64).toNat:=by simpa using hy
   have:=hS _ (bq (d:=default) (show i<S.length by omega))
   omega
theorem KL(hl:l.length=n)(hn:n<2^47):∃G:List Nat,(G∈FL\/G=[])/\ACall Tryz.prog 17 [.isl z (cI .u8 l) n,.val (.int .i64 3)] [] 0 (.tup [.isl (G.length==0) (cX G) G.length,.val (.bool (decide (0<G.length)&& !decide (G.getD 0 default%65536=0)))]) []:=by
 have hS:=YQ (l:=l) n
 have hSl:=R4 (l:=l) (i:=n)
 generalize hSe:sfL l n=S at hS hSl
 have hD:=RX (l:=S)
 have hmd:=YR hS (nD S) omgz
 have hml:(mdL S (nD S)).length=nD S:=Da
 have w1:=Fz hmd
 have q1:=KJ _ w1.1 w1.2
 have hF:∀y∈vV (wF (mdL S (nD S))),0<y/\y<8:=λy hy=>of_decide_eq_true (List.all_eq_true.1 q1.1 y hy)
 have r1:=R7 (z:=nD S==0) hmd omgz
 rw[hml] at r1
 have r2:=RY (z:=S.length==0) (l:=S) rfl omgz r1
 have r3:=R7 (z:=(vV (wF (mdL S (nD S)))).length==0) hF omgz
 have w2:=Fz hF
 have q2:=KJ _ w2.1 w2.2
 have:=YM (z:=z) (l:=l) hl hn (by rw[hSe];exact r2) r3 rfl omgz
 exact⟨_,q1.2.2,this⟩
end
