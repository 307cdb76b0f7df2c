/- Di23 LawD0 LawE0 LawEC FailArgs FacFailureSites LawEF. No condition. -/
import Derived.Test.YtcbginhpibfgaaaGreatDoorXFailureSites2
import Derived.Test.YtcbginhpibfgaaaGreatDoorFacAll
import Derived.Test.YtcbginhpibfgaaaGreatDoorFDoor
import Derived.Test.YtcbginhpibfgaaaGreatDoorFcG1
import Derived.Test.YtcbginhpibfgaaaGreatDoorLawD1
import Derived.Test.YtcbginhpibfgaaaGreatDoorCards
import Derived.SevenTiedAt
set_option linter.all false
set_option maxHeartbeats 4000000
set_option maxRecDepth 20000
namespace Go.Proofs.YtcbginhpibfgaaaGreatDoor
section
open Go Go.Sy Go.Bp Go.Dg
attribute [local irreducible] AO AL AC OpT ACall Ends DGo bK Thn Blk Nxt
section
variable {n N M L T k i m r a b j w u v s q x y d:Nat} {z up:Bool} {B:List Nat} {e:Int} {p:Nat→Bool}
theorem l6{l:List Bool}:isx l s 0=false:=rfl
theorem ajx(hN:N<256)(hL:B.length=L)(hL2:L<2^47)(hn:N%7=n)(hT:2^n=T)(hb:∀i,B.getD i 0<256):ACall Tryz.prog 13 [.agg (drC N z B L true)] [] 0 (dgV ((kM n (mkT (mdB B L) true T)).1.length==0) n (kM n (mkT (mdB B L) true T)).1 (kM n (mkT (mdB B L) true T)).2) []:=by
 have hx:=ae;have hq:=ae;have hg:=ae;have hb0:=ae;have hbs:=ae;have hL00:=ae;have hv:=ae;have ht:=ae;have hw:=ae;have hst:=ae;have hsn:=ae;have hlT:=ae;have hmin:=ae;have hs0:=ae
 have hn6:n≤6:=by omega
 have hT64:T≤64:=by rw[←hT];exact(Nat.pow_le_pow_right (by omega) hn6:2^n≤2^6)
 have hTp:0<T:=by rw[←hT];exact Nat.two_pow_pos n
 have hsh:=Bc (n:=n) (by omega)
 have hfr:=PLift.up (lV (n:=n) (tb:=mkT (mdB B L) true T) (M:=T) (by omega) (uo _) hT.symm)
 have htk:=Zz (p:=mdB B L) (up:=true) (T:=T)
 have hwi:=fun(x s:Nat) (hx:x<65536) (h:s<65536)=>PLift.up (by
  have:=Bh (s:=x) (q:=s)
  rw[Lp hx,Lp h] at this;exact this)
 rw[hT] at hsh
 unfold dgV at*
 generalize((kM n (mkT (mdB B L) true T)).1.length==0)=zb at hfr⊢
 generalize kM n (mkT (mdB B L) true T)=R at hfr⊢
 unfold drC
 refine ak Tryz.func13 Tryz.ntmps13 rfl ?_
 repeat' (first|((first|refine bI (r:=12) 2 ?_|refine bH (r:=12) 2 ?_);simp-dsimp(disch:=try exact vD) only[push_cast,simprocAttr,Bool.true_or,Bool.false_or,Bool.or_false,l6,htk,hsh,hmin,hs0,hq,hg,hb0,hbs,hL00,hv,ht,hw,hst,hlT,drC];(repeat refine aI ?_);intro K hK;refine hK _ _ ?_;clear hK K)|(refine ai ?_;refine au [0,1,2] ([0,1,2].length) (mdG z N B L n s (mdB B L s)) (fun x=>s-x.val) (⟨0,by omega⟩) rfl (by unfold mdG;(try simp only[List.cons_append,List.nil_append]);refine Sub.mk2 ?_;(simp-dsimp(disch:=try exact vD) only[push_cast,simprocAttr,Bool.true_or,Bool.false_or,Bool.or_false,l6,htk,hsh,hmin,hs0,hq,hg,hb0,hbs,hL00,hv,ht,hw,hst,hlT,drC]);(repeat refine aI ?_);first|done|exact vI) ?_;(rintro⟨x,hx⟩;have hst:=alV (l:=mkT (mdB B L) true s) (s:=s) (x:=x);have hsn:mkT (mdB B L) true s++[or (mdB B L s) (isx (mkT (mdB B L) true s) s s)]=mkT (mdB B L) true (s+1):=(by rw[mkT,Bool.true_and]);rw[hb0] at hsn;rcases Nat.lt_or_eq_of_le hx with hxl|hxl<;>first|(have ex:s=x:=hxl.symm;subst ex;rcases Bool.eq_false_or_eq_true (isx (mkT (mdB B L) true s) s s) with hv|hv<;>rw[hv] at hsn<;>(try simp only[Bool.true_or,Bool.false_or,Bool.or_false,Bool.or_true] at hsn)<;>first|(have s00:s=0:=s0;subst s00;have hsn:=congrArg cB hsn;have hsn:[AV.val (.bool _)]=cB (mkT (mdB B L) true 1):=hsn;(simp-dsimp(disch:=try exact vD) only[push_cast,simprocAttr,mdG]))|(simp-dsimp(disch:=try exact vD) only[push_cast,simprocAttr,mdG]))|(rcases Bool.eq_false_or_eq_true (isx (mkT (mdB B L) true s) s x) with hv|hv<;>rw[hv] at hst<;>first|(rw[Bool.true_or] at hst;(simp-dsimp(disch:=try exact vD) only[push_cast,simprocAttr,mdG]))|(rw[Bool.false_or] at hst;rcases Bool.eq_false_or_eq_true ((mkT (mdB B L) true s).getD x default) with ht|ht<;>rw[ht] at hst<;>first|(rw[Bool.false_and] at hst;(simp-dsimp(disch:=try exact vD) only[push_cast,simprocAttr,mdG]))|(rw[Bool.true_and] at hst;rcases Decidable.em (yw x s%65536=0) with hw|hw<;>first|(rw[decide_eq_true hw] at hst;(simp-dsimp(disch:=try exact vD) only[push_cast,simprocAttr,mdG]))|(rw[decide_eq_false hw] at hst;(simp-dsimp(disch:=try exact vD) only[push_cast,simprocAttr,mdG])))))))|(refine ax ?_;refine Nxt.mk [0,1,2] (⟨x+1,by omega⟩) rfl (by unfold mdG;(try simp only[List.cons_append,List.nil_append]);refine Sub.mk2 ?_;(simp-dsimp(disch:=try exact vD) only[push_cast,simprocAttr,Bool.true_or,Bool.false_or,Bool.or_false,l6,htk,hsh,hmin,hs0,hq,hg,hb0,hbs,hL00,hv,ht,hw,hst,hlT,drC]);(repeat refine aI ?_);first|done|exact vI) (by first|omega|(dsimp only;omega)|(simp;done)|(simp;omega)))|(refine ai ?_;refine au [0,1,9] ([0,1,9].length) (mdA z N B L true n T) (fun s=>T-s.val) (⟨0,by omega⟩) rfl (by unfold mdA;(try simp only[List.cons_append,List.nil_append]);refine Sub.mk2 ?_;(simp-dsimp(disch:=try exact vD) only[push_cast,simprocAttr,Bool.true_or,Bool.false_or,Bool.or_false,l6,htk,hsh,hmin,hs0,hq,hg,hb0,hbs,hL00,hv,ht,hw,hst,hlT,drC]);(repeat refine aI ?_);first|done|exact vI) ?_;(rintro⟨s,hs⟩;rcases Nat.lt_or_eq_of_le hs with hsl|hsl<;>first|(have es:T=s:=hsl.symm;subst es;(simp-dsimp(disch:=try exact vD) only[push_cast,simprocAttr,mdA]))|(have hlT:=uo (p:=mdB B L) (up:=true) s;rcases Nat.eq_zero_or_pos s with s0|s0<;>rcases Nat.eq_zero_or_pos L with h0|h0<;>first|(have hb0:mdB B L s=false:=(by rw[h0];exact afa);have hL00:(0<(L:Int))=False:=eq_false (by omega);(simp-dsimp(disch:=try exact vD) only[push_cast,simprocAttr,mdA]))|(have hb0:=afb (B:=B) (s:=s) h0;have hmin:min ((s:Int)%8).toNat IntKind.u8.bits=((s:Int)%8).toNat:=Nat.min_eq_left (by show _≤8;omega);have hqL:s/8%L<L:=Nat.mod_lt _ h0;have hq:((s:Int)/8%(L:Int))=((s/8%L:Nat):Int):=(by norm_cast);obtain⟨q,hqe⟩:∃q,s/8%L=q:=⟨_,rfl⟩;rw[hqe] at hq hqL hb0;have hg:=Bi (l:=B) (j:=q) (by omega);have hlB:(NI B).length=L:=(by rw[dS,hL]);obtain⟨y,hye⟩:∃y,B.getD q 0=y:=⟨_,rfl⟩;have hy:=hb q;rw[hye] at hg hy hb0;rcases Bool.eq_false_or_eq_true (bsI y s) with h8|h8<;>rw[h8] at hb0<;>first|(have hbs:=eq_true (of_decide_eq_true h8);(simp-dsimp(disch:=try exact vD) only[push_cast,simprocAttr,mdA]))|(have hbs:=eq_false (of_decide_eq_false h8);(simp-dsimp(disch:=try exact vD) only[push_cast,simprocAttr,mdA]))))))|(refine ax ?_;refine Nxt.mk [0,1,4] (⟨1,by omega⟩) rfl (by unfold mdA;(try simp only[List.cons_append,List.nil_append]);refine Sub.mk2 ?_;(simp-dsimp(disch:=try exact vD) only[push_cast,simprocAttr,Bool.true_or,Bool.false_or,Bool.or_false,l6,htk,hsh,hmin,hs0,hq,hg,hb0,hbs,hL00,hv,ht,hw,hst,hlT,drC,hsn]);(repeat refine aI ?_);first|done|exact vI) (by first|omega|(dsimp only;omega)|(simp;done)|(simp;omega)))|(refine ax ?_;refine Nxt.mk [0,1,2] (⟨s+1,by omega⟩) rfl (by unfold mdA;(try simp only[List.cons_append,List.nil_append]);refine Sub.mk2 ?_;(simp-dsimp(disch:=try exact vD) only[push_cast,simprocAttr,Bool.true_or,Bool.false_or,Bool.or_false,l6,htk,hsh,hmin,hs0,hq,hg,hb0,hbs,hL00,hv,ht,hw,hst,hlT,drC,hsn]);(repeat refine aI ?_);first|done|exact vI) (by first|omega|(dsimp only;omega)|(simp;done)|(simp;omega)))|(refine ax ?_;refine Nxt.mk [0,1,3] (⟨s+1,by omega⟩) rfl (by unfold mdA;(try simp only[List.cons_append,List.nil_append]);refine Sub.mk2 ?_;(simp-dsimp(disch:=try exact vD) only[push_cast,simprocAttr,Bool.true_or,Bool.false_or,Bool.or_false,l6,htk,hsh,hmin,hs0,hq,hg,hb0,hbs,hL00,hv,ht,hw,hst,hlT,drC,hsn]);(repeat refine aI ?_);first|done|exact vI) (by first|omega|(dsimp only;omega)|(simp;done)|(simp;omega)))|(refine ax ?_;refine Nxt.mk [0,1,4] (⟨s+1,by omega⟩) rfl (by unfold mdA;(try simp only[List.cons_append,List.nil_append]);refine Sub.mk2 ?_;(simp-dsimp(disch:=try exact vD) only[push_cast,simprocAttr,Bool.true_or,Bool.false_or,Bool.or_false,l6,htk,hsh,hmin,hs0,hq,hg,hb0,hbs,hL00,hv,ht,hw,hst,hlT,drC,hsn]);(repeat refine aI ?_);first|done|exact vI) (by first|omega|(dsimp only;omega)|(simp;done)|(simp;omega)))|apply dG|apply aF|((first|refine ay rfl (fun K hK=>?_)|refine aj (fun K hK=>?_)|refine aA (fun K hK=>?_));(first|refine ah (f:=42) [] 0 false ?_|refine ah (f:=41) [] 0 false ?_);simp-dsimp(disch:=try exact vD) only[push_cast,simprocAttr,Bool.true_or,Bool.false_or,Bool.or_false,l6,htk,hsh,hmin,hs0,hq,hg,hb0,hbs,hL00,hv,ht,hw,hst,hlT,drC];(repeat refine aI ?_);intro G hG;refine hG _ _ ?_;clear hG G;(first|refine⟨_,_,hfr.down,?_⟩|refine⟨_,_,(hwi x s (by omega) (by omega)).down,?_⟩);simp-dsimp(disch:=try exact vD) only[push_cast,simprocAttr,Bool.true_or,Bool.false_or,Bool.or_false,l6,htk,hsh,hmin,hs0,hq,hg,hb0,hbs,hL00,hv,ht,hw,hst,hlT,drC];(repeat refine aI ?_);apply hK;clear hK K)|((first|refine ay rfl (fun K hK=>?_)|refine aj (fun K hK=>?_)|refine aA (fun K hK=>?_));(first|apply cO|apply aZ|apply df|apply aT|apply aW|apply bf|apply bu|apply fK|apply bZ|apply fA|apply gm|apply fu|apply eG|apply aX|apply dK|apply dP|apply dm|apply bU|apply dY|apply dM);simp-dsimp(disch:=try exact vD) only[push_cast,simprocAttr,Bool.true_or,Bool.false_or,Bool.or_false,l6,htk,hsh,hmin,hs0,hq,hg,hb0,hbs,hL00,hv,ht,hw,hst,hlT,drC];(repeat refine aI ?_);apply hK;clear hK K)|((first|refine ay rfl (fun K hK=>?_)|refine aj (fun K hK=>?_)|refine aA (fun K hK=>?_));(first|apply gz);simp-dsimp(disch:=try exact vD) only[push_cast,simprocAttr,Bool.true_or,Bool.false_or,Bool.or_false,l6,htk,hsh,hmin,hs0,hq,hg,hb0,hbs,hL00,hv,ht,hw,hst,hlT,drC];(repeat refine aI ?_);apply hK;clear hK K)|((first|refine ay rfl (fun K hK=>?_)|refine aj (fun K hK=>?_)|refine aA (fun K hK=>?_));(first|apply eO);simp-dsimp(disch:=try exact vD) only[push_cast,simprocAttr,Bool.true_or,Bool.false_or,Bool.or_false,l6,htk,hsh,hmin,hs0,hq,hg,hb0,hbs,hL00,hv,ht,hw,hst,hlT,drC];(repeat refine aI ?_);apply hK;clear hK K)|((first|refine ay rfl (fun K hK=>?_)|refine aj (fun K hK=>?_)|refine aA (fun K hK=>?_));(first|apply eH);simp-dsimp(disch:=try exact vD) only[push_cast,simprocAttr,Bool.true_or,Bool.false_or,Bool.or_false,l6,htk,hsh,hmin,hs0,hq,hg,hb0,hbs,hL00,hv,ht,hw,hst,hlT,drC];(repeat refine aI ?_);apply hK;clear hK K)|((first|refine aQ rfl rfl (fun K1 K2 h1 h2=>?_) rfl|refine aJ (fun K1 K2 h1 h2=>?_)|refine bL rfl rfl (fun K1 K2 h1 h2=>?_));simp-dsimp(disch:=try exact vD) only[push_cast,simprocAttr,Bool.true_or,Bool.false_or,Bool.or_false,l6,htk,hsh,hmin,hs0,hq,hg,hb0,hbs,hL00,hv,ht,hw,hst,hlT,drC];(first|(refine⟨fun hc=>?_,fun hc=>?_⟩<;>first|(exfalso;omega)|(exfalso;contradiction)|refine h1 ?_|refine h2 ?_)|refine h1 ?_|refine h2 ?_);all_goals clear h1 h2 K1 K2)|(refine aV (id:=6) (by kernel_rfl) [⟨0,[],[],[],[],0⟩,⟨1,[0],[],[],[],0⟩,⟨2,[0,1],[],[],[],0⟩,⟨3,[0,1,2],[],[],[],0⟩,⟨4,[0,1,2,3],[],[],[],0⟩,⟨5,[0,1,2,3,4],[25,26,27,28,29,30,33,34],[],[],0⟩,⟨6,[0,1,2,3,4,5],[25,26,27,28,29,30,33,34],[],[],0⟩,⟨7,[0,1,2,3,4],[23,24,27,28,29,33,34],[],[],0⟩,⟨8,[0,1,2,3,4,7],[23,24,27,28,29,33,34],[],[],0⟩,⟨9,[0,1,2,3,4],[23,24,25,26,33,34],[],[],0⟩,⟨10,[0,1,2,3,4,9],[23,24,25,26,33,34],[],[],0⟩,⟨11,[0,1,2,3,4,9,10],[23,24,25,26,33,34],[],[],0⟩,⟨12,[0,1,2,3,4,7,8,9,10,11],[23,24,33,34],[],[],0⟩,⟨13,[0,1,2,3,4,5,6,7,8,9,10,11,12],[33,34],[],[],0⟩,⟨14,[0,1,2,3,4,5,6,7,8,9,10,11,12,13],[33,34],[],[],0⟩,⟨15,[0,1,2,3,4],[23,24,25,26,27,28,29,30,31,32],[],[],0⟩,⟨16,[0,1,2,3,4,15],[23,24,25,26,27,28,29,30,31,32],[],[],0⟩,⟨17,[0,1,2,3,4,5,6,7,8,9,10,11,12,13,14,15,16],[],[],[],0⟩,⟨18,[0,1,2,3,4,5,6,7,8,9,10,11,12,13,14,15,16,17],[],[],[],0⟩,⟨19,[0,1,2,3,4,5,6,7,8,9,10,11,12,13,14,15,16,17,18],[],[],[],0⟩,⟨20,[0,1,2,3,4,5,6,7,8,9,10,11,12,13,14,15,16,17,18,19],[],[],[],0⟩,⟨21,[0,1,2,3,4,5,6,7,8,9,10,11,12,13,14,15,16,17,18,19,20],[],[],[],0⟩] (by kernel_rfl) (by kernel_rfl) (by kernel_rfl) ?_)|((first|refine dW (by kernel_rfl) (fun K hK=>?_)|refine gy (by kernel_rfl) (fun K hK=>?_));simp only[↓Go.Sy.dz,↓Go.Sy.dA,↓Go.Sy.dU,↓Go.Sy.dD,↓Go.Sy.dV,↓Go.Sy.cZ,↓Go.Sy.dE,push_cast,Nat.reduceLeDiff,Nat.reduceSub,Nat.reduceBEq,Nat.reduceEqDiff,Nat.reduceAdd,Nat.reduceLT,↓reduceIte,reduceCtorEq];refine hK _ _ _ ?_;clear hK K)|apply jl|apply dH|apply aR|apply bX|apply bz|apply aS|apply bY|apply bA|(refine aY rfl ?_)|apply bB|apply bW|apply bV|apply dF)
 all_goals first
  |((refine Ends.mk2 (by first|exact .inr rfl|exact .inl rfl) [] ?_;simp-dsimp(disch:=try exact vD) only[push_cast,simprocAttr,Tryz.f13];try exact zqF);done)
  |skip
end
section
variable {n N M T L k i m r a b j w u v s q x y d:Nat} {z z' up up':Bool} {B B':List Nat} {F:List Fo} {p f g:Nat→Bool}
theorem ZA(h:MQ N B L):∃F r,DOk (N%7) F r∧ACall Tryz.prog 13 [.agg (drC N z B L up)] [] 0 (.agg [.val (.int .i64 (N%7:Nat)),.isl (F.length==0) (cR F) F.length,.val (.int .i64 r)]) []:=by
 cases up with
 |false=>exact⟨_,_,nD (by omega),ajw h.n h.len h.lt rfl rfl h.b⟩
 |true=>exact⟨_,_,nD (by omega),ajx h.n h.len h.lt rfl rfl h.b⟩
end
end
section
open Go Go.Sy Go.Lm Go.Rt Go.Dg
attribute [local irreducible] AO AL AC OpT ACall Ends DGo bK Thn Blk Nxt
section
variable {n N M L k i m r:Nat} {z zl:Bool} {up:Bool} {B:List Nat} {l:List Chc} {F:List Fo}
structure MO(l:List Chc)(k:Nat):Prop where
 len:l.length=k
 lt:k<2^47
 b:∀i,(l.getD i default).a<256∧(l.getD i default).b<256
def chP(l:List Chc)(i:Nat):Rat:=chQ (l.getD i default)
theorem mV:0≤chP l i∧chP l i≤1∧(chP l i).den≤1000000:=by
 have h:=YZ (l.getD i default)
 exact⟨h.1,h.2.1,Nat.le_trans h.2.2 (by decide)⟩
theorem yR:Gd (lsL l n) (chP l) (fun i=>(chP l i).den) n:=Gd.rc iZ (fun i hi=>Fs hi) fun i _=>mV
theorem uq(h:MO l k)(hn:n≤1000):ACall Tryz.prog 14 [.isl zl (cR l) k,.val (.int .i64 n)] [] 0 (.isl (n==0) (cR (lsL l n)) n) []:=
 ad9 h.len h.lt hn fun i _=>ME (h.b i).1 (h.b i).2
theorem afc(hD:DOk n F r)(hN:F.length=N)(h9:n≤9):ACall Tryz.prog 50 [dI z n (F.map fk) N r] [] 0 (.val (.int .i64 0)) []:=yQ ⟨F,r,rfl,rfl,hD⟩ (by rw[List.length_map];exact hN) (by omega)
theorem xh(h:MQ N B L):∃n F r M,n≤6∧DOk n F r∧F.length=M∧ACall Tryz.prog 13 [.agg (drC N z B L up)] [] 0 (dI (M==0) n (F.map fk) M r) []:=by
 obtain⟨F,r,hD,hM⟩:=ZA (z:=z) (up:=up) h
 refine⟨N%7,F,r,F.length,by omega,hD,rfl,?_⟩
 unfold dI;rw[gV];exact hM
end
section
variable {N M L k i m np:Nat} {z zp:Bool} {ps:List RV} {L:List Fk} {X Y:RV} {n r e g s:Int} {F:List Fo}
theorem fT:ACall Tryz.prog 17 [.agg (aa.cells rZ),.agg (aa.cells rZ)] [] 0 (.val (.bool true)) []:=by
 have:=QI Yg Yg
 rw[yL] at this;exact this
end
end
section
open Go Go.Sy Go.Bp Go.Dg Go.Lm
theorem Bq{m:Nat} {av:List AV}(h:dO Tryz.prog m 52 av):∃x:Chc,av=aa.cells x∧x.a<256∧x.b<256:=by
 obtain⟨_,xs,rfl,hl,hx⟩:=jm Tryz.underlying52 h
 match xs,hl with
 |[a0,a1],_=>
  obtain⟨b0,rfl,h0⟩:=gT Tryz.underlying5 (hx 0 _ a0 rfl rfl)
  obtain⟨b1,rfl,h1⟩:=gT Tryz.underlying5 (hx 1 _ a1 rfl rfl)
  have h0:=wC h0
  have h1:=wC h1
  obtain⟨n0,rfl⟩:=Int.eq_ofNat_of_zero_le h0.1
  obtain⟨n1,rfl⟩:=Int.eq_ofNat_of_zero_le h1.1
  exact⟨⟨n0,n1⟩,rfl,(by omega:n0<256),(by omega:n1<256)⟩
theorem iO{m:Nat} {av:List AV}(h:dO Tryz.prog m 25 av):∃(z:Bool) (l:List Chc),av=[.isl z (cR l) l.length]∧MO l l.length:=by
 obtain⟨z,l,e,ho,hl,_⟩:=lN (g:=fun(x:Chc)=>aa.cells x) (Q:=fun x=>x.a<256∧x.b<256) (bn:=2) Tryz.underlying25 h (by kernel_rfl) (by decide) (fun n x hx=>Bq hx)
 refine⟨z,l,e,rfl,hl,fun i=>?_⟩
 by_cases hi:i<l.length
 ·rw[List.getD_eq_getElem?_getD,List.getElem?_eq_getElem hi];exact ho _ (List.getElem_mem hi)
 ·rw[List.getD_eq_getElem?_getD,List.getElem?_eq_none (by omega)];exact⟨by decide,by decide⟩
end
set_option maxRecDepth 100000
section
open Go
theorem Bz:Rows.failureSitesRow.wf (OpenSpec.ofChange Rows.failureSitesSpec)=true:=by kernel_rfl
theorem BA:Tryz.f8.params.all (Tryz.prog.readableRec ·)=true:=by kernel_rfl
theorem BB:namedTie Tryz.prog Rows.failureSitesRow.named Rows.failureSitesSpec.vars=true:=by kernel_rfl
theorem BC:(Rows.failureSitesRow.stops==[])=true:=by kernel_rfl
theorem BD:(Rows.failureSitesRow.knobs==[])=true:=by kernel_rfl
theorem BG:(Rows.failureSitesRow.inPlace==Tryz.prog.inPlace 8)=true:=by kernel_rfl
theorem yZ:(Rows.failureSitesRow.unfollowed==Tryz.prog.unfollowed 8)=true:=by kernel_rfl
theorem y5:(Rows.failureSitesRow.recurses==Tryz.prog.recurses 8)=true:=by kernel_rfl
theorem y7:(Rows.failureSitesRow.named==Tryz.prog.varsNamed 8)=true:=by kernel_rfl
theorem y8:(Rows.failureSitesRow.maps==(Tryz.f8.params.toList++Rows.failureSitesSpec.plain.varTypes Tryz.prog).any (Tryz.prog.mapsRec ·))=true:=by kernel_rfl
theorem y9:(Rows.failureSitesRow.ifaces==(Tryz.f8.params.toList++Rows.failureSitesSpec.plain.varTypes Tryz.prog).any (Tryz.prog.ifacesRec ·))=true:=by kernel_rfl
theorem za:(Rows.failureSitesRow.mapsOut==Tryz.prog.mapsAmong Tryz.f8.resultTypes.toList)=true:=by kernel_rfl
theorem ze:(Rows.failureSitesRow.loops==(Tryz.f8.params.toList++Rows.failureSitesSpec.plain.varTypes Tryz.prog).any (Tryz.prog.loopsFrom ·))=true:=by kernel_rfl
theorem zf:(Rows.failureSitesRow.wideKeys==(Tryz.f8.params.toList++Rows.failureSitesSpec.plain.varTypes Tryz.prog++Tryz.f8.resultTypes.toList).any (Tryz.prog.wideKeysFrom ·))=true:=by kernel_rfl
theorem zg:Rows.failureSitesSpec.vars.all (Tryz.prog.varReadable ·)=true:=by kernel_rfl
theorem zh:Tryz.f8.resultTypes.all (fun t=>Tryz.prog.readableRec t&&decide (t<Tryz.prog.types.size))=true:=by kernel_rfl
theorem zo:(Rows.failureSitesRow.ifacesOut==Tryz.f8.resultTypes.toList.any (Tryz.prog.ifacesRec ·))=true:=by kernel_rfl
theorem zu:(Rows.failureSitesRow.loopsOut==Tryz.f8.resultTypes.toList.any (Tryz.prog.loopsFrom ·))=true:=by kernel_rfl
theorem zA:(Rows.failureSitesRow.plainKeys==Tryz.prog.plainKeys)=true:=by kernel_rfl
theorem zB:Rows.failureSitesRow.shortTexts.isNone=true:=by kernel_rfl
theorem zD:(Rows.failureSitesRow.lifted==Tryz.prog.liftsFinal)=true:=by kernel_rfl
theorem zF:(Tryz.prog.make==some Rows.failureSitesRow.make)=true:=by kernel_rfl
theorem zG:(Rows.failureSitesRow.kinds==(if Rows.failureSitesRow.domain.isEmpty then [] else Tryz.f8.params.toList.map fun t=>match Tryz.prog.underlying t with|some (.int k)=>some k|_=>none))=true:=by kernel_rfl
theorem zH:(Rows.failureSitesRow.pinned==Rows.failureSitesRow.pinnedBy)=true:=by kernel_rfl
theorem zI:(Rows.failureSitesRow.veiled==(Tryz.f8.params.toList++Rows.failureSitesSpec.plain.varTypes Tryz.prog++Tryz.f8.resultTypes.toList).any (Tryz.prog.veiledRec ·))=true:=by kernel_rfl
theorem zJ:Rows.failureSitesRow.veiledFits Tryz.prog Tryz.f8.params.toList (Tryz.f8.params.toList++Rows.failureSitesSpec.plain.varTypes Tryz.prog++Tryz.f8.resultTypes.toList)=true:=by kernel_rfl
theorem zK:joinedFacts Tryz.prog 8 Tryz.f8 Rows.failureSitesSpec Rows.failureSitesRow=true:=by
 simp only[joinedFacts,Bool.and_eq_true]
 exact⟨⟨⟨⟨⟨⟨⟨⟨⟨⟨⟨⟨⟨⟨⟨⟨⟨⟨⟨⟨⟨⟨⟨⟨⟨⟨⟨⟨⟨⟨⟨Bz,nI⟩,nJ⟩,BA⟩,BB⟩,BC⟩,nK⟩,BD⟩,nL⟩,BG⟩,yZ⟩,y5⟩,y7⟩,y8⟩,y9⟩,za⟩,ze⟩,zf⟩,zg⟩,zh⟩,zo⟩,zu⟩,zA⟩,zB⟩,kN⟩,kQ⟩,zD⟩,zF⟩,zG⟩,zH⟩,zI⟩,zJ⟩
theorem failureSites_nam:Tryz.pinned.checked.prog.funcNamed Rows.failureSitesRow.func=some 8:=by kernel_rfl
theorem zL:Tryz.f8.isInstance Tryz.pinned.checked.prog Rows.failureSitesRow.origin Rows.failureSitesRow.targs:=of_decide_eq_true (by kernel_rfl)
theorem zM:Tryz.f8.isWrapper Tryz.pinned.checked.prog Rows.failureSitesRow.wrapper Rows.failureSitesRow.mainSum:=by unfold Func.isWrapper;first|(rw[if_pos (by decide+kernel)];kernel_rfl)|(rw[if_neg (by decide+kernel)];exact⟨rfl,rfl⟩)
theorem zN:Rows.failureSitesRow.wfByText (OpenSpec.ofChange Rows.failureSitesSpec)=true:=by kernel_rfl
theorem zO:Tryz.pinned.checked.prog.mainIs=some (true, "6c6ed28039965d1e05ce70114d4f84b00907715979fcf266077e3121104a4804".toList):=by kernel_rfl
theorem zP:false=Tryz.pinned.checked.prog.looks []:=by kernel_rfl
theorem zR:([24,62,63].all fun u=> !Tryz.prog.wantsStandIn u)=true:=by kernel_rfl
theorem zS:false=Rows.failureSitesRow.goesBy Tryz.pinned.checked.prog:=by kernel_rfl
end
set_option maxRecDepth 20000
section
open Go Go.Sy Go.Lm Go.Rt Go.Dg
attribute [local irreducible] AO AL AC OpT ACall Ends DGo bK Thn Blk Nxt
variable {n N M L k0 k1 i m r:Nat} {z z0 z1 zs zm zn zt:Bool} {up:Bool} {B:List Nat} {l0 l1:List Chc} {F:List Fo} {X:RV} {C A0 A1 A2 A3 A4:List AV} {ss:List Nat} {e:Int} {p site:Nat→Rat} {d dt:Nat→Nat} {ps ts:List RV}
theorem ML(hl:ss.length=m)(hm2:m<2^47)(hm:4<m∧m≤12∨14<m):ACall Tryz.prog 8 [.agg (drC N z B L up),.isl zs (cX ss) m,.agg [.isl z0 (cR l0) k0,.isl z1 (cR l1) k1]] [] 0 (.val (.bool true)) []:=by
 have haw:=PLift.up bQ
 unfold drC at*
 rcases hm with hm|hm
 ·obtain⟨hm3,hm4⟩:=hm
  refine ak Tryz.func8 Tryz.ntmps8 rfl ?_
  repeat' (first|refine zqN ?_|refine az haw.down ?_|refine aK ?_|refine aL ?_|(refine aM ?_ ?_<;>intro hc<;>try exact zqM)|refine zqR 4 [⟨0,[],[36,37,39,40,41,42],[],[],0⟩,⟨1,[0],[36,37,39,40,41,42],[],[],0⟩,⟨2,[],[34,35,39,40,41,42],[],[],0⟩,⟨3,[2],[34,35,39,40,41,42],[],[],0⟩,⟨4,[0,1,2,3],[39,40,41,42],[],[],0⟩,⟨5,[],[34,35,36,37,38,41,42],[],[],0⟩,⟨6,[5],[34,35,36,37,38,41,42],[],[],0⟩,⟨7,[],[34,35,36,37,38,39,40],[],[],0⟩,⟨8,[7],[34,35,36,37,38,39,40],[],[],0⟩,⟨9,[0,1,2,3,4,5,6,7,8],[],[],[],0⟩,⟨10,[0,1,2,3,4,5,6,7,8,9],[],[],[],0⟩,⟨11,[0,1,2,3,4,5,6,7,8,9,10],[],[],[],0⟩] ?_|refine zqR 5 [⟨0,[],[10,46,47,48,49],[],[],0⟩,⟨1,[],[10,45,48,49],[],[],0⟩,⟨2,[1],[10,45,48,49],[],[],0⟩,⟨3,[],[10,45,46,47,49],[],[],0⟩,⟨4,[],[10,45,46,47,48],[],[],0⟩,⟨5,[0,1,2,3,4],[10],[],[],0⟩,⟨6,[0,1,2,3,4,5],[10],[],[],0⟩,⟨7,[0,1,2,3,4,5,6],[10,52],[],[],0⟩,⟨8,[0,1,2,3,4,5,6],[10,51],[2],[],0⟩,⟨9,[],[44,45,46,47,48,49,50,51,52],[],[],1⟩,⟨10,[0,1,2,3,4,5,6,7,9],[52],[],[2],0⟩,⟨11,[0,1,2,3,4,5,6,7,8,9,10],[],[],[],0⟩] ?_|refine zqD ?_|fail)
  all_goals first
   |((refine Ends.mk2 zqI [] ?_;simp-dsimp(disch:=try exact vD) only[push_cast,simprocAttr,Tryz.f8];try exact zqF);done)
   |skip
 ·refine ak Tryz.func8 Tryz.ntmps8 rfl ?_
  repeat' (first|refine zqN ?_|refine az haw.down ?_|refine aK ?_|refine aL ?_|(refine aM ?_ ?_<;>intro hc<;>try exact zqM)|refine zqR 4 [⟨0,[],[36,37,39,40,41,42],[],[],0⟩,⟨1,[0],[36,37,39,40,41,42],[],[],0⟩,⟨2,[],[34,35,39,40,41,42],[],[],0⟩,⟨3,[2],[34,35,39,40,41,42],[],[],0⟩,⟨4,[0,1,2,3],[39,40,41,42],[],[],0⟩,⟨5,[],[34,35,36,37,38,41,42],[],[],0⟩,⟨6,[5],[34,35,36,37,38,41,42],[],[],0⟩,⟨7,[],[34,35,36,37,38,39,40],[],[],0⟩,⟨8,[7],[34,35,36,37,38,39,40],[],[],0⟩,⟨9,[0,1,2,3,4,5,6,7,8],[],[],[],0⟩,⟨10,[0,1,2,3,4,5,6,7,8,9],[],[],[],0⟩,⟨11,[0,1,2,3,4,5,6,7,8,9,10],[],[],[],0⟩] ?_|refine zqR 5 [⟨0,[],[10,46,47,48,49],[],[],0⟩,⟨1,[],[10,45,48,49],[],[],0⟩,⟨2,[1],[10,45,48,49],[],[],0⟩,⟨3,[],[10,45,46,47,49],[],[],0⟩,⟨4,[],[10,45,46,47,48],[],[],0⟩,⟨5,[0,1,2,3,4],[10],[],[],0⟩,⟨6,[0,1,2,3,4,5],[10],[],[],0⟩,⟨7,[0,1,2,3,4,5,6],[10,52],[],[],0⟩,⟨8,[0,1,2,3,4,5,6],[10,51],[2],[],0⟩,⟨9,[],[44,45,46,47,48,49,50,51,52],[],[],1⟩,⟨10,[0,1,2,3,4,5,6,7,9],[52],[],[2],0⟩,⟨11,[0,1,2,3,4,5,6,7,8,9,10],[],[],[],0⟩] ?_|refine zqD ?_|fail)
  all_goals first
   |((refine Ends.mk2 zqI [] ?_;simp-dsimp(disch:=try exact vD) only[push_cast,simprocAttr,Tryz.f8];try exact zqF);done)
   |skip
theorem Fx(hl:ss.length=m)(hm:m≤4∨12<m∧m≤14)(hn:n≤6)
 (hM:ACall Tryz.prog 13 [.agg (drC N z B L up)] [] 0 (.agg [.val (.int .i64 n),.isl zm C M,.val (.int .i64 r)]) []) (h0:ACall Tryz.prog 14 [.isl z0 (cR l0) k0,.val (.int .i64 m)] [] 0 (.isl zt A0 m) []) (h1:ACall Tryz.prog 14 [.isl z1 (cR l1) k1,.val (.int .i64 n)] [] 0 (.isl zn A1 n) [])
 (hc:ACall Tryz.prog 34 [.isl zs (cX ss) m] [] 0 (.isl zs (cX ss) m) [])
 (o1:ACall Tryz.prog 33 [.agg [.val (.int .i64 n),.isl zm C M,.val (.int .i64 r)],.isl zs (cX ss) m,.isl zt A0 m,.isl zn A1 n] [] 0 (.tup [.agg (aa.cells X),.val (.int .i64 e)]) [])
 (o2:ACall Tryz.prog 35 [.agg [.val (.int .i64 n),.isl zm C M,.val (.int .i64 r)],.isl zs (cX ss) m,.isl zt A0 m,.isl zn A1 n] [] 0 (.tup [.agg (aa.cells X),.val (.int .i64 e)]) [])
 (he:ACall Tryz.prog 17 [.agg (aa.cells X),.agg (aa.cells X)] [] 0 (.val (.bool true)) []):
 ACall Tryz.prog 8 [.agg (drC N z B L up),.isl zs (cX ss) m,.agg [.isl z0 (cR l0) k0,.isl z1 (cR l1) k1]] [] 0 (.val (.bool true)) []:=by
 have hM:=PLift.up hM;have g0:=PLift.up h0;have g1:=PLift.up h1;have hcl:=PLift.up hc;have o1:=PLift.up o1;have o2:=PLift.up o2;have he:=PLift.up he;have haw:=PLift.up bQ
 clear h0 h1 hc
 unfold drC at*
 rcases hm with hm|hm
 ·refine ak Tryz.func8 Tryz.ntmps8 rfl ?_
  repeat' (first|refine zqN ?_|refine az haw.down ?_|refine az hM.down ?_|refine az g0.down ?_|refine az g1.down ?_|refine az hcl.down ?_|refine az o1.down ?_|refine az o2.down ?_|refine az he.down ?_|refine aK ?_|refine aL ?_|(refine aM ?_ ?_<;>intro hc<;>try exact zqM)|refine zqR 4 [⟨0,[],[36,37,39,40,41,42],[],[],0⟩,⟨1,[0],[36,37,39,40,41,42],[],[],0⟩,⟨2,[],[34,35,39,40,41,42],[],[],0⟩,⟨3,[2],[34,35,39,40,41,42],[],[],0⟩,⟨4,[0,1,2,3],[39,40,41,42],[],[],0⟩,⟨5,[],[34,35,36,37,38,41,42],[],[],0⟩,⟨6,[5],[34,35,36,37,38,41,42],[],[],0⟩,⟨7,[],[34,35,36,37,38,39,40],[],[],0⟩,⟨8,[7],[34,35,36,37,38,39,40],[],[],0⟩,⟨9,[0,1,2,3,4,5,6,7,8],[],[],[],0⟩,⟨10,[0,1,2,3,4,5,6,7,8,9],[],[],[],0⟩,⟨11,[0,1,2,3,4,5,6,7,8,9,10],[],[],[],0⟩] ?_|refine zqR 5 [⟨0,[],[10,46,47,48,49],[],[],0⟩,⟨1,[],[10,45,48,49],[],[],0⟩,⟨2,[1],[10,45,48,49],[],[],0⟩,⟨3,[],[10,45,46,47,49],[],[],0⟩,⟨4,[],[10,45,46,47,48],[],[],0⟩,⟨5,[0,1,2,3,4],[10],[],[],0⟩,⟨6,[0,1,2,3,4,5],[10],[],[],0⟩,⟨7,[0,1,2,3,4,5,6],[10,52],[],[],0⟩,⟨8,[0,1,2,3,4,5,6],[10,51],[6],[],0⟩,⟨9,[],[44,45,46,47,48,49,50,51,52],[],[],1⟩,⟨10,[0,1,2,3,4,5,6,7,9],[52],[],[6],0⟩,⟨11,[0,1,2,3,4,5,6,7,8,9,10],[],[],[],0⟩] ?_|refine zqD ?_|fail)
  all_goals first
   |((refine Ends.mk2 zqI [] ?_;simp-dsimp(disch:=try exact vD) only[push_cast,simprocAttr,Tryz.f8];try exact zqF);done)
   |skip
 ·obtain⟨hm3,hm4⟩:=hm
  refine ak Tryz.func8 Tryz.ntmps8 rfl ?_
  repeat' (first|refine zqN ?_|refine az haw.down ?_|refine az hM.down ?_|refine az g0.down ?_|refine az g1.down ?_|refine az hcl.down ?_|refine az o1.down ?_|refine az o2.down ?_|refine az he.down ?_|refine aK ?_|refine aL ?_|(refine aM ?_ ?_<;>intro hc<;>try exact zqM)|refine zqR 4 [⟨0,[],[36,37,39,40,41,42],[],[],0⟩,⟨1,[0],[36,37,39,40,41,42],[],[],0⟩,⟨2,[],[34,35,39,40,41,42],[],[],0⟩,⟨3,[2],[34,35,39,40,41,42],[],[],0⟩,⟨4,[0,1,2,3],[39,40,41,42],[],[],0⟩,⟨5,[],[34,35,36,37,38,41,42],[],[],0⟩,⟨6,[5],[34,35,36,37,38,41,42],[],[],0⟩,⟨7,[],[34,35,36,37,38,39,40],[],[],0⟩,⟨8,[7],[34,35,36,37,38,39,40],[],[],0⟩,⟨9,[0,1,2,3,4,5,6,7,8],[],[],[],0⟩,⟨10,[0,1,2,3,4,5,6,7,8,9],[],[],[],0⟩,⟨11,[0,1,2,3,4,5,6,7,8,9,10],[],[],[],0⟩] ?_|refine zqR 5 [⟨0,[],[10,46,47,48,49],[],[],0⟩,⟨1,[],[10,45,48,49],[],[],0⟩,⟨2,[1],[10,45,48,49],[],[],0⟩,⟨3,[],[10,45,46,47,49],[],[],0⟩,⟨4,[],[10,45,46,47,48],[],[],0⟩,⟨5,[0,1,2,3,4],[10],[],[],0⟩,⟨6,[0,1,2,3,4,5],[10],[],[],0⟩,⟨7,[0,1,2,3,4,5,6],[10,52],[],[],0⟩,⟨8,[0,1,2,3,4,5,6],[10,51],[6],[],0⟩,⟨9,[],[44,45,46,47,48,49,50,51,52],[],[],1⟩,⟨10,[0,1,2,3,4,5,6,7,9],[52],[],[6],0⟩,⟨11,[0,1,2,3,4,5,6,7,8,9,10],[],[],[],0⟩] ?_|refine zqD ?_|fail)
  all_goals first
   |((refine Ends.mk2 zqI [] ?_;simp-dsimp(disch:=try exact vD) only[push_cast,simprocAttr,Tryz.f8];try exact zqF);done)
   |skip
theorem ajG(hD:DOk n F r)(g:Gd ps p d n)(gs:Gd ts site dt m)(hm:m≤4):Sm (siV ss site m n F r p):=by
 have h12:=hD.n12
 have b:=Zd (S:=bSt ss) (G:=fun p=>Pr p n fun t=> !aG F t r) (D:=pp d 0 n) (K:=3^n) (fun p hp=>Bo hD hp) gs.cs m 0 p (by omega) g.cs
 have hp1:=uK (d:=d) (i:=0) (k:=n) fun j _ hj=>⟨(g.cs j (by omega)).2.1,(g.cs j (by omega)).2.2⟩
 have hp2:=uK (d:=dt) (i:=0) (k:=m) fun j _ hj=>⟨(gs.cs j (by omega)).2.1,(gs.cs j (by omega)).2.2⟩
 refine Fv hm h12 hp2.1 hp1.1 hp2.2 hp1.2 ?_ b
 rw[←Nat.pow_add]
 exact Nat.le_trans (Nat.pow_le_pow_right (by omega) (show m+n≤16 by omega)) (by omega)
theorem ZJ(h:MQ N B L)(hl:ss.length=m)(hm2:m<2^47)(hz:zs=true→ss=[])(hc0:MO l0 k0)(hc1:MO l1 k1):ACall Tryz.prog 8 [.agg (drC N z B L up),.isl zs (cX ss) m,.agg [.isl z0 (cR l0) k0,.isl z1 (cR l1) k1]] [] 0 (.val (.bool true)) []:=by
 by_cases hno:4<m∧m≤12∨14<m
 ·exact ML hl hm2 hno
 obtain⟨n,F,r,M,hn6,hD,hN,hM⟩:=xh (z:=z) (up:=up) h
 have g:=yR (l:=l1) (n:=n)
 have gs:=yR (l:=l0) (n:=m)
 have h0:=uq (zl:=z0) (n:=m) hc0 (by omega)
 have h1:=uq (zl:=z1) (n:=n) hc1 (by omega)
 have hcl:=Zy (z:=zs) hl (by omega) hz
 have hv:=iN (z:=(M==0)) hD hN
 have hw:=afc (z:=(M==0)) hD hN (by omega)
 by_cases h4:m≤4
 ·obtain⟨e,ha⟩:=Y7 ss n
  have o1:=xe (z:=(M==0)) (zs:=zs) (zt:=(m==0)) (zp:=(n==0)) hD hN g gs h4 hl (fun h=>by simpa using h) ha
  have o2:=Ug (z:=(M==0)) (zs:=zs) (zt:=(m==0)) (zp:=(n==0)) hw hD hN g gs h4 hl (fun h=>by simpa using h) ha
  have he:ACall Tryz.prog 17 [.agg (aa.cells (if e=0 then rC (siV ss (chP l0) m n F r (chP l1)) else rZ)),.agg (aa.cells (if e=0 then rC (siV ss (chP l0) m n F r (chP l1)) else rZ))] [] 0 (.val (.bool true)) []:=by
   by_cases he0:e=0
   ·rw[if_pos he0];exact eq_self _ (ajG hD g gs h4)
   ·rw[if_neg he0];exact fT
  unfold dI at*
  exact Fx hl (.inl h4) hn6 hM h0 h1 hcl o1 o2 he
 ·have o1:=Zg (zs:=zs) (zt:=(m==0)) (zp:=(n==0)) (ss:=ss) (ts:=lsL l0 m) (ps:=lsL l1 n) hv (show 12<m by omega) (by omega)
  have o2:=TZ (zs:=zs) (zt:=(m==0)) (zp:=(n==0)) (ss:=ss) (ts:=lsL l0 m) (ps:=lsL l1 n) iZ hw (show 12<m by omega) (by omega)
  unfold dI at*
  exact Fx hl (.inr (by omega)) hn6 hM h0 h1 hcl o1 o2 fT
end
