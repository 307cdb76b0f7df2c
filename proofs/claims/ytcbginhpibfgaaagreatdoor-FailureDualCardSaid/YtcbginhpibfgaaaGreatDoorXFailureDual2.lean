/- Di23 LawD1 LawD0 LawE0 FailArgs FacFailureDual LawDD LawEH. No condition. -/
import Derived.Test.YtcbginhpibfgaaaGreatDoorXFailureDual1
import Derived.Test.YtcbginhpibfgaaaGreatDoorFacAll
import Derived.Test.YtcbginhpibfgaaaGreatDoorFDoor
import Derived.Test.YtcbginhpibfgaaaGreatDoorFcG1
import Derived.Test.YtcbginhpibfgaaaGreatDoorLawD1
import Derived.Test.YtcbginhpibfgaaaGreatDoorCards
import Derived.SevenTiedAt
set_option linter.all false
set_option maxHeartbeats 4000000
set_option maxRecDepth 20000
namespace Go.Proofs.YtcbginhpibfgaaaGreatDoor
section
open Go Go.Sy Go.Bp Go.Dg
attribute [local irreducible] AO AL AC OpT ACall Ends DGo bK Thn Blk Nxt
section
variable {n N M L T k i m r a b j w u v s q x y d:Nat} {z up:Bool} {B:List Nat} {e:Int} {p:Nat→Bool}
theorem l6{l:List Bool}:isx l s 0=false:=rfl
theorem ajx(hN:N<256)(hL:B.length=L)(hL2:L<2^47)(hn:N%7=n)(hT:2^n=T)(hb:∀i,B.getD i 0<256):ACall Tryz.prog 13 [.agg (drC N z B L true)] [] 0 (dgV ((kM n (mkT (mdB B L) true T)).1.length==0) n (kM n (mkT (mdB B L) true T)).1 (kM n (mkT (mdB B L) true T)).2) []:=by
 have hx:=ae;have hq:=ae;have hg:=ae;have hb0:=ae;have hbs:=ae;have hL00:=ae;have hv:=ae;have ht:=ae;have hw:=ae;have hst:=ae;have hsn:=ae;have hlT:=ae;have hmin:=ae;have hs0:=ae
 have hn6:n≤6:=by omega
 have hT64:T≤64:=by rw[←hT];exact(Nat.pow_le_pow_right (by omega) hn6:2^n≤2^6)
 have hTp:0<T:=by rw[←hT];exact Nat.two_pow_pos n
 have hsh:=Bc (n:=n) (by omega)
 have hfr:=PLift.up (lV (n:=n) (tb:=mkT (mdB B L) true T) (M:=T) (by omega) (uo _) hT.symm)
 have htk:=Zz (p:=mdB B L) (up:=true) (T:=T)
 have hwi:=fun(x s:Nat) (hx:x<65536) (h:s<65536)=>PLift.up (by
  have:=Bh (s:=x) (q:=s)
  rw[Lp hx,Lp h] at this;exact this)
 rw[hT] at hsh
 unfold dgV at*
 generalize((kM n (mkT (mdB B L) true T)).1.length==0)=zb at hfr⊢
 generalize kM n (mkT (mdB B L) true T)=R at hfr⊢
 unfold drC
 refine ak Tryz.func13 Tryz.ntmps13 rfl ?_
 repeat' (first|((first|refine bI (r:=12) 2 ?_|refine bH (r:=12) 2 ?_);simp-dsimp(disch:=try exact vD) only[push_cast,simprocAttr,Bool.true_or,Bool.false_or,Bool.or_false,l6,htk,hsh,hmin,hs0,hq,hg,hb0,hbs,hL00,hv,ht,hw,hst,hlT,drC];(repeat refine aI ?_);intro K hK;refine hK _ _ ?_;clear hK K)|(refine ai ?_;refine au [0,1,2] ([0,1,2].length) (mdG z N B L n s (mdB B L s)) (fun x=>s-x.val) (⟨0,by omega⟩) rfl (by unfold mdG;(try simp only[List.cons_append,List.nil_append]);refine Sub.mk2 ?_;(simp-dsimp(disch:=try exact vD) only[push_cast,simprocAttr,Bool.true_or,Bool.false_or,Bool.or_false,l6,htk,hsh,hmin,hs0,hq,hg,hb0,hbs,hL00,hv,ht,hw,hst,hlT,drC]);(repeat refine aI ?_);first|done|exact vI) ?_;(rintro⟨x,hx⟩;have hst:=alV (l:=mkT (mdB B L) true s) (s:=s) (x:=x);have hsn:mkT (mdB B L) true s++[or (mdB B L s) (isx (mkT (mdB B L) true s) s s)]=mkT (mdB B L) true (s+1):=(by rw[mkT,Bool.true_and]);rw[hb0] at hsn;rcases Nat.lt_or_eq_of_le hx with hxl|hxl<;>first|(have ex:s=x:=hxl.symm;subst ex;rcases Bool.eq_false_or_eq_true (isx (mkT (mdB B L) true s) s s) with hv|hv<;>rw[hv] at hsn<;>(try simp only[Bool.true_or,Bool.false_or,Bool.or_false,Bool.or_true] at hsn)<;>first|(have s00:s=0:=s0;subst s00;have hsn:=congrArg cB hsn;have hsn:[AV.val (.bool _)]=cB (mkT (mdB B L) true 1):=hsn;(simp-dsimp(disch:=try exact vD) only[push_cast,simprocAttr,mdG]))|(simp-dsimp(disch:=try exact vD) only[push_cast,simprocAttr,mdG]))|(rcases Bool.eq_false_or_eq_true (isx (mkT (mdB B L) true s) s x) with hv|hv<;>rw[hv] at hst<;>first|(rw[Bool.true_or] at hst;(simp-dsimp(disch:=try exact vD) only[push_cast,simprocAttr,mdG]))|(rw[Bool.false_or] at hst;rcases Bool.eq_false_or_eq_true ((mkT (mdB B L) true s).getD x default) with ht|ht<;>rw[ht] at hst<;>first|(rw[Bool.false_and] at hst;(simp-dsimp(disch:=try exact vD) only[push_cast,simprocAttr,mdG]))|(rw[Bool.true_and] at hst;rcases Decidable.em (yw x s%65536=0) with hw|hw<;>first|(rw[decide_eq_true hw] at hst;(simp-dsimp(disch:=try exact vD) only[push_cast,simprocAttr,mdG]))|(rw[decide_eq_false hw] at hst;(simp-dsimp(disch:=try exact vD) only[push_cast,simprocAttr,mdG])))))))|(refine ax ?_;refine Nxt.mk [0,1,2] (⟨x+1,by omega⟩) rfl (by unfold mdG;(try simp only[List.cons_append,List.nil_append]);refine Sub.mk2 ?_;(simp-dsimp(disch:=try exact vD) only[push_cast,simprocAttr,Bool.true_or,Bool.false_or,Bool.or_false,l6,htk,hsh,hmin,hs0,hq,hg,hb0,hbs,hL00,hv,ht,hw,hst,hlT,drC]);(repeat refine aI ?_);first|done|exact vI) (by first|omega|(dsimp only;omega)|(simp;done)|(simp;omega)))|(refine ai ?_;refine au [0,1,9] ([0,1,9].length) (mdA z N B L true n T) (fun s=>T-s.val) (⟨0,by omega⟩) rfl (by unfold mdA;(try simp only[List.cons_append,List.nil_append]);refine Sub.mk2 ?_;(simp-dsimp(disch:=try exact vD) only[push_cast,simprocAttr,Bool.true_or,Bool.false_or,Bool.or_false,l6,htk,hsh,hmin,hs0,hq,hg,hb0,hbs,hL00,hv,ht,hw,hst,hlT,drC]);(repeat refine aI ?_);first|done|exact vI) ?_;(rintro⟨s,hs⟩;rcases Nat.lt_or_eq_of_le hs with hsl|hsl<;>first|(have es:T=s:=hsl.symm;subst es;(simp-dsimp(disch:=try exact vD) only[push_cast,simprocAttr,mdA]))|(have hlT:=uo (p:=mdB B L) (up:=true) s;rcases Nat.eq_zero_or_pos s with s0|s0<;>rcases Nat.eq_zero_or_pos L with h0|h0<;>first|(have hb0:mdB B L s=false:=(by rw[h0];exact afa);have hL00:(0<(L:Int))=False:=eq_false (by omega);(simp-dsimp(disch:=try exact vD) only[push_cast,simprocAttr,mdA]))|(have hb0:=afb (B:=B) (s:=s) h0;have hmin:min ((s:Int)%8).toNat IntKind.u8.bits=((s:Int)%8).toNat:=Nat.min_eq_left (by show _≤8;omega);have hqL:s/8%L<L:=Nat.mod_lt _ h0;have hq:((s:Int)/8%(L:Int))=((s/8%L:Nat):Int):=(by norm_cast);obtain⟨q,hqe⟩:∃q,s/8%L=q:=⟨_,rfl⟩;rw[hqe] at hq hqL hb0;have hg:=Bi (l:=B) (j:=q) (by omega);have hlB:(NI B).length=L:=(by rw[dS,hL]);obtain⟨y,hye⟩:∃y,B.getD q 0=y:=⟨_,rfl⟩;have hy:=hb q;rw[hye] at hg hy hb0;rcases Bool.eq_false_or_eq_true (bsI y s) with h8|h8<;>rw[h8] at hb0<;>first|(have hbs:=eq_true (of_decide_eq_true h8);(simp-dsimp(disch:=try exact vD) only[push_cast,simprocAttr,mdA]))|(have hbs:=eq_false (of_decide_eq_false h8);(simp-dsimp(disch:=try exact vD) only[push_cast,simprocAttr,mdA]))))))|(refine ax ?_;refine Nxt.mk [0,1,4] (⟨1,by omega⟩) rfl (by unfold mdA;(try simp only[List.cons_append,List.nil_append]);refine Sub.mk2 ?_;(simp-dsimp(disch:=try exact vD) only[push_cast,simprocAttr,Bool.true_or,Bool.false_or,Bool.or_false,l6,htk,hsh,hmin,hs0,hq,hg,hb0,hbs,hL00,hv,ht,hw,hst,hlT,drC,hsn]);(repeat refine aI ?_);first|done|exact vI) (by first|omega|(dsimp only;omega)|(simp;done)|(simp;omega)))|(refine ax ?_;refine Nxt.mk [0,1,2] (⟨s+1,by omega⟩) rfl (by unfold mdA;(try simp only[List.cons_append,List.nil_append]);refine Sub.mk2 ?_;(simp-dsimp(disch:=try exact vD) only[push_cast,simprocAttr,Bool.true_or,Bool.false_or,Bool.or_false,l6,htk,hsh,hmin,hs0,hq,hg,hb0,hbs,hL00,hv,ht,hw,hst,hlT,drC,hsn]);(repeat refine aI ?_);first|done|exact vI) (by first|omega|(dsimp only;omega)|(simp;done)|(simp;omega)))|(refine ax ?_;refine Nxt.mk [0,1,3] (⟨s+1,by omega⟩) rfl (by unfold mdA;(try simp only[List.cons_append,List.nil_append]);refine Sub.mk2 ?_;(simp-dsimp(disch:=try exact vD) only[push_cast,simprocAttr,Bool.true_or,Bool.false_or,Bool.or_false,l6,htk,hsh,hmin,hs0,hq,hg,hb0,hbs,hL00,hv,ht,hw,hst,hlT,drC,hsn]);(repeat refine aI ?_);first|done|exact vI) (by first|omega|(dsimp only;omega)|(simp;done)|(simp;omega)))|(refine ax ?_;refine Nxt.mk [0,1,4] (⟨s+1,by omega⟩) rfl (by unfold mdA;(try simp only[List.cons_append,List.nil_append]);refine Sub.mk2 ?_;(simp-dsimp(disch:=try exact vD) only[push_cast,simprocAttr,Bool.true_or,Bool.false_or,Bool.or_false,l6,htk,hsh,hmin,hs0,hq,hg,hb0,hbs,hL00,hv,ht,hw,hst,hlT,drC,hsn]);(repeat refine aI ?_);first|done|exact vI) (by first|omega|(dsimp only;omega)|(simp;done)|(simp;omega)))|apply dG|apply aF|((first|refine ay rfl (fun K hK=>?_)|refine aj (fun K hK=>?_)|refine aA (fun K hK=>?_));(first|refine ah (f:=42) [] 0 false ?_|refine ah (f:=41) [] 0 false ?_);simp-dsimp(disch:=try exact vD) only[push_cast,simprocAttr,Bool.true_or,Bool.false_or,Bool.or_false,l6,htk,hsh,hmin,hs0,hq,hg,hb0,hbs,hL00,hv,ht,hw,hst,hlT,drC];(repeat refine aI ?_);intro G hG;refine hG _ _ ?_;clear hG G;(first|refine⟨_,_,hfr.down,?_⟩|refine⟨_,_,(hwi x s (by omega) (by omega)).down,?_⟩);simp-dsimp(disch:=try exact vD) only[push_cast,simprocAttr,Bool.true_or,Bool.false_or,Bool.or_false,l6,htk,hsh,hmin,hs0,hq,hg,hb0,hbs,hL00,hv,ht,hw,hst,hlT,drC];(repeat refine aI ?_);apply hK;clear hK K)|((first|refine ay rfl (fun K hK=>?_)|refine aj (fun K hK=>?_)|refine aA (fun K hK=>?_));(first|apply cO|apply aZ|apply df|apply aT|apply aW|apply bf|apply bu|apply fK|apply bZ|apply fA|apply gm|apply fu|apply eG|apply aX|apply dK|apply dP|apply dm|apply bU|apply dY|apply dM);simp-dsimp(disch:=try exact vD) only[push_cast,simprocAttr,Bool.true_or,Bool.false_or,Bool.or_false,l6,htk,hsh,hmin,hs0,hq,hg,hb0,hbs,hL00,hv,ht,hw,hst,hlT,drC];(repeat refine aI ?_);apply hK;clear hK K)|((first|refine ay rfl (fun K hK=>?_)|refine aj (fun K hK=>?_)|refine aA (fun K hK=>?_));(first|apply gz);simp-dsimp(disch:=try exact vD) only[push_cast,simprocAttr,Bool.true_or,Bool.false_or,Bool.or_false,l6,htk,hsh,hmin,hs0,hq,hg,hb0,hbs,hL00,hv,ht,hw,hst,hlT,drC];(repeat refine aI ?_);apply hK;clear hK K)|((first|refine ay rfl (fun K hK=>?_)|refine aj (fun K hK=>?_)|refine aA (fun K hK=>?_));(first|apply eO);simp-dsimp(disch:=try exact vD) only[push_cast,simprocAttr,Bool.true_or,Bool.false_or,Bool.or_false,l6,htk,hsh,hmin,hs0,hq,hg,hb0,hbs,hL00,hv,ht,hw,hst,hlT,drC];(repeat refine aI ?_);apply hK;clear hK K)|((first|refine ay rfl (fun K hK=>?_)|refine aj (fun K hK=>?_)|refine aA (fun K hK=>?_));(first|apply eH);simp-dsimp(disch:=try exact vD) only[push_cast,simprocAttr,Bool.true_or,Bool.false_or,Bool.or_false,l6,htk,hsh,hmin,hs0,hq,hg,hb0,hbs,hL00,hv,ht,hw,hst,hlT,drC];(repeat refine aI ?_);apply hK;clear hK K)|((first|refine aQ rfl rfl (fun K1 K2 h1 h2=>?_) rfl|refine aJ (fun K1 K2 h1 h2=>?_)|refine bL rfl rfl (fun K1 K2 h1 h2=>?_));simp-dsimp(disch:=try exact vD) only[push_cast,simprocAttr,Bool.true_or,Bool.false_or,Bool.or_false,l6,htk,hsh,hmin,hs0,hq,hg,hb0,hbs,hL00,hv,ht,hw,hst,hlT,drC];(first|(refine⟨fun hc=>?_,fun hc=>?_⟩<;>first|(exfalso;omega)|(exfalso;contradiction)|refine h1 ?_|refine h2 ?_)|refine h1 ?_|refine h2 ?_);all_goals clear h1 h2 K1 K2)|(refine aV (id:=6) (by kernel_rfl) [⟨0,[],[],[],[],0⟩,⟨1,[0],[],[],[],0⟩,⟨2,[0,1],[],[],[],0⟩,⟨3,[0,1,2],[],[],[],0⟩,⟨4,[0,1,2,3],[],[],[],0⟩,⟨5,[0,1,2,3,4],[25,26,27,28,29,30,33,34],[],[],0⟩,⟨6,[0,1,2,3,4,5],[25,26,27,28,29,30,33,34],[],[],0⟩,⟨7,[0,1,2,3,4],[23,24,27,28,29,33,34],[],[],0⟩,⟨8,[0,1,2,3,4,7],[23,24,27,28,29,33,34],[],[],0⟩,⟨9,[0,1,2,3,4],[23,24,25,26,33,34],[],[],0⟩,⟨10,[0,1,2,3,4,9],[23,24,25,26,33,34],[],[],0⟩,⟨11,[0,1,2,3,4,9,10],[23,24,25,26,33,34],[],[],0⟩,⟨12,[0,1,2,3,4,7,8,9,10,11],[23,24,33,34],[],[],0⟩,⟨13,[0,1,2,3,4,5,6,7,8,9,10,11,12],[33,34],[],[],0⟩,⟨14,[0,1,2,3,4,5,6,7,8,9,10,11,12,13],[33,34],[],[],0⟩,⟨15,[0,1,2,3,4],[23,24,25,26,27,28,29,30,31,32],[],[],0⟩,⟨16,[0,1,2,3,4,15],[23,24,25,26,27,28,29,30,31,32],[],[],0⟩,⟨17,[0,1,2,3,4,5,6,7,8,9,10,11,12,13,14,15,16],[],[],[],0⟩,⟨18,[0,1,2,3,4,5,6,7,8,9,10,11,12,13,14,15,16,17],[],[],[],0⟩,⟨19,[0,1,2,3,4,5,6,7,8,9,10,11,12,13,14,15,16,17,18],[],[],[],0⟩,⟨20,[0,1,2,3,4,5,6,7,8,9,10,11,12,13,14,15,16,17,18,19],[],[],[],0⟩,⟨21,[0,1,2,3,4,5,6,7,8,9,10,11,12,13,14,15,16,17,18,19,20],[],[],[],0⟩] (by kernel_rfl) (by kernel_rfl) (by kernel_rfl) ?_)|((first|refine dW (by kernel_rfl) (fun K hK=>?_)|refine gy (by kernel_rfl) (fun K hK=>?_));simp only[↓Go.Sy.dz,↓Go.Sy.dA,↓Go.Sy.dU,↓Go.Sy.dD,↓Go.Sy.dV,↓Go.Sy.cZ,↓Go.Sy.dE,push_cast,Nat.reduceLeDiff,Nat.reduceSub,Nat.reduceBEq,Nat.reduceEqDiff,Nat.reduceAdd,Nat.reduceLT,↓reduceIte,reduceCtorEq];refine hK _ _ _ ?_;clear hK K)|apply jl|apply dH|apply aR|apply bX|apply bz|apply aS|apply bY|apply bA|(refine aY rfl ?_)|apply bB|apply bW|apply bV|apply dF)
 all_goals first
  |((refine Ends.mk2 (by first|exact .inr rfl|exact .inl rfl) [] ?_;simp-dsimp(disch:=try exact vD) only[push_cast,simprocAttr,Tryz.f13];try exact zqF);done)
  |skip
end
section
variable {n N M T L k i m r a b j w u v s q x y d:Nat} {z z' up up':Bool} {B B':List Nat} {F:List Fo} {p f g:Nat→Bool}
theorem aep{D:List Fo} {tab:Nat→Bool}(h:fC n tab=(D,w)):∀t,t<2^n→aG D t w=tab t:=fun t ht=>by
 have:=(JF (n:=n) (tab:=tab)).val t ht
 rw[h] at this;exact this
end
section
variable {n N M T L k i m r a b j w u v s q x y d:Nat} {z z' up up':Bool} {B B':List Nat} {F:List Fo} {p f g:Nat→Bool}
theorem ZA(h:MQ N B L):∃F r,DOk (N%7) F r∧ACall Tryz.prog 13 [.agg (drC N z B L up)] [] 0 (.agg [.val (.int .i64 (N%7:Nat)),.isl (F.length==0) (cR F) F.length,.val (.int .i64 r)]) []:=by
 cases up with
 |false=>exact⟨_,_,nD (by omega),ajw h.n h.len h.lt rfl rfl h.b⟩
 |true=>exact⟨_,_,nD (by omega),ajx h.n h.len h.lt rfl rfl h.b⟩
end
end
section
open Go Go.Sy Go.Lm Go.Rt Go.Dg
attribute [local irreducible] AO AL AC OpT ACall Ends DGo bK Thn Blk Nxt
variable {n N M L k i m r:Nat} {z zl:Bool} {up:Bool} {B:List Nat} {l:List Chc} {F:List Fo}
structure MO(l:List Chc)(k:Nat):Prop where
 len:l.length=k
 lt:k<2^47
 b:∀i,(l.getD i default).a<256∧(l.getD i default).b<256
def chP(l:List Chc)(i:Nat):Rat:=chQ (l.getD i default)
theorem mV:0≤chP l i∧chP l i≤1∧(chP l i).den≤1000000:=by
 have h:=YZ (l.getD i default)
 exact⟨h.1,h.2.1,Nat.le_trans h.2.2 (by decide)⟩
theorem yR:Gd (lsL l n) (chP l) (fun i=>(chP l i).den) n:=Gd.rc iZ (fun i hi=>Fs hi) fun i _=>mV
theorem uq(h:MO l k)(hn:n≤1000):ACall Tryz.prog 14 [.isl zl (cR l) k,.val (.int .i64 n)] [] 0 (.isl (n==0) (cR (lsL l n)) n) []:=
 ad9 h.len h.lt hn fun i _=>ME (h.b i).1 (h.b i).2
theorem xh(h:MQ N B L):∃n F r M,n≤6∧DOk n F r∧F.length=M∧ACall Tryz.prog 13 [.agg (drC N z B L up)] [] 0 (dI (M==0) n (F.map fk) M r) []:=by
 obtain⟨F,r,hD,hM⟩:=ZA (z:=z) (up:=up) h
 refine⟨N%7,F,r,F.length,by omega,hD,rfl,?_⟩
 unfold dI;rw[gV];exact hM
end
section
open Go Go.Sy Go.Bp Go.Dg Go.Lm
theorem Bq{m:Nat} {av:List AV}(h:dO Tryz.prog m 52 av):∃x:Chc,av=aa.cells x∧x.a<256∧x.b<256:=by
 obtain⟨_,xs,rfl,hl,hx⟩:=jm Tryz.underlying52 h
 match xs,hl with
 |[a0,a1],_=>
  obtain⟨b0,rfl,h0⟩:=gT Tryz.underlying5 (hx 0 _ a0 rfl rfl)
  obtain⟨b1,rfl,h1⟩:=gT Tryz.underlying5 (hx 1 _ a1 rfl rfl)
  have h0:=wC h0
  have h1:=wC h1
  obtain⟨n0,rfl⟩:=Int.eq_ofNat_of_zero_le h0.1
  obtain⟨n1,rfl⟩:=Int.eq_ofNat_of_zero_le h1.1
  exact⟨⟨n0,n1⟩,rfl,(by omega:n0<256),(by omega:n1<256)⟩
theorem iO{m:Nat} {av:List AV}(h:dO Tryz.prog m 25 av):∃(z:Bool) (l:List Chc),av=[.isl z (cR l) l.length]∧MO l l.length:=by
 obtain⟨z,l,e,ho,hl,_⟩:=lN (g:=fun(x:Chc)=>aa.cells x) (Q:=fun x=>x.a<256∧x.b<256) (bn:=2) Tryz.underlying25 h (by kernel_rfl) (by decide) (fun n x hx=>Bq hx)
 refine⟨z,l,e,rfl,hl,fun i=>?_⟩
 by_cases hi:i<l.length
 ·rw[List.getD_eq_getElem?_getD,List.getElem?_eq_getElem hi];exact ho _ (List.getElem_mem hi)
 ·rw[List.getD_eq_getElem?_getD,List.getElem?_eq_none (by omega)];exact⟨by decide,by decide⟩
end
set_option maxRecDepth 100000
section
open Go
theorem Fy:Rows.failureDualRow.wf (OpenSpec.ofChange Rows.failureDualSpec)=true:=by kernel_rfl
theorem Fz:Tryz.f10.params.all (Tryz.prog.readableRec ·)=true:=by kernel_rfl
theorem FB:namedTie Tryz.prog Rows.failureDualRow.named Rows.failureDualSpec.vars=true:=by kernel_rfl
theorem FC:(Rows.failureDualRow.stops==[])=true:=by kernel_rfl
theorem FD:(Rows.failureDualRow.knobs==[])=true:=by kernel_rfl
theorem FE:(Rows.failureDualRow.inPlace==Tryz.prog.inPlace 10)=true:=by kernel_rfl
theorem BN:(Rows.failureDualRow.unfollowed==Tryz.prog.unfollowed 10)=true:=by kernel_rfl
theorem BO:(Rows.failureDualRow.recurses==Tryz.prog.recurses 10)=true:=by kernel_rfl
theorem BP:(Rows.failureDualRow.named==Tryz.prog.varsNamed 10)=true:=by kernel_rfl
theorem BQ:(Rows.failureDualRow.maps==(Tryz.f10.params.toList++Rows.failureDualSpec.plain.varTypes Tryz.prog).any (Tryz.prog.mapsRec ·))=true:=by kernel_rfl
theorem BR:(Rows.failureDualRow.ifaces==(Tryz.f10.params.toList++Rows.failureDualSpec.plain.varTypes Tryz.prog).any (Tryz.prog.ifacesRec ·))=true:=by kernel_rfl
theorem BS:(Rows.failureDualRow.mapsOut==Tryz.prog.mapsAmong Tryz.f10.resultTypes.toList)=true:=by kernel_rfl
theorem BU:(Rows.failureDualRow.loops==(Tryz.f10.params.toList++Rows.failureDualSpec.plain.varTypes Tryz.prog).any (Tryz.prog.loopsFrom ·))=true:=by kernel_rfl
theorem BV:(Rows.failureDualRow.wideKeys==(Tryz.f10.params.toList++Rows.failureDualSpec.plain.varTypes Tryz.prog++Tryz.f10.resultTypes.toList).any (Tryz.prog.wideKeysFrom ·))=true:=by kernel_rfl
theorem BX:Rows.failureDualSpec.vars.all (Tryz.prog.varReadable ·)=true:=by kernel_rfl
theorem BZ:Tryz.f10.resultTypes.all (fun t=>Tryz.prog.readableRec t&&decide (t<Tryz.prog.types.size))=true:=by kernel_rfl
theorem Ca:(Rows.failureDualRow.ifacesOut==Tryz.f10.resultTypes.toList.any (Tryz.prog.ifacesRec ·))=true:=by kernel_rfl
theorem Cb:(Rows.failureDualRow.loopsOut==Tryz.f10.resultTypes.toList.any (Tryz.prog.loopsFrom ·))=true:=by kernel_rfl
theorem Cc:(Rows.failureDualRow.plainKeys==Tryz.prog.plainKeys)=true:=by kernel_rfl
theorem Ce:Rows.failureDualRow.shortTexts.isNone=true:=by kernel_rfl
theorem Cf:(Rows.failureDualRow.lifted==Tryz.prog.liftsFinal)=true:=by kernel_rfl
theorem Cg:(Tryz.prog.make==some Rows.failureDualRow.make)=true:=by kernel_rfl
theorem Ch:(Rows.failureDualRow.kinds==(if Rows.failureDualRow.domain.isEmpty then [] else Tryz.f10.params.toList.map fun t=>match Tryz.prog.underlying t with|some (.int k)=>some k|_=>none))=true:=by kernel_rfl
theorem Ci:(Rows.failureDualRow.pinned==Rows.failureDualRow.pinnedBy)=true:=by kernel_rfl
theorem Cj:(Rows.failureDualRow.veiled==(Tryz.f10.params.toList++Rows.failureDualSpec.plain.varTypes Tryz.prog++Tryz.f10.resultTypes.toList).any (Tryz.prog.veiledRec ·))=true:=by kernel_rfl
theorem Ck:Rows.failureDualRow.veiledFits Tryz.prog Tryz.f10.params.toList (Tryz.f10.params.toList++Rows.failureDualSpec.plain.varTypes Tryz.prog++Tryz.f10.resultTypes.toList)=true:=by kernel_rfl
theorem Cm:joinedFacts Tryz.prog 10 Tryz.f10 Rows.failureDualSpec Rows.failureDualRow=true:=by
 simp only[joinedFacts,Bool.and_eq_true]
 exact⟨⟨⟨⟨⟨⟨⟨⟨⟨⟨⟨⟨⟨⟨⟨⟨⟨⟨⟨⟨⟨⟨⟨⟨⟨⟨⟨⟨⟨⟨⟨Fy,nI⟩,nJ⟩,Fz⟩,FB⟩,FC⟩,nK⟩,FD⟩,nL⟩,FE⟩,BN⟩,BO⟩,BP⟩,BQ⟩,BR⟩,BS⟩,BU⟩,BV⟩,BX⟩,BZ⟩,Ca⟩,Cb⟩,Cc⟩,Ce⟩,kN⟩,kQ⟩,Cf⟩,Cg⟩,Ch⟩,Ci⟩,Cj⟩,Ck⟩
theorem failureDual_nam:Tryz.pinned.checked.prog.funcNamed Rows.failureDualRow.func=some 10:=by kernel_rfl
theorem Cn:Tryz.f10.isInstance Tryz.pinned.checked.prog Rows.failureDualRow.origin Rows.failureDualRow.targs:=of_decide_eq_true (by kernel_rfl)
theorem Co:Tryz.f10.isWrapper Tryz.pinned.checked.prog Rows.failureDualRow.wrapper Rows.failureDualRow.mainSum:=by unfold Func.isWrapper;first|(rw[if_pos (by decide+kernel)];kernel_rfl)|(rw[if_neg (by decide+kernel)];exact⟨rfl,rfl⟩)
theorem Cq:Rows.failureDualRow.wfByText (OpenSpec.ofChange Rows.failureDualSpec)=true:=by kernel_rfl
theorem Cr:Tryz.pinned.checked.prog.mainIs=some (true, "6c6ed28039965d1e05ce70114d4f84b00907715979fcf266077e3121104a4804".toList):=by kernel_rfl
theorem Ct:false=Tryz.pinned.checked.prog.looks []:=by kernel_rfl
theorem Cu:([24,25].all fun u=> !Tryz.prog.wantsStandIn u)=true:=by kernel_rfl
theorem Cv:false=Rows.failureDualRow.goesBy Tryz.pinned.checked.prog:=by kernel_rfl
end
set_option maxRecDepth 20000
section
open Go Go.Sy Go.Bp Go.Dg
attribute [local irreducible] AO AL AC OpT ACall Ends DGo bK Thn Blk Nxt
variable {n N M T L k i m r a b j w u v s q x y d:Nat} {z z' up up':Bool} {B B':List Nat} {F:List Fo} {p f g:Nat→Bool}
theorem ZL{D:List Fo}(hD:DOk n F r)(hM:F.length=M)(he:(fC n fun t=> !aG F (cpl n t) r)=(D,w)):ACall Tryz.prog 36 [.agg [.val (.int .i64 n),.isl z (cR F) M,.val (.int .i64 r)]] [] 0 (.agg [.val (.int .i64 n),.isl (D.length==0) (cR D) D.length,.val (.int .i64 w)]) []:=by
 have hf:=hD.few;have hl:=hD.lt
 have:=ad5 (z:=z) hD.n12 hD.bnd hD.v16 hM (by omega) (show r<2^50 by omega) rfl
 rw[he] at this;exact this
end
section
open Go Go.Sy Go.Lm Go.Rt Go.Dg
attribute [local irreducible] AO AL AC OpT ACall Ends DGo bK Thn Blk Nxt
variable {n N M K L k i m r w:Nat} {z zl zm zk zn:Bool} {up:Bool} {B:List Nat} {l:List Chc} {F:List Fo} {X Y S:RV} {ps qs:List RV} {C D:List AV}
theorem Uo(hM:ACall Tryz.prog 13 [.agg (drC N z B L up)] [] 0 (.agg [.val (.int .i64 n),.isl zm C M,.val (.int .i64 r)]) [])(hls:ACall Tryz.prog 14 [.isl zl (cR l) k,.val (.int .i64 n)] [] 0 (.isl zn (cR ps) n) [])
 (o1:ACall Tryz.prog 15 [.agg [.val (.int .i64 n),.isl zm C M,.val (.int .i64 r)],.isl zn (cR ps) n] [] 0 (.tup [.agg (aa.cells X),.val (.int .i64 0)]) [])
 (hd:ACall Tryz.prog 36 [.agg [.val (.int .i64 n),.isl zm C M,.val (.int .i64 r)]] [] 0 (.agg [.val (.int .i64 n),.isl zk D K,.val (.int .i64 w)]) [])
 (ho:ACall Tryz.prog 37 [.isl zn (cR ps) n] [] 0 (.isl zn (cR qs) n) [])
 (o2:ACall Tryz.prog 15 [.agg [.val (.int .i64 n),.isl zk D K,.val (.int .i64 w)],.isl zn (cR qs) n] [] 0 (.tup [.agg (aa.cells Y),.val (.int .i64 0)]) [])
 (hr:ACall Tryz.prog 23 [.val (.int .i64 1),.val (.int .i64 1)] [] 0 (.agg (aa.cells S)) [])
 (ha:ACall Tryz.prog 25 [.agg (aa.cells X),.agg (aa.cells Y)] [] 0 (.tup [.agg (aa.cells S),.val (.int .i64 0)]) [])
 (he:ACall Tryz.prog 17 [.agg (aa.cells S),.agg (aa.cells S)] [] 0 (.val (.bool true)) []):
 ACall Tryz.prog 10 [.agg (drC N z B L up),.isl zl (cR l) k] [] 0 (.val (.bool true)) []:=by
 have hM:=PLift.up hM;have hls:=PLift.up hls;have o1:=PLift.up o1;have o2:=PLift.up o2;have hd:=PLift.up hd;have ho:=PLift.up ho;have hr:=PLift.up hr;have ha:=PLift.up ha;have he:=PLift.up he;have haw:=PLift.up bQ
 unfold drC at*
 refine ak Tryz.func10 Tryz.ntmps10 rfl ?_
 repeat' (first|refine zqN ?_|refine az haw.down ?_|refine az hM.down ?_|refine az hls.down ?_|refine az o1.down ?_|refine az o2.down ?_|refine az hd.down ?_|refine az ho.down ?_|refine az hr.down ?_|refine az ha.down ?_|refine az he.down ?_|refine aK ?_|refine aL ?_|(refine aM ?_ ?_<;>intro hc<;>try exact zqM)|refine zqR 8 [⟨0,[],[],[],[],0⟩,⟨1,[0],[],[],[],0⟩,⟨2,[0,1],[],[],[],0⟩,⟨3,[0,1,2],[],[],[],0⟩,⟨4,[0,1,2,3],[],[],[],0⟩,⟨5,[0,1,2,3,4],[],[],[],0⟩,⟨6,[0,1,2,3,4,5],[],[],[],0⟩,⟨7,[0,1,2,3,4,5,6],[],[],[],0⟩,⟨8,[0,1,2,3,4,5,6,7],[],[],[],0⟩,⟨9,[0,1,2,3,4,5,6,7,8],[],[],[],0⟩,⟨10,[0,1,2,3,4,5,6,7,8,9],[],[],[],0⟩,⟨11,[0,1,2,3,4,5,6,7,8,9,10],[53],[],[],0⟩,⟨12,[0,1,2,3,4,5,6,7,8,9,10],[52],[],[],0⟩,⟨13,[0,1,2,3,4,5,6,7,8,9,10,11,12],[],[],[],0⟩,⟨14,[0,1,2,3,4,5,6,7,8,9,10,11,12,13],[],[],[],0⟩,⟨15,[0,1,2,3,4,5,6,7,8,9,10,11,12,13,14],[],[],[],0⟩] ?_|refine zqD ?_|fail)
 all_goals first
  |((refine Ends.mk2 zqI [] ?_;simp-dsimp(disch:=try exact vD) only[push_cast,simprocAttr,Tryz.f10];try exact zqF);done)
  |skip
theorem ajH{c:Rat}(h:0≤c∧c≤1∧c.den≤1000000):0≤1-c∧1-c≤1∧(1-c).den≤1000000:=by
 obtain⟨h0,h1,hd⟩:=h
 obtain⟨_,hb,hp⟩:=uM h0 h1 hd
 have:=(hb.not).den hp
 have hle:=Nat.le_of_dvd hp this.1
 refine⟨by grind,by grind,by omega⟩
theorem aev(h:MQ N B L)(hc:MO l k):ACall Tryz.prog 10 [.agg (drC N z B L up),.isl zl (cR l) k] [] 0 (.val (.bool true)) []:=by
 obtain⟨n,F,r,M,hn6,hD,hN,hM⟩:=xh (z:=z) (up:=up) h
 have g:=yR (l:=l) (n:=n)
 have hls:=uq (zl:=zl) (n:=n) hc (by omega)
 have o1:=uO (z:=(M==0)) (zp:=(n==0)) hD hN g
 obtain⟨⟨D,w⟩,e2⟩:∃R,(fC n fun t=> !aG F (cpl n t) r)=R:=⟨_,rfl⟩
 have hDD:=DOk.of e2 (by omega)
 have hd:=ZL (z:=(M==0)) hD hN e2
 have ho:=Y0 (zp:=(n==0)) (D:=fun i=>rC (1-chP l i)) iZ (show n≤1000 by omega) IX (fun i hi=>by
  have hs:=(uM (mV (l:=l) (i:=i)).1 mV.2.1 mV.2.2).1
  have:=DK IM (cu hs)
  rw[←eF] at this
  rw[Fs hi];exact this)
 have g2:Gd (lsD (fun i=>rC (1-chP l i)) n) (fun i=>1-chP l i) (fun i=>(1-chP l i).den) n:=Gd.rc ja (fun i hi=>Pi hi) fun i _=>ajH mV
 have o2:=uO (z:=(D.length==0)) (zp:=(n==0)) hDD rfl g2
 have s1:=jo (tab:=fun t=> !aG F t r) g.cs hD.n12
 have s2:=jo (tab:=fun t=> !aG D t w) g2.cs hD.n12
 have ha:=Yj (cu s1) (cu s2)
 rw[←eF,←eF] at ha
 have p1:=Yx (p:=chP l) (n:=n) (tab:=fun t=>aG F t r)
 have p2:=adQ (p:=chP l) (p':=fun i=>1-chP l i) (n:=n) (tab:=fun t=>aG F t r) (tab':=fun t=> !aG D t w) (fun j _=>rfl) (fun t ht=>by
  have hlt:2^n-1-t<2^n:=by have:=Nat.two_pow_pos n;omega
  have:=aep e2 (2^n-1-t) hlt
  show(!aG D (2^n-1-t) w)=_
  rw[this,Bool.not_not]
  rw[show cpl n (2^n-1-t)=t from acj ht])
 have p3:(Pr (chP l) n fun t=> !aG F t r)+(Pr (fun i=>1-chP l i) n fun t=> !aG D t w)=Rat.divInt 1 1:=by
  rw[p1,p2,show Rat.divInt 1 1=1 by decide+kernel];grind
 rw[p3] at ha
 unfold dI at*
 rw[gV] at hM o1 o2
 exact Uo hM hls o1 hd ho o2 (l5 (by decide) (by decide) (by decide)) ha (eq_self _ (by unfold Sm;decide+kernel))
end
