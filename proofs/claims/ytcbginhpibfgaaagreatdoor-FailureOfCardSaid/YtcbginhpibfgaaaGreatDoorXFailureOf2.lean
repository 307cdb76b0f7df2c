/- Fb4 Fc1 Di22 Di23 LawD0 LawE0 FailArgs LawEA. No condition. -/
import Derived.Test.YtcbginhpibfgaaaGreatDoorXFailureOf1
import Derived.Test.YtcbginhpibfgaaaGreatDoorFDoor
import Derived.Test.YtcbginhpibfgaaaGreatDoorFcG1
import Derived.Test.YtcbginhpibfgaaaGreatDoorLawD1
set_option linter.all false
set_option maxHeartbeats 4000000
set_option maxRecDepth 20000
namespace Go.Proofs.YtcbginhpibfgaaaGreatDoor
section
open Go Go.Sy Go.Lm Go.Rt Go.Dg
attribute [local irreducible] AO AL AC OpT ACall Ends DGo bK Thn Blk Nxt
section
variable {n N k i m j r a b:Nat} {z z' zp:Bool} {ps xs:List RV} {X Y W ONE:RV} {v c e:Int} {p:Nat→Rat}
def chQ(x:Chc):Rat:=Rat.divInt ((x.a%(x.b%12+2):Nat):Int) ((x.b%12+1:Nat):Int)
theorem ad8{q1 q2:Int}(ha:a<256)(hb:b<256)(e1:((b:Int)%12)+1=q2∨1+((b:Int)%12)=q2)(e2:(a:Int)%(q2+1)=q1)(hq:1≤q2∧q2≤12)(h:ACall Tryz.prog 57 [.val (.int .i64 q1),.val (.int .i64 q2)] [] 0 (.tup [.agg (aa.cells X),.val (.int .i64 0)]) []):ACall Tryz.prog 29 [.agg [.val (.int .u8 a),.val (.int .u8 b)]] [] 0 (.agg (aa.cells X)) []:=by
 have h:=PLift.up h
 have zx1:1+((b:Int)%12)=q2:=by omega
 have zx4:¬q2+1=0:=by omega
 have hr:0≤q1∧q1<300:=by rw[←e2];exact⟨Int.emod_nonneg _ zx4,by have:=Int.emod_lt_of_pos (a:Int) (show 0<q2+1 by omega);omega⟩
 have zx3:Int.tmod (a:Int) (q2+1)=q1:=by rw[Int.tmod_eq_emod_of_nonneg (by omega)];exact e2
 clear e1
 refine ak Tryz.func29 Tryz.ntmps29 rfl ?_
 have zx2:= @e2;have zx5:=aC;have zx6:=aC;repeat' (first|refine zqN ?_|refine gG h.down ?_|refine kE ?_|refine kF ?_|(refine kG ?_ ?_<;>intro hc<;>try exact zqM))
 all_goals first
  |((refine Ends.mk2 zqI [] ?_;simp-dsimp(disch:=try exact vD) only[push_cast,simprocAttr,Tryz.f29];try exact zqF);done)
  |skip
theorem ME(ha:a<256)(hb:b<256):ACall Tryz.prog 29 [.agg [.val (.int .u8 a),.val (.int .u8 b)]] [] 0 (.agg (aa.cells (rC (chQ ⟨a,b⟩)))) []:=by
 have hm:a%(b%12+2)<b%12+2:=Nat.mod_lt _ (by omega)
 have h:=OM (a:=((a%(b%12+2):Nat):Int)) (b:=((b%12+1:Nat):Int)) ⟨by omega,by omega⟩ ⟨by omega,by omega⟩ (by omega)
 refine ad8 ha hb (.inl (by omega)) ?_ (by omega) h
 rw[show(((b%12+1:Nat):Int)+1)=((b%12+2:Nat):Int) by omega,Int.natCast_emod]
theorem YZ(x:Chc):0≤chQ x∧chQ x≤1∧(chQ x).den≤12:=by
 have hm:x.a%(x.b%12+2)<x.b%12+2:=Nat.mod_lt _ (by omega)
 unfold chQ
 generalize x.a%(x.b%12+2)=u at*
 have hb:x.b%12<12:=Nat.mod_lt _ (by decide)
 generalize x.b%12=w at*
 have h1:∀w,w<12→∀u,u<w+2→0≤Rat.divInt ((u:Nat):Int) ((w+1:Nat):Int)∧Rat.divInt ((u:Nat):Int) ((w+1:Nat):Int)≤1∧(Rat.divInt ((u:Nat):Int) ((w+1:Nat):Int)).den≤12:=by decide+kernel
 exact h1 w hb u hm
def lsL(l:List Chc):Nat→List RV
 |0=>[]
 |i+1=>lsL l i++[rC (chQ (l.getD i default))]
theorem ae6{l:List Chc}(h:i=0):lsL l i=[]:=by subst h;rfl
theorem ae7{l:List Chc}:lsL l (i+1)=lsL l i++[rC (chQ (l.getD i default))]:=rfl
theorem iZ{l:List Chc}:(lsL l i).length=i:=by
 induction i with
 |zero=>rfl
 |succ i ih=>rw[ae7,List.length_append,ih];rfl
theorem Fs{l:List Chc}(h:j<i):(lsL l i).getD j default=rC (chQ (l.getD j default)):=by
 induction i with
 |zero=>omega
 |succ i ih=>
  rw[ae7]
  rcases Nat.lt_or_eq_of_le (Nat.le_of_lt_succ h) with h1|h1
  ·rw[List.getD_eq_getElem?_getD,List.getElem?_append_left (by rw[iZ];omega),←List.getD_eq_getElem?_getD]
   exact ih h1
  ·rw[List.getD_eq_getElem?_getD,List.getElem?_append_right (by rw[iZ];omega),iZ,h1,Nat.sub_self];rfl
theorem aja:cR ps++[.val (.bool X.num.neg),.isl X.num.z (cI .u32 X.num.l) X.num.l.length,.val (.bool X.den.neg),.isl X.den.z (cI .u32 X.den.l) X.den.l.length]=cR (ps++[X]):=PY (a:=X) (l:=ps)
theorem Q0(h:ps.length=n):(cR ps).take (n*4)=cR ps:=List.take_of_length_le (by rw[lM,h];exact Nat.le_refl _)
def lsI(z:Bool)(l:List Chc)(k n:Nat)(i:{i:Nat // i≤n}):St:=
 ⟨28,0,[(0,.isl z (cR l) k),(1,.val (.int .i64 n)),(5,kC i.val 0 4),(6,.val (.int .i64 i.val))],kD i.val 0 (cR (lsL l i.val)) 37⟩
theorem ad9{l:List Chc}(hl:l.length=k)(hk:k<2^47)(hn:n≤1000)(hm:∀i,i<n→ACall Tryz.prog 29 [.agg [.val (.int .u8 (l.getD i default).a),.val (.int .u8 (l.getD i default).b)]] [] 0 (.agg (aa.cells (rC (chQ (l.getD i default))))) []):
 ACall Tryz.prog 14 [.isl z (cR l) k,.val (.int .i64 n)] [] 0 (.isl (n==0) (cR (lsL l n)) n) []:=by
 have hm:=PLift.up hm
 have hlen:=fun(i:Nat)=>iZ (l:=l) (i:=i)
 have htk:=Q0 (ps:=lsL l n) iZ
 have hgd:∀i,k≤i→l.getD i default=⟨1,1⟩:=fun i hi=>by rw[List.getD_eq_getElem?_getD,List.getElem?_eq_none (by omega)];rfl
 have hs:∀i,cR (lsL l i)++[.val (.bool (rC (chQ (l.getD i default))).num.neg),.isl (rC (chQ (l.getD i default))).num.z (cI .u32 (rC (chQ (l.getD i default))).num.l) (rC (chQ (l.getD i default))).num.l.length,.val (.bool (rC (chQ (l.getD i default))).den.neg),.isl (rC (chQ (l.getD i default))).den.z (cI .u32 (rC (chQ (l.getD i default))).den.l) (rC (chQ (l.getD i default))).den.l.length]=cR (lsL l (i+1)):=fun i=>aja
 have h0:∀i,i=0→[.val (.bool (rC (chQ (l.getD i default))).num.neg),.isl (rC (chQ (l.getD i default))).num.z (cI .u32 (rC (chQ (l.getD i default))).num.l) (rC (chQ (l.getD i default))).num.l.length,.val (.bool (rC (chQ (l.getD i default))).den.neg),.isl (rC (chQ (l.getD i default))).den.z (cI .u32 (rC (chQ (l.getD i default))).den.l) (rC (chQ (l.getD i default))).den.l.length]=cR (lsL l (i+1)):=fun i hi=>by
  subst hi
  exact(List.nil_append _).symm.trans (hs 0)
 have hx:=ae;have hsn:=ae;have hc1:=ae
 rcases Nat.eq_zero_or_pos n with hn0|hn0
 ·subst hn0
  refine ak Tryz.func14 Tryz.ntmps14 rfl ?_
  repeat' (first|(refine ai ?_;refine au [9] ([9].length) (lsI z l k 0) (fun i=>0) (⟨0,Nat.zero_le _⟩) rfl (by unfold lsI;(try simp only[List.cons_append,List.nil_append]);refine Sub.mk2 ?_;(simp-dsimp(disch:=try exact vD) only[push_cast,simprocAttr]);(repeat refine aI ?_);first|done|exact vI) ?_;(rintro⟨i,hi⟩;have hi0:i=0:=(by omega);subst hi0;(simp-dsimp(disch:=try exact vD) only[push_cast,simprocAttr,lsI,ae6])))|apply dG|apply aF|((first|refine ay rfl (fun K hK=>?_)|refine aj (fun K hK=>?_));(first|apply cO|apply aZ|apply df|apply aT|apply bf|apply bu|apply fK|apply bZ|apply fu|apply eG|apply iX|apply eZ|apply aX|apply dY|apply dM);simp-dsimp(disch:=try exact vD) only[push_cast,simprocAttr];(repeat refine aI ?_);apply hK;clear hK K)|((first|refine ay rfl (fun K hK=>?_)|refine aj (fun K hK=>?_));(first|apply gz);simp-dsimp(disch:=try exact vD) only[push_cast,simprocAttr];(repeat refine aI ?_);apply hK;clear hK K)|((first|refine ay rfl (fun K hK=>?_)|refine aj (fun K hK=>?_));(first|apply eO);simp-dsimp(disch:=try exact vD) only[push_cast,simprocAttr];(repeat refine aI ?_);apply hK;clear hK K)|((first|refine ay rfl (fun K hK=>?_)|refine aj (fun K hK=>?_));(first|apply eH);simp-dsimp(disch:=try exact vD) only[push_cast,simprocAttr];(repeat refine aI ?_);apply hK;clear hK K)|((first|refine aQ rfl rfl (fun K1 K2 h1 h2=>?_) rfl|refine aJ (fun K1 K2 h1 h2=>?_));simp-dsimp(disch:=try exact vD) only[push_cast,simprocAttr];(first|(refine⟨fun hc=>?_,fun hc=>?_⟩<;>first|(exfalso;omega)|(exfalso;contradiction)|refine h1 ?_|refine h2 ?_)|refine h1 ?_|refine h2 ?_);all_goals clear h1 h2 K1 K2)|apply dH|apply aR|apply bX|apply bz|apply aS|apply bY|apply bA|(refine aY rfl ?_)|apply bB|apply bW|apply bV|apply dF)
  all_goals first
   |((refine Ends.mk2 (by first|exact .inr rfl|exact .inl rfl) [] ?_;simp-dsimp(disch:=try exact vD) only[push_cast,simprocAttr,Tryz.f14,ae6,nX];try exact zqF);done)
   |skip
 ·have hnz:(n==0)=false:=Ke hn0
  rw[hnz]
  refine ak Tryz.func14 Tryz.ntmps14 rfl ?_
  repeat' (first|(refine ai ?_;refine au [9] ([9].length) (lsI z l k n) (fun i=>n-i.val) (⟨0,Nat.zero_le _⟩) rfl (by unfold lsI;(try simp only[List.cons_append,List.nil_append]);refine Sub.mk2 ?_;(simp-dsimp(disch:=try exact vD) only[push_cast,simprocAttr,hx,hc1,htk,hlen]);(repeat refine aI ?_);first|done|exact vI) ?_;(rintro⟨i,hi⟩;rcases Nat.lt_or_eq_of_le hi with hil|hil<;>first|(subst hil;(simp-dsimp(disch:=try exact vD) only[push_cast,simprocAttr,lsI]))|(have hmi:=hm.down i hil;have hli:=hlen i;have hs1:=hs i;have h01:=h0 i;generalize hW:rC (chQ (l.getD i default))=W at*;rcases Nat.lt_or_ge i k with hik|hik<;>rcases Nat.eq_zero_or_pos i with hi0|hi0<;>first|(rw[hgd i hik] at hmi;have hmi:=PLift.up hmi;have hsn:=h01 hi0;(simp-dsimp(disch:=try exact vD) only[push_cast,simprocAttr,lsI]))|(rw[hgd i hik] at hmi;have hmi:=PLift.up hmi;have hsn:=hs1;(simp-dsimp(disch:=try exact vD) only[push_cast,simprocAttr,lsI]))|(have hmi:=PLift.up hmi;have hsn:=h01 hi0;(simp-dsimp(disch:=try exact vD) only[push_cast,simprocAttr,lsI]))|(have hmi:=PLift.up hmi;have hsn:=hs1;(simp-dsimp(disch:=try exact vD) only[push_cast,simprocAttr,lsI])))))|(refine ax ?_;refine Nxt.mk [3] (⟨i+1,by omega⟩) rfl (by unfold lsI;(try simp only[List.cons_append,List.nil_append]);refine Sub.mk2 ?_;(simp-dsimp(disch:=try exact vD) only[push_cast,simprocAttr,hx,hc1,htk,hlen,hsn]);(repeat refine aI ?_);first|done|exact vI) (by first|omega|(dsimp only;omega)|(simp;done)|(simp;omega)))|(refine ax ?_;refine Nxt.mk [2] (⟨i+1,by omega⟩) rfl (by unfold lsI;(try simp only[List.cons_append,List.nil_append]);refine Sub.mk2 ?_;(simp-dsimp(disch:=try exact vD) only[push_cast,simprocAttr,hx,hc1,htk,hlen,hsn]);(repeat refine aI ?_);first|done|exact vI) (by first|omega|(dsimp only;omega)|(simp;done)|(simp;omega)))|(refine ax ?_;refine Nxt.mk [1] (⟨i+1,by omega⟩) rfl (by unfold lsI;(try simp only[List.cons_append,List.nil_append]);refine Sub.mk2 ?_;(simp-dsimp(disch:=try exact vD) only[push_cast,simprocAttr,hx,hc1,htk,hlen,hsn]);(repeat refine aI ?_);first|done|exact vI) (by first|omega|(dsimp only;omega)|(simp;done)|(simp;omega)))|(refine ax ?_;refine Nxt.mk [0] (⟨i+1,by omega⟩) rfl (by unfold lsI;(try simp only[List.cons_append,List.nil_append]);refine Sub.mk2 ?_;(simp-dsimp(disch:=try exact vD) only[push_cast,simprocAttr,hx,hc1,htk,hlen,hsn]);(repeat refine aI ?_);first|done|exact vI) (by first|omega|(dsimp only;omega)|(simp;done)|(simp;omega)))|apply dG|apply aF|((first|refine ay rfl (fun K hK=>?_)|refine aj (fun K hK=>?_));(first|refine ah (f:=29) [] 0 false ?_);simp-dsimp(disch:=try exact vD) only[push_cast,simprocAttr,hx,hc1,htk,hlen];(repeat refine aI ?_);intro G hG;refine hG _ _ ?_;clear hG G;(first|refine⟨_,_,hmi.down,?_⟩);simp-dsimp(disch:=try exact vD) only[push_cast,simprocAttr,hx,hc1,htk,hlen];(repeat refine aI ?_);apply hK;clear hK K)|((first|refine ay rfl (fun K hK=>?_)|refine aj (fun K hK=>?_));(first|apply cO|apply aZ|apply df|apply aT|apply bf|apply bu|apply fK|apply bZ|apply fu|apply eG|apply iX|apply eZ|apply aX|apply dY|apply dM);simp-dsimp(disch:=try exact vD) only[push_cast,simprocAttr,hx,hc1,htk,hlen];(repeat refine aI ?_);apply hK;clear hK K)|((first|refine ay rfl (fun K hK=>?_)|refine aj (fun K hK=>?_));(first|apply gz);simp-dsimp(disch:=try exact vD) only[push_cast,simprocAttr,hx,hc1,htk,hlen];(repeat refine aI ?_);apply hK;clear hK K)|((first|refine ay rfl (fun K hK=>?_)|refine aj (fun K hK=>?_));(first|apply eO);simp-dsimp(disch:=try exact vD) only[push_cast,simprocAttr,hx,hc1,htk,hlen];(repeat refine aI ?_);apply hK;clear hK K)|((first|refine ay rfl (fun K hK=>?_)|refine aj (fun K hK=>?_));(first|apply eH);simp-dsimp(disch:=try exact vD) only[push_cast,simprocAttr,hx,hc1,htk,hlen];(repeat refine aI ?_);apply hK;clear hK K)|((first|refine aQ rfl rfl (fun K1 K2 h1 h2=>?_) rfl|refine aJ (fun K1 K2 h1 h2=>?_));simp-dsimp(disch:=try exact vD) only[push_cast,simprocAttr,hx,hc1,htk,hlen];(first|(refine⟨fun hc=>?_,fun hc=>?_⟩<;>first|(exfalso;omega)|(exfalso;contradiction)|refine h1 ?_|refine h2 ?_)|refine h1 ?_|refine h2 ?_);all_goals clear h1 h2 K1 K2)|apply dH|apply aR|apply bX|apply bz|apply aS|apply bY|apply bA|(refine aY rfl ?_)|apply bB|apply bW|apply bV|apply dF)
  all_goals first
   |(((refine Ends.frz 0 ?_;simp-dsimp(disch:=try exact vD) only[push_cast,simprocAttr,Tryz.f14,htk];(repeat refine aI ?_);intro K hK;refine hK _ _ ?_;clear hK K);refine Ends.mk2 (by first|exact .inr rfl|exact .inl rfl) [] ?_;simp-dsimp(disch:=try exact vD) only[push_cast,simprocAttr,Tryz.f14,htk];try exact zqF);done)
   |skip
end
section
variable {n N K k i m j r s:Nat} {z zs zt zp:Bool} {ss:List Nat} {ps ts:List RV} {l:List Int} {F:List Fo} {X:RV} {p site:Nat→Rat} {d dt:Nat→Nat} {c x:Rat} {e:Int} {tab:Nat→Bool}
theorem Gd.rprobs(g:Gd ps p d n)(hn:n≤100):ACall Tryz.prog 76 [.isl zp (cR ps) n] [] 0 (.val (.int .i64 0)) []:=Mx g.len (by omega) g.rin g.e
theorem Kn(hv:ACall Tryz.prog 50 [dI z n (F.map fk) N r] [] 0 (.val (.int .i64 0)) [])(hn:n≤100)(g:Gd ps p d n):ACall Tryz.prog 46 [dI z n (F.map fk) N r,.isl zp (cR ps) n] [] 0 (.val (.int .i64 0)) []:=
 Pd hv (g.rprobs hn)
theorem Zn(hv:ACall Tryz.prog 50 [dI z n (F.map fk) N r] [] 0 (.val (.int .i64 0)) [])(hD:DOk n F r)(hN:F.length=N)(g:Gd ps p d n):ACall Tryz.prog 16 [dI z n (F.map fk) N r,.isl zp (cR ps) n] [] 0 (.tup [.agg (aa.cells (rC (Pr p n fun t=> !aG F t r))),.val (.int .i64 0)]) []:=
 alp (Kn hv (by have:=hD.n12;omega) g) (DL hD hN) (vF g.len hD.n12 g.cs g.pq)
end
end
section
open Go Go.Sy Go.Bp Go.Dg
attribute [local irreducible] AO AL AC OpT ACall Ends DGo bK Thn Blk Nxt
section
variable {n N M L T k i m r a b j w u v s q x y d:Nat} {z up:Bool} {B:List Nat} {e:Int} {p:Nat→Bool}
def bsI(y s:Nat):Bool:=decide (IntKind.u8.wrap (((BitVec.ofInt IntKind.u8.bits ((y:Int).fdiv (2^((s:Int)%8).toNat))&&&BitVec.ofInt IntKind.u8.bits 1).toNat:Nat):Int)=1)
def mdB(B:List Nat)(L s:Nat):Bool:=if L=0 then false else bsI (B.getD (s/8%L) 0) s
theorem afa:mdB B 0 s=false:=if_pos rfl
theorem afb(h:0<L):mdB B L s=bsI (B.getD (s/8%L) 0) s:=if_neg (by omega)
def isx(l:List Bool)(s x:Nat):Bool:=(List.range x).any fun y=>l.getD y default&&decide (yw y s%65536=0)
def mkT(p:Nat→Bool)(up:Bool):Nat→List Bool
 |0=>[]
 |s+1=>mkT p up s++[p s||(up&&isx (mkT p up s) s s)]
theorem uo:∀s,(mkT p up s).length=s
 |0=>rfl
 |s+1=>by rw[mkT,List.length_append,uo s];rfl
theorem alV{l:List Bool}:isx l s (x+1)=(isx l s x||(l.getD x default&&decide (yw x s%65536=0))):=by
 unfold isx;rw[List.range_succ,List.any_append];simp
theorem Zz:(cB (mkT p up T)).take T=cB (mkT p up T):=List.take_of_length_le (by rw[cB_len,uo];exact Nat.le_refl _)
def mdA(z:Bool)(N:Nat)(B:List Nat)(L:Nat)(up:Bool)(n T:Nat)(s:{s:Nat // s≤T}):St:=⟨69,0,[(1,.pt 0 0),(2,.pt 1 0),(3,.val (.int .i64 n)),(4,kC s.val 2 1),(5,.val (.int .i64 s.val))],[(0,some (.cells (drC N z B L up) 24)),(1,some zDO)]++kD s.val 2 (cB (mkT (mdB B L) up s.val)) 4⟩
def mdF(z:Bool)(N:Nat)(B:List Nat)(L:Nat)(n s:Nat)(b0:Bool)(x:{x:Nat // x=0}):St:=⟨69,0,[(1,.pt 0 0),(2,.pt 1 0),(3,.val (.int .i64 n)),(4,kC s 2 1),(5,.val (.int .i64 s)),(6,.val (.bool b0)),(7,.val (.int .i64 x.val))],[(0,some (.cells (drC N z B L false) 24)),(1,some zDO)]++kD s 2 (cB (mkT (mdB B L) false s)) 4⟩
def mdG(z:Bool)(N:Nat)(B:List Nat)(L:Nat)(n s:Nat)(b0:Bool)(x:{x:Nat // x≤s}):St:=⟨69,0,[(1,.pt 0 0),(2,.pt 1 0),(3,.val (.int .i64 n)),(4,kC s 2 1),(5,.val (.int .i64 s)),(6,.val (.bool (b0||isx (mkT (mdB B L) true s) s x.val))),(7,.val (.int .i64 x.val))],[(0,some (.cells (drC N z B L true) 24)),(1,some zDO)]++kD s 2 (cB (mkT (mdB B L) true s)) 4⟩
theorem ajw(hN:N<256)(hL:B.length=L)(hL2:L<2^47)(hn:N%7=n)(hT:2^n=T)(hb:∀i,B.getD i 0<256):ACall Tryz.prog 13 [.agg (drC N z B L false)] [] 0 (dgV ((kM n (mkT (mdB B L) false T)).1.length==0) n (kM n (mkT (mdB B L) false T)).1 (kM n (mkT (mdB B L) false T)).2) []:=by
 have hx:=ae;have hq:=ae;have hg:=ae;have hb0:=ae;have hbs:=ae;have hL00:=ae;have hv:=ae;have ht:=ae;have hw:=ae;have hst:=ae;have hsn:=ae;have hlT:=ae;have hmin:=ae;have hs0:=ae
 have hn6:n≤6:=by omega
 have hT64:T≤64:=by rw[←hT];exact(Nat.pow_le_pow_right (by omega) hn6:2^n≤2^6)
 have hTp:0<T:=by rw[←hT];exact Nat.two_pow_pos n
 have hsh:=Bc (n:=n) (by omega)
 have hfr:=PLift.up (lV (n:=n) (tb:=mkT (mdB B L) false T) (M:=T) (by omega) (uo _) hT.symm)
 have htk:=Zz (p:=mdB B L) (up:=false) (T:=T)
 have hwi:=fun(x s:Nat) (hx:x<65536) (h:s<65536)=>PLift.up (by
  have:=Bh (s:=x) (q:=s)
  rw[Lp hx,Lp h] at this;exact this)
 rw[hT] at hsh
 unfold dgV at*
 generalize((kM n (mkT (mdB B L) false T)).1.length==0)=zb at hfr⊢
 generalize kM n (mkT (mdB B L) false T)=R at hfr⊢
 unfold drC
 refine ak Tryz.func13 Tryz.ntmps13 rfl ?_
 repeat' (first|((first|refine bI (r:=12) 2 ?_|refine bH (r:=12) 2 ?_);simp-dsimp(disch:=try exact vD) only[push_cast,simprocAttr,htk,hsh,hmin,hs0,hq,hg,hb0,hbs,hL00,hv,ht,hw,hst,hlT,drC];(repeat refine aI ?_);intro K hK;refine hK _ _ ?_;clear hK K)|(refine ai ?_;refine au [0,1,2] ([0,1,2].length) (mdF z N B L n s (mdB B L s)) (fun _=>0) (⟨0,rfl⟩) rfl (by unfold mdF;(try simp only[List.cons_append,List.nil_append]);refine Sub.mk2 ?_;(simp-dsimp(disch:=try exact vD) only[push_cast,simprocAttr,htk,hsh,hmin,hs0,hq,hg,hb0,hbs,hL00,hv,ht,hw,hst,hlT,drC]);(repeat refine aI ?_);first|done|exact vI) ?_;(rintro⟨x,rfl⟩;have hsn:mkT (mdB B L) false s++[mdB B L s]=mkT (mdB B L) false (s+1):=(by rw[mkT,Bool.false_and,Bool.or_false]);rw[hb0] at hsn;first|(have s00:s=0:=s0;subst s00;have hsn:=congrArg cB hsn;have hsn:[AV.val (.bool _)]=cB (mkT (mdB B L) false 1):=hsn;(simp-dsimp(disch:=try exact vD) only[push_cast,simprocAttr,mdF]))|(have hs0:((0:Int)<(s:Int))=True:=eq_true (by omega);(simp-dsimp(disch:=try exact vD) only[push_cast,simprocAttr,mdF]))))|(refine ai ?_;refine au [0,1,9] ([0,1,9].length) (mdA z N B L false n T) (fun s=>T-s.val) (⟨0,by omega⟩) rfl (by unfold mdA;(try simp only[List.cons_append,List.nil_append]);refine Sub.mk2 ?_;(simp-dsimp(disch:=try exact vD) only[push_cast,simprocAttr,htk,hsh,hmin,hs0,hq,hg,hb0,hbs,hL00,hv,ht,hw,hst,hlT,drC]);(repeat refine aI ?_);first|done|exact vI) ?_;(rintro⟨s,hs⟩;rcases Nat.lt_or_eq_of_le hs with hsl|hsl<;>first|(have es:T=s:=hsl.symm;subst es;(simp-dsimp(disch:=try exact vD) only[push_cast,simprocAttr,mdA]))|(have hlT:=uo (p:=mdB B L) (up:=false) s;rcases Nat.eq_zero_or_pos s with s0|s0<;>rcases Nat.eq_zero_or_pos L with h0|h0<;>first|(have hb0:mdB B L s=false:=(by rw[h0];exact afa);have hL00:(0<(L:Int))=False:=eq_false (by omega);(simp-dsimp(disch:=try exact vD) only[push_cast,simprocAttr,mdA]))|(have hb0:=afb (B:=B) (s:=s) h0;have hmin:min ((s:Int)%8).toNat IntKind.u8.bits=((s:Int)%8).toNat:=Nat.min_eq_left (by show _≤8;omega);have hqL:s/8%L<L:=Nat.mod_lt _ h0;have hq:((s:Int)/8%(L:Int))=((s/8%L:Nat):Int):=(by norm_cast);obtain⟨q,hqe⟩:∃q,s/8%L=q:=⟨_,rfl⟩;rw[hqe] at hq hqL hb0;have hg:=Bi (l:=B) (j:=q) (by omega);have hlB:(NI B).length=L:=(by rw[dS,hL]);obtain⟨y,hye⟩:∃y,B.getD q 0=y:=⟨_,rfl⟩;have hy:=hb q;rw[hye] at hg hy hb0;rcases Bool.eq_false_or_eq_true (bsI y s) with h8|h8<;>rw[h8] at hb0<;>first|(have hbs:=eq_true (of_decide_eq_true h8);(simp-dsimp(disch:=try exact vD) only[push_cast,simprocAttr,mdA]))|(have hbs:=eq_false (of_decide_eq_false h8);(simp-dsimp(disch:=try exact vD) only[push_cast,simprocAttr,mdA]))))))|(refine ax ?_;refine Nxt.mk [0,1,4] (⟨1,by omega⟩) rfl (by unfold mdA;(try simp only[List.cons_append,List.nil_append]);refine Sub.mk2 ?_;(simp-dsimp(disch:=try exact vD) only[push_cast,simprocAttr,htk,hsh,hmin,hs0,hq,hg,hb0,hbs,hL00,hv,ht,hw,hst,hlT,drC,hsn]);(repeat refine aI ?_);first|done|exact vI) (by first|omega|(dsimp only;omega)|(simp;done)|(simp;omega)))|(refine ax ?_;refine Nxt.mk [0,1,2] (⟨s+1,by omega⟩) rfl (by unfold mdA;(try simp only[List.cons_append,List.nil_append]);refine Sub.mk2 ?_;(simp-dsimp(disch:=try exact vD) only[push_cast,simprocAttr,htk,hsh,hmin,hs0,hq,hg,hb0,hbs,hL00,hv,ht,hw,hst,hlT,drC,hsn]);(repeat refine aI ?_);first|done|exact vI) (by first|omega|(dsimp only;omega)|(simp;done)|(simp;omega)))|(refine ax ?_;refine Nxt.mk [0,1,3] (⟨s+1,by omega⟩) rfl (by unfold mdA;(try simp only[List.cons_append,List.nil_append]);refine Sub.mk2 ?_;(simp-dsimp(disch:=try exact vD) only[push_cast,simprocAttr,htk,hsh,hmin,hs0,hq,hg,hb0,hbs,hL00,hv,ht,hw,hst,hlT,drC,hsn]);(repeat refine aI ?_);first|done|exact vI) (by first|omega|(dsimp only;omega)|(simp;done)|(simp;omega)))|(refine ax ?_;refine Nxt.mk [0,1,4] (⟨s+1,by omega⟩) rfl (by unfold mdA;(try simp only[List.cons_append,List.nil_append]);refine Sub.mk2 ?_;(simp-dsimp(disch:=try exact vD) only[push_cast,simprocAttr,htk,hsh,hmin,hs0,hq,hg,hb0,hbs,hL00,hv,ht,hw,hst,hlT,drC,hsn]);(repeat refine aI ?_);first|done|exact vI) (by first|omega|(dsimp only;omega)|(simp;done)|(simp;omega)))|apply dG|apply aF|((first|refine ay rfl (fun K hK=>?_)|refine aj (fun K hK=>?_)|refine aA (fun K hK=>?_));(first|refine ah (f:=42) [] 0 false ?_|refine ah (f:=41) [] 0 false ?_);simp-dsimp(disch:=try exact vD) only[push_cast,simprocAttr,htk,hsh,hmin,hs0,hq,hg,hb0,hbs,hL00,hv,ht,hw,hst,hlT,drC];(repeat refine aI ?_);intro G hG;refine hG _ _ ?_;clear hG G;(first|refine⟨_,_,hfr.down,?_⟩|refine⟨_,_,(hwi x s (by omega) (by omega)).down,?_⟩);simp-dsimp(disch:=try exact vD) only[push_cast,simprocAttr,htk,hsh,hmin,hs0,hq,hg,hb0,hbs,hL00,hv,ht,hw,hst,hlT,drC];(repeat refine aI ?_);apply hK;clear hK K)|((first|refine ay rfl (fun K hK=>?_)|refine aj (fun K hK=>?_)|refine aA (fun K hK=>?_));(first|apply cO|apply aZ|apply df|apply aT|apply aW|apply bf|apply bu|apply fK|apply bZ|apply fA|apply gm|apply fu|apply eG|apply aX|apply dK|apply dP|apply dm|apply bU|apply dY|apply dM);simp-dsimp(disch:=try exact vD) only[push_cast,simprocAttr,htk,hsh,hmin,hs0,hq,hg,hb0,hbs,hL00,hv,ht,hw,hst,hlT,drC];(repeat refine aI ?_);apply hK;clear hK K)|((first|refine ay rfl (fun K hK=>?_)|refine aj (fun K hK=>?_)|refine aA (fun K hK=>?_));(first|apply gz);simp-dsimp(disch:=try exact vD) only[push_cast,simprocAttr,htk,hsh,hmin,hs0,hq,hg,hb0,hbs,hL00,hv,ht,hw,hst,hlT,drC];(repeat refine aI ?_);apply hK;clear hK K)|((first|refine ay rfl (fun K hK=>?_)|refine aj (fun K hK=>?_)|refine aA (fun K hK=>?_));(first|apply eO);simp-dsimp(disch:=try exact vD) only[push_cast,simprocAttr,htk,hsh,hmin,hs0,hq,hg,hb0,hbs,hL00,hv,ht,hw,hst,hlT,drC];(repeat refine aI ?_);apply hK;clear hK K)|((first|refine ay rfl (fun K hK=>?_)|refine aj (fun K hK=>?_)|refine aA (fun K hK=>?_));(first|apply eH);simp-dsimp(disch:=try exact vD) only[push_cast,simprocAttr,htk,hsh,hmin,hs0,hq,hg,hb0,hbs,hL00,hv,ht,hw,hst,hlT,drC];(repeat refine aI ?_);apply hK;clear hK K)|((first|refine aQ rfl rfl (fun K1 K2 h1 h2=>?_) rfl|refine aJ (fun K1 K2 h1 h2=>?_)|refine bL rfl rfl (fun K1 K2 h1 h2=>?_));simp-dsimp(disch:=try exact vD) only[push_cast,simprocAttr,htk,hsh,hmin,hs0,hq,hg,hb0,hbs,hL00,hv,ht,hw,hst,hlT,drC];(first|(refine⟨fun hc=>?_,fun hc=>?_⟩<;>first|(exfalso;omega)|(exfalso;contradiction)|refine h1 ?_|refine h2 ?_)|refine h1 ?_|refine h2 ?_);all_goals clear h1 h2 K1 K2)|(refine aV (id:=6) (by kernel_rfl) [⟨0,[],[],[],[],0⟩,⟨1,[0],[],[],[],0⟩,⟨2,[0,1],[],[],[],0⟩,⟨3,[0,1,2],[],[],[],0⟩,⟨4,[0,1,2,3],[],[],[],0⟩,⟨5,[0,1,2,3,4],[25,26,27,28,29,30,33,34],[],[],0⟩,⟨6,[0,1,2,3,4,5],[25,26,27,28,29,30,33,34],[],[],0⟩,⟨7,[0,1,2,3,4],[23,24,27,28,29,33,34],[],[],0⟩,⟨8,[0,1,2,3,4,7],[23,24,27,28,29,33,34],[],[],0⟩,⟨9,[0,1,2,3,4],[23,24,25,26,33,34],[],[],0⟩,⟨10,[0,1,2,3,4,9],[23,24,25,26,33,34],[],[],0⟩,⟨11,[0,1,2,3,4,9,10],[23,24,25,26,33,34],[],[],0⟩,⟨12,[0,1,2,3,4,7,8,9,10,11],[23,24,33,34],[],[],0⟩,⟨13,[0,1,2,3,4,5,6,7,8,9,10,11,12],[33,34],[],[],0⟩,⟨14,[0,1,2,3,4,5,6,7,8,9,10,11,12,13],[33,34],[],[],0⟩,⟨15,[0,1,2,3,4],[23,24,25,26,27,28,29,30,31,32],[],[],0⟩,⟨16,[0,1,2,3,4,15],[23,24,25,26,27,28,29,30,31,32],[],[],0⟩,⟨17,[0,1,2,3,4,5,6,7,8,9,10,11,12,13,14,15,16],[],[],[],0⟩,⟨18,[0,1,2,3,4,5,6,7,8,9,10,11,12,13,14,15,16,17],[],[],[],0⟩,⟨19,[0,1,2,3,4,5,6,7,8,9,10,11,12,13,14,15,16,17,18],[],[],[],0⟩,⟨20,[0,1,2,3,4,5,6,7,8,9,10,11,12,13,14,15,16,17,18,19],[],[],[],0⟩,⟨21,[0,1,2,3,4,5,6,7,8,9,10,11,12,13,14,15,16,17,18,19,20],[],[],[],0⟩] (by kernel_rfl) (by kernel_rfl) (by kernel_rfl) ?_)|((first|refine dW (by kernel_rfl) (fun K hK=>?_)|refine gy (by kernel_rfl) (fun K hK=>?_));simp only[↓Go.Sy.dz,↓Go.Sy.dA,↓Go.Sy.dU,↓Go.Sy.dD,↓Go.Sy.dV,↓Go.Sy.cZ,↓Go.Sy.dE,push_cast,Nat.reduceLeDiff,Nat.reduceSub,Nat.reduceBEq,Nat.reduceEqDiff,Nat.reduceAdd,Nat.reduceLT,↓reduceIte,reduceCtorEq];refine hK _ _ _ ?_;clear hK K)|apply jl|apply dH|apply aR|apply bX|apply bz|apply aS|apply bY|apply bA|(refine aY rfl ?_)|apply bB|apply bW|apply bV|apply dF)
 all_goals first
  |((refine Ends.mk2 (by first|exact .inr rfl|exact .inl rfl) [] ?_;simp-dsimp(disch:=try exact vD) only[push_cast,simprocAttr,Tryz.f13];try exact zqF);done)
  |skip
end
section
variable {n N M L T k i m r a b j w u v s q x y d:Nat} {z up:Bool} {B:List Nat} {e:Int} {p:Nat→Bool}
theorem l6{l:List Bool}:isx l s 0=false:=rfl
theorem ajx(hN:N<256)(hL:B.length=L)(hL2:L<2^47)(hn:N%7=n)(hT:2^n=T)(hb:∀i,B.getD i 0<256):ACall Tryz.prog 13 [.agg (drC N z B L true)] [] 0 (dgV ((kM n (mkT (mdB B L) true T)).1.length==0) n (kM n (mkT (mdB B L) true T)).1 (kM n (mkT (mdB B L) true T)).2) []:=by
 have hx:=ae;have hq:=ae;have hg:=ae;have hb0:=ae;have hbs:=ae;have hL00:=ae;have hv:=ae;have ht:=ae;have hw:=ae;have hst:=ae;have hsn:=ae;have hlT:=ae;have hmin:=ae;have hs0:=ae
 have hn6:n≤6:=by omega
 have hT64:T≤64:=by rw[←hT];exact(Nat.pow_le_pow_right (by omega) hn6:2^n≤2^6)
 have hTp:0<T:=by rw[←hT];exact Nat.two_pow_pos n
 have hsh:=Bc (n:=n) (by omega)
 have hfr:=PLift.up (lV (n:=n) (tb:=mkT (mdB B L) true T) (M:=T) (by omega) (uo _) hT.symm)
 have htk:=Zz (p:=mdB B L) (up:=true) (T:=T)
 have hwi:=fun(x s:Nat) (hx:x<65536) (h:s<65536)=>PLift.up (by
  have:=Bh (s:=x) (q:=s)
  rw[Lp hx,Lp h] at this;exact this)
 rw[hT] at hsh
 unfold dgV at*
 generalize((kM n (mkT (mdB B L) true T)).1.length==0)=zb at hfr⊢
 generalize kM n (mkT (mdB B L) true T)=R at hfr⊢
 unfold drC
 refine ak Tryz.func13 Tryz.ntmps13 rfl ?_
 repeat' (first|((first|refine bI (r:=12) 2 ?_|refine bH (r:=12) 2 ?_);simp-dsimp(disch:=try exact vD) only[push_cast,simprocAttr,Bool.true_or,Bool.false_or,Bool.or_false,l6,htk,hsh,hmin,hs0,hq,hg,hb0,hbs,hL00,hv,ht,hw,hst,hlT,drC];(repeat refine aI ?_);intro K hK;refine hK _ _ ?_;clear hK K)|(refine ai ?_;refine au [0,1,2] ([0,1,2].length) (mdG z N B L n s (mdB B L s)) (fun x=>s-x.val) (⟨0,by omega⟩) rfl (by unfold mdG;(try simp only[List.cons_append,List.nil_append]);refine Sub.mk2 ?_;(simp-dsimp(disch:=try exact vD) only[push_cast,simprocAttr,Bool.true_or,Bool.false_or,Bool.or_false,l6,htk,hsh,hmin,hs0,hq,hg,hb0,hbs,hL00,hv,ht,hw,hst,hlT,drC]);(repeat refine aI ?_);first|done|exact vI) ?_;(rintro⟨x,hx⟩;have hst:=alV (l:=mkT (mdB B L) true s) (s:=s) (x:=x);have hsn:mkT (mdB B L) true s++[or (mdB B L s) (isx (mkT (mdB B L) true s) s s)]=mkT (mdB B L) true (s+1):=(by rw[mkT,Bool.true_and]);rw[hb0] at hsn;rcases Nat.lt_or_eq_of_le hx with hxl|hxl<;>first|(have ex:s=x:=hxl.symm;subst ex;rcases Bool.eq_false_or_eq_true (isx (mkT (mdB B L) true s) s s) with hv|hv<;>rw[hv] at hsn<;>(try simp only[Bool.true_or,Bool.false_or,Bool.or_false,Bool.or_true] at hsn)<;>first|(have s00:s=0:=s0;subst s00;have hsn:=congrArg cB hsn;have hsn:[AV.val (.bool _)]=cB (mkT (mdB B L) true 1):=hsn;(simp-dsimp(disch:=try exact vD) only[push_cast,simprocAttr,mdG]))|(simp-dsimp(disch:=try exact vD) only[push_cast,simprocAttr,mdG]))|(rcases Bool.eq_false_or_eq_true (isx (mkT (mdB B L) true s) s x) with hv|hv<;>rw[hv] at hst<;>first|(rw[Bool.true_or] at hst;(simp-dsimp(disch:=try exact vD) only[push_cast,simprocAttr,mdG]))|(rw[Bool.false_or] at hst;rcases Bool.eq_false_or_eq_true ((mkT (mdB B L) true s).getD x default) with ht|ht<;>rw[ht] at hst<;>first|(rw[Bool.false_and] at hst;(simp-dsimp(disch:=try exact vD) only[push_cast,simprocAttr,mdG]))|(rw[Bool.true_and] at hst;rcases Decidable.em (yw x s%65536=0) with hw|hw<;>first|(rw[decide_eq_true hw] at hst;(simp-dsimp(disch:=try exact vD) only[push_cast,simprocAttr,mdG]))|(rw[decide_eq_false hw] at hst;(simp-dsimp(disch:=try exact vD) only[push_cast,simprocAttr,mdG])))))))|(refine ax ?_;refine Nxt.mk [0,1,2] (⟨x+1,by omega⟩) rfl (by unfold mdG;(try simp only[List.cons_append,List.nil_append]);refine Sub.mk2 ?_;(simp-dsimp(disch:=try exact vD) only[push_cast,simprocAttr,Bool.true_or,Bool.false_or,Bool.or_false,l6,htk,hsh,hmin,hs0,hq,hg,hb0,hbs,hL00,hv,ht,hw,hst,hlT,drC]);(repeat refine aI ?_);first|done|exact vI) (by first|omega|(dsimp only;omega)|(simp;done)|(simp;omega)))|(refine ai ?_;refine au [0,1,9] ([0,1,9].length) (mdA z N B L true n T) (fun s=>T-s.val) (⟨0,by omega⟩) rfl (by unfold mdA;(try simp only[List.cons_append,List.nil_append]);refine Sub.mk2 ?_;(simp-dsimp(disch:=try exact vD) only[push_cast,simprocAttr,Bool.true_or,Bool.false_or,Bool.or_false,l6,htk,hsh,hmin,hs0,hq,hg,hb0,hbs,hL00,hv,ht,hw,hst,hlT,drC]);(repeat refine aI ?_);first|done|exact vI) ?_;(rintro⟨s,hs⟩;rcases Nat.lt_or_eq_of_le hs with hsl|hsl<;>first|(have es:T=s:=hsl.symm;subst es;(simp-dsimp(disch:=try exact vD) only[push_cast,simprocAttr,mdA]))|(have hlT:=uo (p:=mdB B L) (up:=true) s;rcases Nat.eq_zero_or_pos s with s0|s0<;>rcases Nat.eq_zero_or_pos L with h0|h0<;>first|(have hb0:mdB B L s=false:=(by rw[h0];exact afa);have hL00:(0<(L:Int))=False:=eq_false (by omega);(simp-dsimp(disch:=try exact vD) only[push_cast,simprocAttr,mdA]))|(have hb0:=afb (B:=B) (s:=s) h0;have hmin:min ((s:Int)%8).toNat IntKind.u8.bits=((s:Int)%8).toNat:=Nat.min_eq_left (by show _≤8;omega);have hqL:s/8%L<L:=Nat.mod_lt _ h0;have hq:((s:Int)/8%(L:Int))=((s/8%L:Nat):Int):=(by norm_cast);obtain⟨q,hqe⟩:∃q,s/8%L=q:=⟨_,rfl⟩;rw[hqe] at hq hqL hb0;have hg:=Bi (l:=B) (j:=q) (by omega);have hlB:(NI B).length=L:=(by rw[dS,hL]);obtain⟨y,hye⟩:∃y,B.getD q 0=y:=⟨_,rfl⟩;have hy:=hb q;rw[hye] at hg hy hb0;rcases Bool.eq_false_or_eq_true (bsI y s) with h8|h8<;>rw[h8] at hb0<;>first|(have hbs:=eq_true (of_decide_eq_true h8);(simp-dsimp(disch:=try exact vD) only[push_cast,simprocAttr,mdA]))|(have hbs:=eq_false (of_decide_eq_false h8);(simp-dsimp(disch:=try exact vD) only[push_cast,simprocAttr,mdA]))))))|(refine ax ?_;refine Nxt.mk [0,1,4] (⟨1,by omega⟩) rfl (by unfold mdA;(try simp only[List.cons_append,List.nil_append]);refine Sub.mk2 ?_;(simp-dsimp(disch:=try exact vD) only[push_cast,simprocAttr,Bool.true_or,Bool.false_or,Bool.or_false,l6,htk,hsh,hmin,hs0,hq,hg,hb0,hbs,hL00,hv,ht,hw,hst,hlT,drC,hsn]);(repeat refine aI ?_);first|done|exact vI) (by first|omega|(dsimp only;omega)|(simp;done)|(simp;omega)))|(refine ax ?_;refine Nxt.mk [0,1,2] (⟨s+1,by omega⟩) rfl (by unfold mdA;(try simp only[List.cons_append,List.nil_append]);refine Sub.mk2 ?_;(simp-dsimp(disch:=try exact vD) only[push_cast,simprocAttr,Bool.true_or,Bool.false_or,Bool.or_false,l6,htk,hsh,hmin,hs0,hq,hg,hb0,hbs,hL00,hv,ht,hw,hst,hlT,drC,hsn]);(repeat refine aI ?_);first|done|exact vI) (by first|omega|(dsimp only;omega)|(simp;done)|(simp;omega)))|(refine ax ?_;refine Nxt.mk [0,1,3] (⟨s+1,by omega⟩) rfl (by unfold mdA;(try simp only[List.cons_append,List.nil_append]);refine Sub.mk2 ?_;(simp-dsimp(disch:=try exact vD) only[push_cast,simprocAttr,Bool.true_or,Bool.false_or,Bool.or_false,l6,htk,hsh,hmin,hs0,hq,hg,hb0,hbs,hL00,hv,ht,hw,hst,hlT,drC,hsn]);(repeat refine aI ?_);first|done|exact vI) (by first|omega|(dsimp only;omega)|(simp;done)|(simp;omega)))|(refine ax ?_;refine Nxt.mk [0,1,4] (⟨s+1,by omega⟩) rfl (by unfold mdA;(try simp only[List.cons_append,List.nil_append]);refine Sub.mk2 ?_;(simp-dsimp(disch:=try exact vD) only[push_cast,simprocAttr,Bool.true_or,Bool.false_or,Bool.or_false,l6,htk,hsh,hmin,hs0,hq,hg,hb0,hbs,hL00,hv,ht,hw,hst,hlT,drC,hsn]);(repeat refine aI ?_);first|done|exact vI) (by first|omega|(dsimp only;omega)|(simp;done)|(simp;omega)))|apply dG|apply aF|((first|refine ay rfl (fun K hK=>?_)|refine aj (fun K hK=>?_)|refine aA (fun K hK=>?_));(first|refine ah (f:=42) [] 0 false ?_|refine ah (f:=41) [] 0 false ?_);simp-dsimp(disch:=try exact vD) only[push_cast,simprocAttr,Bool.true_or,Bool.false_or,Bool.or_false,l6,htk,hsh,hmin,hs0,hq,hg,hb0,hbs,hL00,hv,ht,hw,hst,hlT,drC];(repeat refine aI ?_);intro G hG;refine hG _ _ ?_;clear hG G;(first|refine⟨_,_,hfr.down,?_⟩|refine⟨_,_,(hwi x s (by omega) (by omega)).down,?_⟩);simp-dsimp(disch:=try exact vD) only[push_cast,simprocAttr,Bool.true_or,Bool.false_or,Bool.or_false,l6,htk,hsh,hmin,hs0,hq,hg,hb0,hbs,hL00,hv,ht,hw,hst,hlT,drC];(repeat refine aI ?_);apply hK;clear hK K)|((first|refine ay rfl (fun K hK=>?_)|refine aj (fun K hK=>?_)|refine aA (fun K hK=>?_));(first|apply cO|apply aZ|apply df|apply aT|apply aW|apply bf|apply bu|apply fK|apply bZ|apply fA|apply gm|apply fu|apply eG|apply aX|apply dK|apply dP|apply dm|apply bU|apply dY|apply dM);simp-dsimp(disch:=try exact vD) only[push_cast,simprocAttr,Bool.true_or,Bool.false_or,Bool.or_false,l6,htk,hsh,hmin,hs0,hq,hg,hb0,hbs,hL00,hv,ht,hw,hst,hlT,drC];(repeat refine aI ?_);apply hK;clear hK K)|((first|refine ay rfl (fun K hK=>?_)|refine aj (fun K hK=>?_)|refine aA (fun K hK=>?_));(first|apply gz);simp-dsimp(disch:=try exact vD) only[push_cast,simprocAttr,Bool.true_or,Bool.false_or,Bool.or_false,l6,htk,hsh,hmin,hs0,hq,hg,hb0,hbs,hL00,hv,ht,hw,hst,hlT,drC];(repeat refine aI ?_);apply hK;clear hK K)|((first|refine ay rfl (fun K hK=>?_)|refine aj (fun K hK=>?_)|refine aA (fun K hK=>?_));(first|apply eO);simp-dsimp(disch:=try exact vD) only[push_cast,simprocAttr,Bool.true_or,Bool.false_or,Bool.or_false,l6,htk,hsh,hmin,hs0,hq,hg,hb0,hbs,hL00,hv,ht,hw,hst,hlT,drC];(repeat refine aI ?_);apply hK;clear hK K)|((first|refine ay rfl (fun K hK=>?_)|refine aj (fun K hK=>?_)|refine aA (fun K hK=>?_));(first|apply eH);simp-dsimp(disch:=try exact vD) only[push_cast,simprocAttr,Bool.true_or,Bool.false_or,Bool.or_false,l6,htk,hsh,hmin,hs0,hq,hg,hb0,hbs,hL00,hv,ht,hw,hst,hlT,drC];(repeat refine aI ?_);apply hK;clear hK K)|((first|refine aQ rfl rfl (fun K1 K2 h1 h2=>?_) rfl|refine aJ (fun K1 K2 h1 h2=>?_)|refine bL rfl rfl (fun K1 K2 h1 h2=>?_));simp-dsimp(disch:=try exact vD) only[push_cast,simprocAttr,Bool.true_or,Bool.false_or,Bool.or_false,l6,htk,hsh,hmin,hs0,hq,hg,hb0,hbs,hL00,hv,ht,hw,hst,hlT,drC];(first|(refine⟨fun hc=>?_,fun hc=>?_⟩<;>first|(exfalso;omega)|(exfalso;contradiction)|refine h1 ?_|refine h2 ?_)|refine h1 ?_|refine h2 ?_);all_goals clear h1 h2 K1 K2)|(refine aV (id:=6) (by kernel_rfl) [⟨0,[],[],[],[],0⟩,⟨1,[0],[],[],[],0⟩,⟨2,[0,1],[],[],[],0⟩,⟨3,[0,1,2],[],[],[],0⟩,⟨4,[0,1,2,3],[],[],[],0⟩,⟨5,[0,1,2,3,4],[25,26,27,28,29,30,33,34],[],[],0⟩,⟨6,[0,1,2,3,4,5],[25,26,27,28,29,30,33,34],[],[],0⟩,⟨7,[0,1,2,3,4],[23,24,27,28,29,33,34],[],[],0⟩,⟨8,[0,1,2,3,4,7],[23,24,27,28,29,33,34],[],[],0⟩,⟨9,[0,1,2,3,4],[23,24,25,26,33,34],[],[],0⟩,⟨10,[0,1,2,3,4,9],[23,24,25,26,33,34],[],[],0⟩,⟨11,[0,1,2,3,4,9,10],[23,24,25,26,33,34],[],[],0⟩,⟨12,[0,1,2,3,4,7,8,9,10,11],[23,24,33,34],[],[],0⟩,⟨13,[0,1,2,3,4,5,6,7,8,9,10,11,12],[33,34],[],[],0⟩,⟨14,[0,1,2,3,4,5,6,7,8,9,10,11,12,13],[33,34],[],[],0⟩,⟨15,[0,1,2,3,4],[23,24,25,26,27,28,29,30,31,32],[],[],0⟩,⟨16,[0,1,2,3,4,15],[23,24,25,26,27,28,29,30,31,32],[],[],0⟩,⟨17,[0,1,2,3,4,5,6,7,8,9,10,11,12,13,14,15,16],[],[],[],0⟩,⟨18,[0,1,2,3,4,5,6,7,8,9,10,11,12,13,14,15,16,17],[],[],[],0⟩,⟨19,[0,1,2,3,4,5,6,7,8,9,10,11,12,13,14,15,16,17,18],[],[],[],0⟩,⟨20,[0,1,2,3,4,5,6,7,8,9,10,11,12,13,14,15,16,17,18,19],[],[],[],0⟩,⟨21,[0,1,2,3,4,5,6,7,8,9,10,11,12,13,14,15,16,17,18,19,20],[],[],[],0⟩] (by kernel_rfl) (by kernel_rfl) (by kernel_rfl) ?_)|((first|refine dW (by kernel_rfl) (fun K hK=>?_)|refine gy (by kernel_rfl) (fun K hK=>?_));simp only[↓Go.Sy.dz,↓Go.Sy.dA,↓Go.Sy.dU,↓Go.Sy.dD,↓Go.Sy.dV,↓Go.Sy.cZ,↓Go.Sy.dE,push_cast,Nat.reduceLeDiff,Nat.reduceSub,Nat.reduceBEq,Nat.reduceEqDiff,Nat.reduceAdd,Nat.reduceLT,↓reduceIte,reduceCtorEq];refine hK _ _ _ ?_;clear hK K)|apply jl|apply dH|apply aR|apply bX|apply bz|apply aS|apply bY|apply bA|(refine aY rfl ?_)|apply bB|apply bW|apply bV|apply dF)
 all_goals first
  |((refine Ends.mk2 (by first|exact .inr rfl|exact .inl rfl) [] ?_;simp-dsimp(disch:=try exact vD) only[push_cast,simprocAttr,Tryz.f13];try exact zqF);done)
  |skip
end
section
variable {n N M T L k i m r a b j w u v s q x y d:Nat} {z z' up up':Bool} {B B':List Nat} {F:List Fo} {p f g:Nat→Bool}
theorem ZA(h:MQ N B L):∃F r,DOk (N%7) F r∧ACall Tryz.prog 13 [.agg (drC N z B L up)] [] 0 (.agg [.val (.int .i64 (N%7:Nat)),.isl (F.length==0) (cR F) F.length,.val (.int .i64 r)]) []:=by
 cases up with
 |false=>exact⟨_,_,nD (by omega),ajw h.n h.len h.lt rfl rfl h.b⟩
 |true=>exact⟨_,_,nD (by omega),ajx h.n h.len h.lt rfl rfl h.b⟩
end
end
section
open Go Go.Sy Go.Lm Go.Rt Go.Dg
attribute [local irreducible] AO AL AC OpT ACall Ends DGo bK Thn Blk Nxt
variable {n N M L k i m r:Nat} {z zl:Bool} {up:Bool} {B:List Nat} {l:List Chc} {F:List Fo}
structure MO(l:List Chc)(k:Nat):Prop where
 len:l.length=k
 lt:k<2^47
 b:∀i,(l.getD i default).a<256∧(l.getD i default).b<256
def chP(l:List Chc)(i:Nat):Rat:=chQ (l.getD i default)
theorem mV:0≤chP l i∧chP l i≤1∧(chP l i).den≤1000000:=by
 have h:=YZ (l.getD i default)
 exact⟨h.1,h.2.1,Nat.le_trans h.2.2 (by decide)⟩
theorem yR:Gd (lsL l n) (chP l) (fun i=>(chP l i).den) n:=Gd.rc iZ (fun i hi=>Fs hi) fun i _=>mV
theorem uq(h:MO l k)(hn:n≤1000):ACall Tryz.prog 14 [.isl zl (cR l) k,.val (.int .i64 n)] [] 0 (.isl (n==0) (cR (lsL l n)) n) []:=
 ad9 h.len h.lt hn fun i _=>ME (h.b i).1 (h.b i).2
theorem afc(hD:DOk n F r)(hN:F.length=N)(h9:n≤9):ACall Tryz.prog 50 [dI z n (F.map fk) N r] [] 0 (.val (.int .i64 0)) []:=yQ ⟨F,r,rfl,rfl,hD⟩ (by rw[List.length_map];exact hN) (by omega)
theorem xh(h:MQ N B L):∃n F r M,n≤6∧DOk n F r∧F.length=M∧ACall Tryz.prog 13 [.agg (drC N z B L up)] [] 0 (dI (M==0) n (F.map fk) M r) []:=by
 obtain⟨F,r,hD,hM⟩:=ZA (z:=z) (up:=up) h
 refine⟨N%7,F,r,F.length,by omega,hD,rfl,?_⟩
 unfold dI;rw[gV];exact hM
end
section
open Go Go.Sy Go.Bp Go.Dg Go.Lm
theorem Bq{m:Nat} {av:List AV}(h:dO Tryz.prog m 52 av):∃x:Chc,av=aa.cells x∧x.a<256∧x.b<256:=by
 obtain⟨_,xs,rfl,hl,hx⟩:=jm Tryz.underlying52 h
 match xs,hl with
 |[a0,a1],_=>
  obtain⟨b0,rfl,h0⟩:=gT Tryz.underlying5 (hx 0 _ a0 rfl rfl)
  obtain⟨b1,rfl,h1⟩:=gT Tryz.underlying5 (hx 1 _ a1 rfl rfl)
  have h0:=wC h0
  have h1:=wC h1
  obtain⟨n0,rfl⟩:=Int.eq_ofNat_of_zero_le h0.1
  obtain⟨n1,rfl⟩:=Int.eq_ofNat_of_zero_le h1.1
  exact⟨⟨n0,n1⟩,rfl,(by omega:n0<256),(by omega:n1<256)⟩
theorem iO{m:Nat} {av:List AV}(h:dO Tryz.prog m 25 av):∃(z:Bool) (l:List Chc),av=[.isl z (cR l) l.length]∧MO l l.length:=by
 obtain⟨z,l,e,ho,hl,_⟩:=lN (g:=fun(x:Chc)=>aa.cells x) (Q:=fun x=>x.a<256∧x.b<256) (bn:=2) Tryz.underlying25 h (by kernel_rfl) (by decide) (fun n x hx=>Bq hx)
 refine⟨z,l,e,rfl,hl,fun i=>?_⟩
 by_cases hi:i<l.length
 ·rw[List.getD_eq_getElem?_getD,List.getElem?_eq_getElem hi];exact ho _ (List.getElem_mem hi)
 ·rw[List.getD_eq_getElem?_getD,List.getElem?_eq_none (by omega)];exact⟨by decide,by decide⟩
end
section
open Go Go.Sy Go.Lm Go.Rt Go.Dg
attribute [local irreducible] AO AL AC OpT ACall Ends DGo bK Thn Blk Nxt
variable {n N M L k i m r:Nat} {z zl:Bool} {up:Bool} {B:List Nat} {l:List Chc} {F:List Fo}
theorem ajz(h:MQ N B L)(hc:MO l k):ACall Tryz.prog 3 [.agg (drC N z B L up),.isl zl (cR l) k] [] 0 (.val (.bool true)) []:=by
 obtain⟨n,F,r,M,hn6,hD,hN,hM⟩:=xh (z:=z) (up:=up) h
 have g:=yR (l:=l) (n:=n)
 have hls:=uq (zl:=zl) (n:=n) hc (by omega)
 have ha:=uO (z:=(M==0)) (zp:=(n==0)) hD hN g
 have hb:=Zn (z:=(M==0)) (zp:=(n==0)) (afc hD hN (by omega)) hD hN g
 have he:=eq_self _ (jo (tab:=fun t=> !aG F t r) g.cs hD.n12)
 generalize rC (Pr (chP l) n fun t=> !aG F t r)=W at*
 have hM:=PLift.up hM;have hls:=PLift.up hls;have ha:=PLift.up ha;have hb:=PLift.up hb;have he:=PLift.up he;have haw:=PLift.up bQ
 clear g hD h hc
 unfold dI drC at*
 generalize(M==0)=zm at*
 generalize(n==0)=zn at*
 refine ak Tryz.func3 Tryz.ntmps3 rfl ?_
 repeat' (first|refine zqN ?_|refine az haw.down ?_|refine az hM.down ?_|refine az hls.down ?_|refine az ha.down ?_|refine az hb.down ?_|refine az he.down ?_|refine aK ?_|refine aL ?_|(refine aM ?_ ?_<;>intro hc<;>try exact zqM))
 all_goals first
  |((refine Ends.mk2 zqI [] ?_;simp-dsimp(disch:=try exact vD) only[push_cast,simprocAttr,Tryz.f3];try exact zqF);done)
  |skip
end
