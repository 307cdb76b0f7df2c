/- Di1 Di3 Di4 Di6 Di5. No condition. -/
import Derived.Test.YtcbginhpibfgaaaGreatDoorDgG1
import Derived.Test.YtcbginhpibfgaaaGreatDoorEcG1
set_option linter.all false
set_option maxHeartbeats 4000000
set_option maxRecDepth 20000
namespace Go.Proofs.YtcbginhpibfgaaaGreatDoor
section
open Go Go.Sy Go.Dg
attribute [local irreducible] AO AL AC OpT ACall Ends DGo bK Thn Blk Nxt
instance:aa Fo 3:=⟨fun x=>[.val (.int .i64 x.v),.val (.int .i64 x.lo),.val (.int .i64 x.hi)],fun _=>rfl,fun _=>rfl,fun _=>rfl⟩
variable {F G:List Fo} {v lo hi n k:Nat} {b:Bool}
def PV(l:List (List Int×AV)):Prop:=∀x∈l,∃v,x.2= .val v
theorem PV.id{l:List (List Int×AV)}(h:PV l){g:AV→AV}(hg:∀v,g (.val v)= .val v):(l.map fun x=>(x.1,g x.2))=l:=by
 conv=>rhs;rw[←List.map_id l]
 refine List.map_congr_left fun x hx=>?_
 obtain⟨v,hv⟩:=h x hx
 rw[hv,hg,←hv];rfl
theorem PV.all{l:List (List Int×AV)}(h:PV l){g:AV→Prop}(hg:∀v,g (.val v)):(∀x∈l,g x.2)=True:=eq_true fun x hx=>by
 obtain⟨v,hv⟩:=h x hx
 rw[hv];exact hg v
theorem P9:cR F++[AV.val (.int .i64 (v:Int)),AV.val (.int .i64 (lo:Int)),AV.val (.int .i64 (hi:Int))]=cR (F++[(⟨v,lo,hi⟩:Fo)]):=by rw[←Eo];rfl
abbrev b0:List aD:=[.cells [.isl true [] 0,.mp 1] 168,.map true 3 []]
theorem Wx(x:Int):x+1+1=x+2:=by omega
end
section
open Go Go.Sy Go.Dg
attribute [local irreducible] AO AL AC OpT ACall Ends DGo bK Thn Blk Nxt
variable {F F1 F2 G:List Fo} {v lo hi n k k1 k2 k' i m s a b r:Nat} {A:FuncId} [mW Tryz.prog A]{c1:List AV} {tab:Nat→Bool} {z:Bool}
def dgV(z:Bool)(n:Nat)(F:List Fo)(r:Nat):AV:= .agg [.val (.int .i64 n),.isl z (cR F) F.length,.val (.int .i64 r)]
theorem ahP:U 0=0:=rfl
end
section
open Go Go.Sy Go.Dg
attribute [local irreducible] AO AL AC OpT ACall Ends DGo bK Thn Blk Nxt
structure Fk where
 v:Int
 lo:Int
 hi:Int
deriving DecidableEq
instance:Inhabited Fk:=⟨⟨0,0,0⟩⟩
instance:aa Fk 3:=⟨fun x=>[.val (.int .i64 x.v),.val (.int .i64 x.lo),.val (.int .i64 x.hi)],fun _=>rfl,fun _=>rfl,fun _=>rfl⟩
def fk(f:Fo):Fk:=⟨f.v,f.lo,f.hi⟩
theorem gV{F:List Fo}:cR (F.map fk)=cR F:=by
 induction F with
 |nil=>rfl
 |cons f F ih=>rw[List.map_cons,kV,kV,ih];rfl
variable {N N':Nat} {F F1 F2 G:List Fo} {L L':List Fk} {v lo hi n k k1 k2 k' i m s t a b r:Nat} {p q p' q':Int} {z z':Bool} {x y:Fk}
theorem cz(x:Fo):aa.cells x=[.val (.int .i64 x.v),.val (.int .i64 x.lo),.val (.int .i64 x.hi)]:=rfl
theorem uG(x:Int):x+1+1-2=x:=by omega
end
section
open Go Go.Sy Go.Dg
attribute [local irreducible] AO AL AC OpT ACall Ends DGo bK Thn Blk Nxt
variable {N N' N1 N2 T:Nat} {F F1 F2 G:List Fo} {L L':List Fk} {v lo hi n k k1 k2 k' i m s t a b r:Nat} {p q p' q':Int} {z z':Bool} {x y:Fk}
theorem Sv(hr:r<2):ACall Tryz.prog 99 [.agg [.val (.int .i64 n),.isl z (cR F) N,.val (.int .i64 q)],.val (.int .i64 r)] [] 0 (.val (.int .i64 n)) []:=by
 refine ak Tryz.func99 Tryz.ntmps99 rfl ?_
 repeat' (first|refine zqN ?_|refine aK ?_|refine aL ?_|(refine aM ?_ ?_<;>intro hc<;>try exact zqM))
 all_goals((refine Ends.mk2 zqI [] ?_;simp-dsimp(disch:=try exact vD) only[push_cast,simprocAttr,Tryz.f99];try exact zqF))
theorem Iq(hN:F.length=N)(hN2:N<2^40)(hk:k<N):ACall Tryz.prog 99 [.agg [.val (.int .i64 n),.isl z (cR F) N,.val (.int .i64 q)],.val (.int .i64 ((k:Int)+1+1))] [] 0 (.val (.int .i64 (F.getD k default).v)) []:=by
 have zx1:¬(k:Int)+1+1<2:=by omega
 refine ak Tryz.func99 Tryz.ntmps99 rfl ?_
 have zx2:= @uG;have zx3:= @cz;repeat' (first|refine zqN ?_|refine bM ?_|refine bO ?_|(refine bP ?_ ?_<;>intro hc<;>try exact zqM))
 all_goals((refine Ends.mk2 zqI [] ?_;simp-dsimp(disch:=try exact vD) only[push_cast,simprocAttr,Tryz.f99];try exact zqF))
theorem nC(hN:F.length=N)(hN2:N<2^40)(hr:r<N+2):ACall Tryz.prog 99 [.agg [.val (.int .i64 n),.isl z (cR F) N,.val (.int .i64 q)],.val (.int .i64 r)] [] 0 (.val (.int .i64 (aP n F r))) []:=by
 unfold aP
 by_cases h:r<2
 ·rw[if_pos h];exact Sv h
 ·rw[if_neg h]
  obtain⟨k,rfl⟩:∃k,r=k+2:=⟨r-2,by omega⟩
  have:=Iq (z:=z) (n:=n) (q:=q) hN hN2 (show k<N by omega)
  rw[Nat.add_sub_cancel]
  have e:((k+2:Nat):Int)=(k:Int)+1+1:=by omega
  rw[e];exact this
def uH(F:List Fo)(i:Nat):List (List Int×AV):=(F.take i).map fun f=>([(f.v:Int),(f.lo:Int),(f.hi:Int)],.val (.bool true))
theorem seen_pv:PV (uH F i):=fun x hx=>by
 obtain⟨f,_,rfl⟩:=List.mem_map.1 hx
 exact⟨_,rfl⟩
theorem WK{τ:Nat→Nat}:((uH F i).map fun x=>(x.1,ren τ x.2))=uH F i:=seen_pv.id fun v=>by simp[ren]
theorem WL{j:Nat}:(∀x∈uH F i,bnd j x.2)=True:=seen_pv.all fun v=>by simp[bnd]
attribute [push_cast] WK WL
theorem Ir(hnd:F.Nodup)(hi:i<F.length):cK (uH F i) [((F.getD i default).v:Int),((F.getD i default).lo:Int),((F.getD i default).hi:Int)]=none:=by
 have key:∀l:List Fo,(∀f∈l,¬f=F.getD i default)→cK (l.map fun f=>([(f.v:Int),(f.lo:Int),(f.hi:Int)],AV.val (.bool true))) [((F.getD i default).v:Int),((F.getD i default).lo:Int),((F.getD i default).hi:Int)]=none:=by
  intro l
  induction l with
  |nil=>intro _;rfl
  |cons f l ih=>
   intro h
   rw[List.map_cons]
   simp only[cK]
   rw[if_neg,ih fun g hg=>h g (List.mem_cons_of_mem _ hg)]
   intro e
   refine h f (List.mem_cons_self ..) ?_
   generalize F.getD i default=g at e
   cases f;cases g
   simp only[List.cons.injEq,and_true] at e
   simp only[Fo.mk.injEq]
   omega
 refine key _ fun f hf e=>?_
 obtain⟨j,hj,rfl⟩:=List.getElem_of_mem hf
 have hj2:j<i∧j<F.length:=by simp at hj;omega
 rw[List.getElem_take] at e
 have e3:F.getD i default=F[i]:=by simp[List.getD_eq_getElem?_getD,hi]
 rw[e3] at e
 have u1:=hnd.idxOf_getElem j hj2.2
 have u2:=hnd.idxOf_getElem i hi
 rw[e,u2] at u1
 omega
theorem WM(hnd:F.Nodup)(hi:i<F.length):mM (uH F i) [((F.getD i default).v:Int),((F.getD i default).lo:Int),((F.getD i default).hi:Int)] (.val (.bool true))=uH F (i+1):=by
 rw[kU _ _ _ (Ir hnd hi)]
 unfold uH
 rw[take_s hi,List.map_append];rfl
theorem ahT:uH F 0=[]:=rfl
def orI(z:Bool)(n:Nat)(q:Int)(F:List Fo)(N:Nat)(i:{i:Nat // i≤N}):St:=
 ⟨80,0,[(1,.pt 0 0),(3,.mp 1),(8,.isl z (cR F) N),(9,.val (.int .i64 N)),(10,.val (.int .i64 i.val))],[(0,some (.cells [.val (.int .i64 n),.isl z (cR F) N,.val (.int .i64 q)] 29)),(1,some (.map true 3 (uH F i.val)))]⟩
theorem Sw(hg:Go.Dg.Good n F)(hN:F.length=N)(hN2:N<2^40):ACall Tryz.prog 107 [.agg [.val (.int .i64 n),.isl z (cR F) N,.val (.int .i64 q)]] [] 0 (.val (.bool true)) []:=by
 have hsv:=fun(r:Nat) (hr:r<N+2)=>PLift.up (nC (z:=z) (n:=n) (q:=q) hN hN2 hr)
 have zx1:=ae;have zx2:=ae
 refine ak Tryz.func107 Tryz.ntmps107 rfl ?_
 have zx3:= @cz;have zx4:= @ahT;have zx5:=aC;have zx6:=aC;repeat' (first|(refine ai ?_;refine au [0,1] ([0,1].length) (orI z n q F N) (fun i=>N-i.val) (⟨0,by omega⟩) rfl (by unfold orI;exact gY) ?_;(rintro⟨i,hi⟩;rcases Nat.lt_or_eq_of_le hi with hil|hil<;>first|(have ei:N=i:=hil.symm;subst ei;(simp-dsimp only[orI];refine zqS ?_))|(have ho:=hg.ok i (by omega);have o1:=ho.v;have o2:=ho.lo;have o3:=ho.hi;have o4:=ho.ne;have o5:=ho.sl;have o6:=ho.sh;clear ho;have zx1:=Ir hg.nd (show i<F.length by omega);have zx2:=WM hg.nd (show i<F.length by omega);(simp-dsimp only[orI];refine zqS ?_))))|(refine ax ?_;refine Nxt.mk [0,1] (⟨i+1,by omega⟩) rfl (by unfold orI;exact gY) zqO)|refine zqN ?_|refine gG (hsv (F.getD i default).lo (by omega)).down ?_|refine gG (hsv (F.getD i default).hi (by omega)).down ?_|refine kE ?_|refine kF ?_|(refine kG ?_ ?_<;>intro hc<;>try exact zqM)|refine zqR 7 [⟨0,[],[62,63,65,66],[],[],0⟩,⟨1,[],[61,65,66],[],[],0⟩,⟨2,[1],[61,65,66],[],[],0⟩,⟨3,[0,1,2],[65,66],[],[],0⟩,⟨4,[],[61,62,63,64],[],[],0⟩,⟨5,[4],[61,62,63,64],[],[],0⟩,⟨6,[0,1,2,3,4,5],[],[],[],0⟩,⟨7,[0,1,2,3,4,5,6],[],[],[],0⟩,⟨8,[0,1,2,3,4,5,6,7],[70,71,73,74],[],[],0⟩,⟨9,[0,1,2,3,4,5,6,7],[69,73,74],[],[],0⟩,⟨10,[0,1,2,3,4,5,6,7,9],[69,73,74],[],[],0⟩,⟨11,[0,1,2,3,4,5,6,7,8,9,10],[73,74],[],[],0⟩,⟨12,[0,1,2,3,4,5,6,7],[69,70,71,72],[],[],0⟩,⟨13,[0,1,2,3,4,5,6,7,12],[69,70,71,72],[],[],0⟩,⟨14,[0,1,2,3,4,5,6,7,8,9,10,11,12,13],[],[],[],0⟩,⟨15,[0,1,2,3,4,5,6,7,8,9,10,11,12,13,14],[],[],[],0⟩] ?_|refine zqD ?_|fail)
 all_goals first
  |((refine Ends.mk2 zqI [] ?_;simp-dsimp(disch:=try exact vD) only[push_cast,simprocAttr,Tryz.f107];try exact zqF);done)
  |skip
end
section
open Go Go.Sy Go.Dg
attribute [local irreducible] AO AL AC OpT ACall Ends DGo bK Thn Blk Nxt
variable {N N' N1 N2 T:Nat} {F F1 F2 G:List Fo} {L L':List Fk} {v lo hi n k k1 k2 k' i m s t a b r:Nat} {p q p' q':Int} {z z':Bool} {x y:Fk}
theorem cB_len{l:List Bool}:(cB l).length=l.length:=by simp[cB]
abbrev dN(n:Nat)(F:List Fo)(N:Nat)(q:Int):AV:= .agg [.val (.int .i64 n),.isl (N==0) (cR F) N,.val (.int .i64 q)]
theorem ahU{x:Fo} {v lo hi:Nat}:eqI [(x.v:Int),(x.lo:Int),(x.hi:Int)] [(v:Int),(lo:Int),(hi:Int)]=decide (x=⟨v,lo,hi⟩):=by
 rw[Eg]
 congr 1
 cases x
 simp only[List.cons.injEq,and_true,Fo.mk.injEq,eq_iff_iff]
 omega
theorem Sz{tb:List Bool} {M:Nat}(hM:tb.length=M)(hs:s<M)(h16:s<65536)(hn:n≤16):ACall Tryz.prog 80 [dN n F N q,.isl false (cB tb) M,.val (.int .i64 n),.val (.int .u16 (U s))] [] 0 (.tup [dN n F N q,.val (.int .i64 (if tb.getD s false=true then 1 else 0))]) []:=by
 rw[Lp h16]
 unfold dN
 show ACall Tryz.prog 80 _ [] 0 (.tup [_,.val (.int .i64 (if tb.getD s default=true then 1 else 0))]) []
 rcases Bool.eq_false_or_eq_true (tb.getD s default) with zx1|zx1<;>rw[zx1]
 all_goals(refine ak Tryz.func80 Tryz.ntmps80 rfl ?_)
 all_goals(have zx2:=aC;have zx3:=aC;repeat' (first|refine zqN ?_|refine bM ?_|refine jT ?_|refine jU ?_|refine jV ?_|refine bO ?_|(refine bP ?_ ?_<;>intro hc<;>try exact zqM)|refine zqR 6 [⟨0,[],[35,36,37,38,39,40,41],[],[],0⟩,⟨1,[],[34,36,37,38,39,40,41],[],[],0⟩,⟨2,[],[34,35,38,39,40,41],[],[],0⟩,⟨3,[2],[34,35,38,39,40,41],[],[],0⟩,⟨4,[],[34,35,36,37,39,40],[],[],0⟩,⟨5,[],[34,35,36,37,38],[],[],0⟩,⟨6,[5],[34,35,36,37,38],[],[],0⟩,⟨7,[4,5,6],[34,35,36,37],[],[],0⟩,⟨8,[0,1,2,3,4,5,6,7],[],[],[],0⟩,⟨9,[0,1,2,3,4,5,6,7,8],[],[],[],0⟩,⟨10,[0,1,2,3,4,5,6,7,8,9],[44],[],[],0⟩,⟨11,[0,1,2,3,4,5,6,7,8,9],[43],[2],[],0⟩,⟨12,[0,1,2,3,4,5,6,7,8,9,10],[44],[],[2],0⟩,⟨13,[0,1,2,3,4,5,6,7,8,9,10,11,12],[],[],[],0⟩] ?_|refine zqR 13 [⟨0,[],[63,66],[],[],0⟩,⟨1,[0],[63,66],[],[],0⟩,⟨2,[],[61,62,66],[],[],0⟩,⟨3,[0,1,2],[66],[],[],0⟩,⟨4,[0,1,2,3],[66],[],[],0⟩,⟨5,[],[61,62,63,64,65],[],[],0⟩,⟨6,[0,1,2,3,4,5],[],[],[],0⟩] ?_|refine zqR 15 [⟨0,[],[72,73,75,76],[],[],1⟩,⟨1,[],[71,75,76],[],[],0⟩,⟨2,[1],[71,75,76],[],[],0⟩,⟨3,[0,1,2],[75,76],[],[1],1⟩,⟨4,[],[71,72,73,74],[1],[],0⟩,⟨5,[4],[71,72,73,74],[1],[],1⟩,⟨6,[0,1,2,3,4,5],[],[],[2],1⟩,⟨7,[0,1,2,3,4,5,6],[],[],[],0⟩,⟨8,[0,1,2,3,4,5,6,7],[],[],[2],0⟩] ?_|refine zqR 16 [⟨0,[],[80,81,82,83],[],[],0⟩,⟨1,[],[79],[2],[],0⟩,⟨2,[1],[79],[2],[],0⟩,⟨3,[1,2],[79],[2],[],0⟩,⟨4,[1,2,3],[79],[2],[],0⟩,⟨5,[0],[80,81,82,83],[],[2],0⟩,⟨6,[0,1,2,3,4,5],[],[],[],0⟩] ?_|refine zqD ?_|fail))
 all_goals((refine Ends.mk2 zqI [] ?_;simp-dsimp(disch:=try exact vD) only[push_cast,simprocAttr,Tryz.f80];try exact zqF))
theorem aco{tb:List Bool} {M:Nat}(hi:i<n)(hn:n≤16)(h1:ACall Tryz.prog 80 [dN n F N q,.isl false (cB tb) M,.val (.int .i64 ((i:Int)+1)),.val (.int .u16 (U s))] [] 0 (.tup [dN n F1 N1 q,.val (.int .i64 a)]) [])
 (h2:ACall Tryz.prog 80 [dN n F1 N1 q,.isl false (cB tb) M,.val (.int .i64 ((i:Int)+1)),.val (.int .u16 (U (sor s (2^i))))] [] 0 (.tup [dN n F2 N2 q,.val (.int .i64 a)]) []):
 ACall Tryz.prog 80 [dN n F N q,.isl false (cB tb) M,.val (.int .i64 i),.val (.int .u16 (U s))] [] 0 (.tup [dN n F2 N2 q,.val (.int .i64 a)]) []:=by
 have zx1:¬(i:Int)=n:=by omega
 have h1:=PLift.up h1;have h2:=PLift.up h2
 unfold dN at*
 refine ak Tryz.func80 Tryz.ntmps80 rfl ?_
 have zx2:=aC;have zx3:=aC;repeat' (first|refine zqN ?_|refine bE h1.down ?_|refine bE h2.down ?_|refine bM ?_|refine jT ?_|refine jU ?_|refine jV ?_|refine bO ?_|(refine bP ?_ ?_<;>intro hc<;>try exact zqM)|refine zqR 6 [⟨0,[],[35,36,37,38,39,40,41],[],[],0⟩,⟨1,[],[34,36,37,38,39,40,41],[],[],0⟩,⟨2,[],[34,35,38,39,40,41],[],[],0⟩,⟨3,[2],[34,35,38,39,40,41],[],[],0⟩,⟨4,[],[34,35,36,37,39,40],[],[],0⟩,⟨5,[],[34,35,36,37,38],[],[],0⟩,⟨6,[5],[34,35,36,37,38],[],[],0⟩,⟨7,[4,5,6],[34,35,36,37],[],[],0⟩,⟨8,[0,1,2,3,4,5,6,7],[],[],[],0⟩,⟨9,[0,1,2,3,4,5,6,7,8],[],[],[],0⟩,⟨10,[0,1,2,3,4,5,6,7,8,9],[44],[],[],0⟩,⟨11,[0,1,2,3,4,5,6,7,8,9],[43],[2],[],0⟩,⟨12,[0,1,2,3,4,5,6,7,8,9,10],[44],[],[2],0⟩,⟨13,[0,1,2,3,4,5,6,7,8,9,10,11,12],[],[],[],0⟩] ?_|refine zqR 13 [⟨0,[],[63,66],[],[],0⟩,⟨1,[0],[63,66],[],[],0⟩,⟨2,[],[61,62,66],[],[],0⟩,⟨3,[0,1,2],[66],[],[],0⟩,⟨4,[0,1,2,3],[66],[],[],0⟩,⟨5,[],[61,62,63,64,65],[],[],0⟩,⟨6,[0,1,2,3,4,5],[],[],[],0⟩] ?_|refine zqR 15 [⟨0,[],[72,73,75,76],[],[],1⟩,⟨1,[],[71,75,76],[],[],0⟩,⟨2,[1],[71,75,76],[],[],0⟩,⟨3,[0,1,2],[75,76],[],[1],1⟩,⟨4,[],[71,72,73,74],[1],[],0⟩,⟨5,[4],[71,72,73,74],[1],[],1⟩,⟨6,[0,1,2,3,4,5],[],[],[2],1⟩,⟨7,[0,1,2,3,4,5,6],[],[],[],0⟩,⟨8,[0,1,2,3,4,5,6,7],[],[],[2],0⟩] ?_|refine zqR 16 [⟨0,[],[80,81,82,83],[],[],0⟩,⟨1,[],[79],[2],[],0⟩,⟨2,[1],[79],[2],[],0⟩,⟨3,[1,2],[79],[2],[],0⟩,⟨4,[1,2,3],[79],[2],[],0⟩,⟨5,[0],[80,81,82,83],[],[2],0⟩,⟨6,[0,1,2,3,4,5],[],[],[],0⟩] ?_|refine zqD ?_|fail)
 all_goals((refine Ends.mk2 zqI [] ?_;simp-dsimp(disch:=try exact vD) only[push_cast,simprocAttr,Tryz.f80];try exact zqF))
def ndI(n:Nat)(F2:List Fo)(N2:Nat)(q:Int)(i a b:Nat)(k:{k:Nat // k≤N2∧∀j,j<k→¬F2.getD j default=⟨i,a,b⟩}):St:=
 ⟨84,0,[(4,.pt 0 0),(8,.pt 1 0),(12,.pt 2 0),(13,.val (.int .i64 k.val))],[(0,some (.cells [.val (.int .i64 n),.isl (N2==0) (cR F2) N2,.val (.int .i64 q)] 29)),(1,some (.cells [.val (.int .i64 0),.isl true [] 0,.val (.int .i64 0)] 29)),(2,some (.cells [.val (.int .i64 i),.val (.int .i64 a),.val (.int .i64 b)] 114))]⟩
theorem nd_s{i a b:Nat}(h:∀j,j<k→¬F.getD j default=⟨i,a,b⟩)(h2:¬F.getD k default=⟨i,a,b⟩):∀j,j<k+1→¬F.getD j default=⟨i,a,b⟩:=fun j hj=>by
 by_cases e:j=k
 ·rw[e];exact h2
 ·exact h j (by omega)
theorem ahV{f:Fo}(hk:k<F.length)(h:F.getD k default=f):F.idxOf f≤k:=by
 have hm:f∈F:=by rw[←h];exact NY hk
 have e:F[k]=f:=by rw[←h];simp[List.getD_eq_getElem?_getD,hk]
 by_cases hc:k<F.idxOf f
 ·have:=List.not_of_lt_findIdx (p:=fun x=>x==f) (xs:=F) (i:=k) (by simpa[List.idxOf] using hc)
  simp[e] at this
 ·omega
theorem acp{tb:List Bool} {M:Nat}(hi:i<n)(hn:n≤16)(hab:¬a=b)(hN:F2.length=N2)(hN2:N2<2^40)(h1:ACall Tryz.prog 80 [dN n F N q,.isl false (cB tb) M,.val (.int .i64 ((i:Int)+1)),.val (.int .u16 (U s))] [] 0 (.tup [dN n F1 N1 q,.val (.int .i64 a)]) [])
 (h2:ACall Tryz.prog 80 [dN n F1 N1 q,.isl false (cB tb) M,.val (.int .i64 ((i:Int)+1)),.val (.int .u16 (U (sor s (2^i))))] [] 0 (.tup [dN n F2 N2 q,.val (.int .i64 b)]) []):
 ACall Tryz.prog 80 [dN n F N q,.isl false (cB tb) M,.val (.int .i64 i),.val (.int .u16 (U s))] [] 0 (.tup [dN n (mkF F2 i a b).1 (mkF F2 i a b).1.length q,.val (.int .i64 ((mkF F2 i a b).2:Nat))]) []:=by
 have zx1:¬(i:Int)=n:=by omega
 have h1:=PLift.up h1;have h2:=PLift.up h2
 have zx3:=ae
 unfold dN at*
 refine ak Tryz.func80 Tryz.ntmps80 rfl ?_
 have zx2:= @hab;have zx4:= @ahU;have zx5:= @cz;have zx6:=aC;repeat' (first|(refine ai ?_;refine au [0,1,2] ([0,1,2].length) (ndI n F2 N2 q i a b) (fun k=>N2-k.val) (⟨0,by omega,fun j h=>absurd h (by omega)⟩) rfl (by unfold ndI;exact gY) ?_;(rintro⟨k,hk,hno⟩;rcases Nat.lt_or_eq_of_le hk with hkl|hkl<;>first|(have ek:N2=k:=hkl.symm;subst ek;(simp-dsimp only[ndI];refine zqS ?_))|(rcases Decidable.em (F2.getD k default=⟨i,a,b⟩) with zx3|zx3<;>(simp-dsimp only[ndI];refine zqS ?_))))|(refine ax ?_;refine Nxt.mk [0,1,2] (⟨k+1,by omega,nd_s hno zx3⟩) rfl (by unfold ndI;exact gY) zqO)|refine zqN ?_|refine gG h1.down ?_|refine gG h2.down ?_|refine kE ?_|refine AX ?_|refine AY ?_|refine AZ ?_|refine kF ?_|(refine kG ?_ ?_<;>intro hc<;>try exact zqM)|refine zqR 6 [⟨0,[],[35,36,37,38,39,40,41],[],[],0⟩,⟨1,[],[34,36,37,38,39,40,41],[],[],0⟩,⟨2,[],[34,35,38,39,40,41],[],[],0⟩,⟨3,[2],[34,35,38,39,40,41],[],[],0⟩,⟨4,[],[34,35,36,37,39,40],[],[],0⟩,⟨5,[],[34,35,36,37,38],[],[],0⟩,⟨6,[5],[34,35,36,37,38],[],[],0⟩,⟨7,[4,5,6],[34,35,36,37],[],[],0⟩,⟨8,[0,1,2,3,4,5,6,7],[],[],[],0⟩,⟨9,[0,1,2,3,4,5,6,7,8],[],[],[],0⟩,⟨10,[0,1,2,3,4,5,6,7,8,9],[44],[],[],0⟩,⟨11,[0,1,2,3,4,5,6,7,8,9],[43],[2],[],0⟩,⟨12,[0,1,2,3,4,5,6,7,8,9,10],[44],[],[2],0⟩,⟨13,[0,1,2,3,4,5,6,7,8,9,10,11,12],[],[],[],0⟩] ?_|refine zqR 13 [⟨0,[],[63,66],[],[],0⟩,⟨1,[0],[63,66],[],[],0⟩,⟨2,[],[61,62,66],[],[],0⟩,⟨3,[0,1,2],[66],[],[],0⟩,⟨4,[0,1,2,3],[66],[],[],0⟩,⟨5,[],[61,62,63,64,65],[],[],0⟩,⟨6,[0,1,2,3,4,5],[],[],[],0⟩] ?_|refine zqR 15 [⟨0,[],[72,73,75,76],[],[],1⟩,⟨1,[],[71,75,76],[],[],0⟩,⟨2,[1],[71,75,76],[],[],0⟩,⟨3,[0,1,2],[75,76],[],[1],1⟩,⟨4,[],[71,72,73,74],[1],[],0⟩,⟨5,[4],[71,72,73,74],[1],[],1⟩,⟨6,[0,1,2,3,4,5],[],[],[2],1⟩,⟨7,[0,1,2,3,4,5,6],[],[],[],0⟩,⟨8,[0,1,2,3,4,5,6,7],[],[],[2],0⟩] ?_|refine zqR 16 [⟨0,[],[80,81,82,83],[],[],0⟩,⟨1,[],[79],[4],[],0⟩,⟨2,[1],[79],[4],[],0⟩,⟨3,[1,2],[79],[4],[],0⟩,⟨4,[1,2,3],[79],[4],[],0⟩,⟨5,[0],[80,81,82,83],[],[4],0⟩,⟨6,[0,1,2,3,4,5],[],[],[],0⟩] ?_|refine zqD ?_|fail)
 all_goals first
  |(have hkl2:k<F2.length:=(by omega)
    have hm:(⟨i,a,b⟩:Fo)∈F2:=(by rw[←zx3];exact NY hkl2)
    have hix:F2.idxOf ⟨i,a,b⟩=k:=(by
     have hle:=List.idxOf_lt_length_iff.2 hm
     have he:F2.getD (F2.idxOf ⟨i,a,b⟩) default=⟨i,a,b⟩:=(by rw[List.getD_eq_getElem?_getD,List.getElem?_eq_getElem hle,Option.getD_some,List.getElem_idxOf])
     rcases Nat.lt_trichotomy (F2.idxOf ⟨i,a,b⟩) k with h|h|h
     ·exact absurd he (hno _ h)
     ·exact h
     ·exact absurd zx3 (fun _=>by have:=ahV hkl2 zx3;omega))
    rw[Ez hab hm,hix,hN]
    (refine Ends.mk2 zqI [] ?_;simp-dsimp(disch:=try exact vD) only[push_cast,simprocAttr,Tryz.f80,Int.natCast_add];try exact zqF);done)
  |(have hm:¬(⟨i,a,b⟩:Fo)∈F2:=(fun hm=>by
     obtain⟨j,hj,e⟩:=List.getElem_of_mem hm
     refine hno j (by omega) ?_
     rw[List.getD_eq_getElem?_getD,List.getElem?_eq_getElem hj,Option.getD_some,e])
    have hbe:(N2+1==0)=false:=(by simp)
    have hsn:=P9 (F:=F2) (v:=i) (lo:=a) (hi:=b)
    have hgl:(F2++[(⟨i,a,b⟩:Fo)]).length=N2+1:=(by simp[hN])
    rw[tu hab hm]
    dsimp only
    rw[hgl,hN,hbe]
    generalize F2++[(⟨i,a,b⟩:Fo)]=G at hsn hgl
    have htk:(cR G).take ((N2+1)*3)=cR G:=(by rw[←hgl,←lM];exact List.take_length)
    ((refine Ends.frz 6 ?_;simp-dsimp(disch:=try exact vD) only[push_cast,simprocAttr,Tryz.f80,Int.natCast_add,Wx,hsn,htk];(repeat refine aI ?_);intro K hK;refine hK _ _ ?_;clear hK K);refine Ends.mk2 zqI [] ?_;simp-dsimp(disch:=try exact vD) only[push_cast,simprocAttr,Tryz.f80,Int.natCast_add,Wx,hsn,htk];try exact zqF);done)
  |skip
theorem acr{tb:List Bool} {M:Nat}(hn:n≤16)(hM:tb.length=M)(hM2:M=2^n):∀(m i s:Nat) (F:List Fo),i+m=n→s<2^i→F.length+2^m<2^20→
 ACall Tryz.prog 80 [dN n F F.length q,.isl false (cB tb) M,.val (.int .i64 i),.val (.int .u16 (U s))] [] 0 (.tup [dN n (gen (fun t=>tb.getD t false) m i s F).1 (gen (fun t=>tb.getD t false) m i s F).1.length q,.val (.int .i64 ((gen (fun t=>tb.getD t false) m i s F).2:Nat))]) []:=by
 have hp:2^n≤2^16:=Nat.pow_le_pow_right (by omega) hn
 intro m
 induction m with
 |zero=>
  intro i s F hi hs hl
  have hin:i=n:=by omega
  subst hin
  have:=Sz (F:=F) (N:=F.length) (q:=q) (s:=s) (n:=i) hM (by omega) (by omega) hn
  rw[Ey]
  dsimp only
  have e:((if tb.getD s false=true then 1 else 0:Nat):Int)=if tb.getD s false=true then 1 else 0:=by split<;>rfl
  rw[e];exact this
 |succ m ih=>
  intro i s F hi hs hl
  have hpm:=Nat.two_pow_pos m
  have hp2:2^(m+1)=2^m+2^m:=by rw[Nat.pow_succ];omega
  have l1:=Dq (tab:=fun t=>tb.getD t false) m (i+1) s F
  have h1:=ih (i+1) s F (by omega) (u7 hs) (by omega)
  generalize hA:gen (fun t=>tb.getD t false) m (i+1) s F=R1 at h1 l1
  obtain⟨F1,a⟩:=R1
  dsimp only at h1 l1
  have l2:=Dq (tab:=fun t=>tb.getD t false) m (i+1) (s|||2^i) F1
  have h2:=ih (i+1) (s|||2^i) F1 (by omega) (kI hs) (by omega)
  generalize hB:gen (fun t=>tb.getD t false) m (i+1) (s|||2^i) F1=R2 at h2 l2
  obtain⟨F2,b⟩:=R2
  dsimp only at h2 l2
  rw[wF hA hB]
  by_cases hab:a=b
  ·subst hab
   rw[qX]
   exact aco (by omega) hn h1 h2
  ·exact acp (by omega) hn hab rfl (by omega) h1 h2
theorem lV{tb:List Bool} {M:Nat}(hn:n≤16)(hM:tb.length=M)(hM2:M=2^n):ACall Tryz.prog 42 [.val (.int .i64 n),.isl false (cB tb) M] [] 0 (dgV ((kM n tb).1.length==0) n (kM n tb).1 (kM n tb).2) []:=by
 have hp:2^n≤2^16:=Nat.pow_le_pow_right (by omega) hn
 have h:=acr (q:=0) hn hM hM2 n 0 0 [] (by omega) (by decide) (by simp only[List.length_nil,Nat.zero_add];omega)
 show ACall Tryz.prog 42 _ [] 0 (dgV ((gen (fun t=>tb.getD t false) n 0 0 []).1.length==0) n (gen (fun t=>tb.getD t false) n 0 0 []).1 (gen (fun t=>tb.getD t false) n 0 0 []).2) []
 generalize gen (fun t=>tb.getD t false) n 0 0 []=R at h
 obtain⟨F,r⟩:=R
 dsimp only at h⊢
 unfold dN at h
 rw[List.length_nil,nX,show((0==0:Bool))=true from rfl,ahP] at h
 unfold dgV
 have h:=PLift.up h
 refine ak Tryz.func42 Tryz.ntmps42 rfl ?_
 repeat' (first|refine zqN ?_|refine az h.down ?_|refine aK ?_|refine aL ?_|(refine aM ?_ ?_<;>intro hc<;>try exact zqM))
 all_goals first
  |((refine Ends.mk2 zqI [] ?_;simp-dsimp(disch:=try exact vD) only[push_cast,simprocAttr,Tryz.f42];try exact zqF);done)
  |skip
end
