/- Di7 Di15. No condition. -/
import Derived.Test.YtcbginhpibfgaaaGreatDoorDiG1
set_option linter.all false
set_option maxHeartbeats 4000000
set_option maxRecDepth 20000
namespace Go.Proofs.YtcbginhpibfgaaaGreatDoor
open Go Go.Sy Go.Dg
attribute [local irreducible] AO AL AC OpT ACall Ends DGo bK Thn Blk Nxt
variable {N N' N1 N2 T M:Nat} {F F1 F2 G:List Fo} {L L':List Fk} {v lo hi n k k1 k2 k' i m s t a b r nx n1 n2:Nat} {p q p' q':Int} {z z':Bool} {x y:Fk} {b1 b2:Bool}
theorem WO(k:Nat):((k:Int)+1+1).toNat=k+2:=by omega
def uI(M nx:Nat):List Bool:=(List.range M).map fun j=>decide (2≤j)&&decide (j<nx)
theorem iR:(uI M nx).length=M:=by simp[uI]
theorem kZ(h:r<M):(uI M nx).getD r default=(decide (2≤r)&&decide (r<nx)):=by
 unfold uI
 rw[List.getD_eq_getElem?_getD,List.getElem?_map,List.getElem?_range h];rfl
theorem ahW:uI M 2=List.replicate M false:=by
 unfold uI
 rw[List.eq_replicate_iff]
 refine⟨by simp,fun b hb=>?_⟩
 obtain⟨j,_,rfl⟩:=List.mem_map.1 hb
 by_cases h:2≤j
 ·rw[decide_eq_false (show¬j<2 by omega),Bool.and_false]
 ·rw[decide_eq_false h,Bool.false_and]
theorem WP(h2:2≤r)(hr:r<M):(cB (uI M r)).set r (.val (.bool true))=cB (uI M (r+1)):=by
 unfold cB uI
 rw[List.map_map,List.map_map]
 apply List.ext_getElem (by simp)
 intro j h1 h3
 rw[List.getElem_set]
 simp only[List.getElem_map,List.getElem_range,Function.comp]
 by_cases e:r=j
 ·subst e;simp[h2]
 ·rw[if_neg e]
  have:decide (j<r)=decide (j<r+1):=decide_eq_decide.2 ⟨fun h=>by omega,fun h=>by omega⟩
  rw[this]
abbrev vA(z:Bool)(n:Nat)(F:List Fo)(N:Nat)(q:Int):List AV:=[.pt 0 0,.ipt [.val (.int .i64 n),.isl z (cR F) N,.val (.int .i64 q)] 0,.pt 1 0,.pt 2 0]
abbrev vO(z:Bool)(n:Nat)(F:List Fo)(N:Nat)(q:Int)(nx:Nat):List aD:=[.cells [.sl 3 0 (N+2) 1] 75,.cells [.fn 140 [.pt 0 0,.ipt [.val (.int .i64 n),.isl z (cR F) N,.val (.int .i64 q)] 0,.pt 1 0,.pt 2 0]] 163,.cells [.val (.int .i64 nx)] 3,.cells (cB (uI (N+2) nx)) 4]
theorem Lu(hr:r<2):ACall Tryz.prog 140 (.val (.int .i64 r)::vA z n F N q) (vO z n F N q nx) 4 (.val (.bool true)) (vO z n F N q nx):=by
 unfold vA vO
 refine ak Tryz.func140 Tryz.ntmps140 rfl ?_
 repeat' (first|refine zqN ?_|refine aK ?_|refine aL ?_|(refine aM ?_ ?_<;>intro hc<;>try exact zqM))
 all_goals((refine Ends.mk2 zqI [0,1,2,3] ?_;simp-dsimp(disch:=try exact vD) only[push_cast,simprocAttr,Tryz.f140];try exact zqF))
theorem SA(h2:2≤r)(hr:r<nx)(hN:r<N+2)(hN2:N<2^40):ACall Tryz.prog 140 (.val (.int .i64 r)::vA z n F N q) (vO z n F N q nx) 4 (.val (.bool true)) (vO z n F N q nx):=by
 have hlen:=iR (M:=N+2) (nx:=nx)
 have zx1:=kZ (nx:=nx) hN
 rw[decide_eq_true h2,decide_eq_true hr] at zx1
 unfold vA vO
 refine ak Tryz.func140 Tryz.ntmps140 rfl ?_
 have zx2:= @iR;have zx3:= @cB_len;repeat' (first|refine zqN ?_|refine bM ?_|refine bO ?_|(refine bP ?_ ?_<;>intro hc<;>try exact zqM))
 all_goals((refine Ends.mk2 zqI [0,1,2,3] ?_;simp-dsimp(disch:=try exact vD) only[push_cast,simprocAttr,Tryz.f140];try exact zqF))
theorem acs(hN:F.length=N)(hN2:N<2^40)(hk:k<N)(hr:nx≤k+2)
 (h1:ACall Tryz.prog 140 (.val (.int .i64 (F.getD k default).lo)::vA z n F N q) (vO z n F N q nx) 4 (.val (.bool false)) (vO z n F N q n1)):
 ACall Tryz.prog 140 (.val (.int .i64 ((k:Int)+1+1))::vA z n F N q) (vO z n F N q nx) 4 (.val (.bool false)) (vO z n F N q n1):=by
 have hlen:=iR (M:=N+2) (nx:=nx)
 have zx2:=kZ (nx:=nx) (M:=N+2) (r:=k+2) (by omega)
 rw[decide_eq_false (show¬k+2<nx by omega),Bool.and_false] at zx2
 have zx3:=kZ (nx:=nx) (M:=N+2) (r:=k+1+1) (by omega)
 rw[decide_eq_false (show¬k+1+1<nx by omega),Bool.and_false] at zx3
 have h1:=PLift.up h1
 have zx1:¬(k:Int)+1+1<2:=by omega
 unfold vA vO at*
 refine ak Tryz.func140 Tryz.ntmps140 rfl ?_
 have zx4:= @iR;have zx5:= @cB_len;have zx6:= @uG;have zx7:= @WO;have zx8:= @cz;have zx9:=aC;repeat' (first|refine zqN ?_|((first|refine ay rfl (fun K hK=>?_)|refine aj (fun K hK=>?_));(first|refine bq (f:=140) (dst:=some 25) [0,1,2,3] 4 false ?_);refine JC ?_;(first|refine⟨_,_,h1.down,?_⟩);refine qV ?_;apply hK;clear hK K)|refine uz ?_|refine uA ?_|(refine uB ?_ ?_<;>intro hc<;>try exact zqM))
 all_goals first
  |((refine Ends.mk2 zqI [0,1,2,3] ?_;simp-dsimp(disch:=try exact vD) only[push_cast,simprocAttr,Tryz.f140];try exact zqF);done)
  |skip
theorem acu(hN:F.length=N)(hN2:N<2^40)(hk:k<N)(hr:nx≤k+2)
 (h1:ACall Tryz.prog 140 (.val (.int .i64 (F.getD k default).lo)::vA z n F N q) (vO z n F N q nx) 4 (.val (.bool true)) (vO z n F N q n1))
 (h2:ACall Tryz.prog 140 (.val (.int .i64 (F.getD k default).hi)::vA z n F N q) (vO z n F N q n1) 4 (.val (.bool false)) (vO z n F N q n2)):
 ACall Tryz.prog 140 (.val (.int .i64 ((k:Int)+1+1))::vA z n F N q) (vO z n F N q nx) 4 (.val (.bool false)) (vO z n F N q n2):=by
 have hlen:=iR (M:=N+2) (nx:=nx)
 have zx2:=kZ (nx:=nx) (M:=N+2) (r:=k+2) (by omega)
 rw[decide_eq_false (show¬k+2<nx by omega),Bool.and_false] at zx2
 have zx3:=kZ (nx:=nx) (M:=N+2) (r:=k+1+1) (by omega)
 rw[decide_eq_false (show¬k+1+1<nx by omega),Bool.and_false] at zx3
 have h1:=PLift.up h1
 have h2:=PLift.up h2
 have zx1:¬(k:Int)+1+1<2:=by omega
 unfold vA vO at*
 refine ak Tryz.func140 Tryz.ntmps140 rfl ?_
 have zx4:= @iR;have zx5:= @cB_len;have zx6:= @uG;have zx7:= @WO;have zx8:= @cz;have zx9:=aC;repeat' (first|refine zqN ?_|((first|refine ay rfl (fun K hK=>?_)|refine aj (fun K hK=>?_));(first|refine bq (f:=140) (dst:=some 25) [0,1,2,3] 4 false ?_|refine bq (f:=140) (dst:=some 31) [0,1,2,3] 4 false ?_);refine JC ?_;(first|refine⟨_,_,h1.down,?_⟩|refine⟨_,_,h2.down,?_⟩);refine qV ?_;apply hK;clear hK K)|refine uz ?_|refine uA ?_|(refine uB ?_ ?_<;>intro hc<;>try exact zqM))
 all_goals first
  |((refine Ends.mk2 zqI [0,1,2,3] ?_;simp-dsimp(disch:=try exact vD) only[push_cast,simprocAttr,Tryz.f140];try exact zqF);done)
  |skip
theorem acv(hN:F.length=N)(hN2:N<2^40)(hk:k<N)(hr:nx≤k+2)(hne:¬k+2=n2)
 (h1:ACall Tryz.prog 140 (.val (.int .i64 (F.getD k default).lo)::vA z n F N q) (vO z n F N q nx) 4 (.val (.bool true)) (vO z n F N q n1))
 (h2:ACall Tryz.prog 140 (.val (.int .i64 (F.getD k default).hi)::vA z n F N q) (vO z n F N q n1) 4 (.val (.bool true)) (vO z n F N q n2)):
 ACall Tryz.prog 140 (.val (.int .i64 ((k:Int)+1+1))::vA z n F N q) (vO z n F N q nx) 4 (.val (.bool false)) (vO z n F N q n2):=by
 have hlen:=iR (M:=N+2) (nx:=nx)
 have zx2:=kZ (nx:=nx) (M:=N+2) (r:=k+2) (by omega)
 rw[decide_eq_false (show¬k+2<nx by omega),Bool.and_false] at zx2
 have zx3:=kZ (nx:=nx) (M:=N+2) (r:=k+1+1) (by omega)
 rw[decide_eq_false (show¬k+1+1<nx by omega),Bool.and_false] at zx3
 have zx9:¬(k:Int)+1+1=n2:=by omega
 have h1:=PLift.up h1
 have h2:=PLift.up h2
 have zx1:¬(k:Int)+1+1<2:=by omega
 unfold vA vO at*
 refine ak Tryz.func140 Tryz.ntmps140 rfl ?_
 have zx4:= @iR;have zx5:= @cB_len;have zx6:= @uG;have zx7:= @WO;have zx8:= @cz;repeat' (first|refine zqN ?_|((first|refine ay rfl (fun K hK=>?_)|refine aj (fun K hK=>?_));(first|refine bq (f:=140) (dst:=some 25) [0,1,2,3] 4 false ?_|refine bq (f:=140) (dst:=some 31) [0,1,2,3] 4 false ?_);refine JC ?_;(first|refine⟨_,_,h1.down,?_⟩|refine⟨_,_,h2.down,?_⟩);refine qV ?_;apply hK;clear hK K)|refine uz ?_|refine uA ?_|(refine uB ?_ ?_<;>intro hc<;>try exact zqM))
 all_goals first
  |((refine Ends.mk2 zqI [0,1,2,3] ?_;simp-dsimp(disch:=try exact vD) only[push_cast,simprocAttr,Tryz.f140,zx9];try exact zqF);done)
  |skip
theorem acw(hN:F.length=N)(hN2:N<2^40)(hk:k<N)(hr:nx≤k+2)(he:k+2=n2)
 (h1:ACall Tryz.prog 140 (.val (.int .i64 (F.getD k default).lo)::vA z n F N q) (vO z n F N q nx) 4 (.val (.bool true)) (vO z n F N q n1))
 (h2:ACall Tryz.prog 140 (.val (.int .i64 (F.getD k default).hi)::vA z n F N q) (vO z n F N q n1) 4 (.val (.bool true)) (vO z n F N q n2)):
 ACall Tryz.prog 140 (.val (.int .i64 ((k:Int)+1+1))::vA z n F N q) (vO z n F N q nx) 4 (.val (.bool true)) (vO z n F N q (n2+1)):=by
 have hlen:=iR (M:=N+2) (nx:=nx)
 have zx2:=kZ (nx:=nx) (M:=N+2) (r:=k+2) (by omega)
 rw[decide_eq_false (show¬k+2<nx by omega),Bool.and_false] at zx2
 have zx3:=kZ (nx:=nx) (M:=N+2) (r:=k+1+1) (by omega)
 rw[decide_eq_false (show¬k+1+1<nx by omega),Bool.and_false] at zx3
 subst he
 have zx9:((k+2:Nat):Int)=(k:Int)+1+1:=by omega
 have zx10:=WP (M:=N+2) (r:=k+2) (by omega) (by omega)
 have h1:=PLift.up h1
 have h2:=PLift.up h2
 have zx1:¬(k:Int)+1+1<2:=by omega
 unfold vA vO at*
 refine ak Tryz.func140 Tryz.ntmps140 rfl ?_
 have zx4:= @iR;have zx5:= @cB_len;have zx6:= @uG;have zx7:= @WO;have zx8:= @cz;have zx11:=aC;have zx12:=aC;repeat' (first|refine zqN ?_|((first|refine ay rfl (fun K hK=>?_)|refine aj (fun K hK=>?_));(first|refine bq (f:=140) (dst:=some 25) [0,1,2,3] 4 false ?_|refine bq (f:=140) (dst:=some 31) [0,1,2,3] 4 false ?_);refine akw ?_;(first|refine⟨_,_,h1.down,?_⟩|refine⟨_,_,h2.down,?_⟩);refine Ih ?_;apply hK;clear hK K)|refine A7 ?_|refine A8 ?_|(refine A9 ?_ ?_<;>intro hc<;>try exact zqM))
 all_goals first
  |((refine Ends.mk2 zqI [0,1,2,3] ?_;simp-dsimp(disch:=try exact vD) only[push_cast,simprocAttr,Tryz.f140,zx9,zx10];try exact zqF);done)
  |skip
theorem acx(hb:Bnd F):∀(f r nx:Nat),r<F.length+2→nx≤F.length+2→nx≤(fe F f r nx).2∧(fe F f r nx).2≤F.length+2:=by
 intro f
 induction f with
 |zero=>intro r nx hr hn;exact⟨Nat.le_refl _,hn⟩
 |succ f ih=>
  intro r nx hr hn
  unfold fe
  split
  ·exact⟨Nat.le_refl _,hn⟩
  ·rename_i hc
   have hk:=hb (r-2) (by omega)
   have h1:=ih (F.getD (r-2) default).lo nx (by omega) hn
   split
   ·exact h1
   ·have h2:=ih (F.getD (r-2) default).hi _ (by omega) h1.2
    split
    ·exact⟨by show nx≤_;omega,h2.2⟩
    ·split
     ·rename_i he
      refine⟨by show nx≤_+1;omega,?_⟩
      show _+1≤F.length+2
      rw[←he];omega
     ·exact⟨by show nx≤_;omega,h2.2⟩
theorem WQ(hb:Bnd F)(hN:F.length=N)(hN2:N<2^40):∀(f r nx:Nat),r≤f→r<N+2→2≤nx→nx≤N+2→ACall Tryz.prog 140 (.val (.int .i64 r)::vA z n F N q) (vO z n F N q nx) 4 (.val (.bool (fe F f r nx).1)) (vO z n F N q (fe F f r nx).2):=by
 intro f
 induction f with
 |zero=>intro r nx hf hr h2 hx;exact Lu (by omega)
 |succ f ih=>
  intro r nx hf hr h2 hx
  by_cases c1:r<2
  ·rw[show fe F (f+1) r nx=(true,nx) by simp[fe,c1]];exact Lu c1
  ·by_cases c2:r<nx
   ·rw[show fe F (f+1) r nx=(true,nx) by simp[fe,c2]];exact SA (by omega) c2 hr hN2
   ·obtain⟨k,rfl⟩:∃k,r=k+2:=⟨r-2,by omega⟩
    have hk:=hb k (by omega)
    have i1:=ih (F.getD k default).lo nx (by omega) (by omega) h2 hx
    have d1:=acx hb f (F.getD k default).lo nx (by omega) (by omega)
    have hvs:fe F (f+1) (k+2) nx=if(fe F f (F.getD k default).lo nx).1=false then(false,(fe F f (F.getD k default).lo nx).2) else
     if(fe F f (F.getD k default).hi (fe F f (F.getD k default).lo nx).2).1=false then(false,(fe F f (F.getD k default).hi (fe F f (F.getD k default).lo nx).2).2) else
     if k+2=(fe F f (F.getD k default).hi (fe F f (F.getD k default).lo nx).2).2 then(true,(fe F f (F.getD k default).hi (fe F f (F.getD k default).lo nx).2).2+1) else(false,(fe F f (F.getD k default).hi (fe F f (F.getD k default).lo nx).2).2):=by
     rw[fe,if_neg (by omega),Nat.add_sub_cancel]
    rw[hvs]
    generalize fe F f (F.getD k default).lo nx=R1 at i1 d1
    obtain⟨b1,n1⟩:=R1
    dsimp only at i1 d1⊢
    have i2:=ih (F.getD k default).hi n1 (by omega) (by omega) (by omega) (by omega)
    generalize fe F f (F.getD k default).hi n1=R2 at i2
    obtain⟨b2,n2⟩:=R2
    dsimp only at i2⊢
    have e:((k+2:Nat):Int)=(k:Int)+1+1:=by omega
    rw[e]
    cases b1 with
    |false=>rw[if_pos rfl];exact acs hN hN2 (by omega) (by omega) i1
    |true=>
     rw[if_neg (by simp)]
     cases b2 with
     |false=>rw[if_pos rfl];exact acu hN hN2 (by omega) (by omega) i1 i2
     |true=>
      rw[if_neg (by simp)]
      by_cases he:k+2=n2
      ·rw[if_pos he];exact acw hN hN2 (by omega) (by omega) he i1 i2
      ·rw[if_neg he];exact acv hN hN2 (by omega) (by omega) he i1 i2
theorem Be(hb:Bnd F)(hN:F.length=N)(hN2:N<2^30)(hr:r<N+2):ACall Tryz.prog 108 [.agg [.val (.int .i64 n),.isl z (cR F) N,.val (.int .i64 r)]] [] 0 (.val (.bool ((fe F r r 2).1&&decide ((fe F r r 2).2=N+2)))) []:=by
 have h:=WQ (z:=z) (n:=n) (q:=r) hb hN (by omega) r r 2 (Nat.le_refl _) hr (by omega) (by omega)
 generalize fe F r r 2=R at h
 obtain⟨b1,nx⟩:=R
 dsimp only at h⊢
 unfold vA vO at h
 rw[ahW] at h
 have h:=PLift.up h
 have zx2:=ae;have hc:=ae
 cases b1<;>rcases Decidable.em (nx=N+2) with zx2|zx2
 all_goals(have zx1:((nx:Int)=(N:Int)+2)=(nx=N+2):=propext ⟨fun h=>by omega,fun h=>by omega⟩)
 all_goals(refine ak Tryz.func108 Tryz.ntmps108 rfl ?_)
 all_goals(have zx3:=aC;repeat' (first|((first|refine bI (r:=5) 0 ?_|refine bH (r:=5) 0 ?_);refine gQ ?_;intro K hK;refine hK _ _ ?_;clear hK K)|refine zqN ?_|((first|refine ay rfl (fun K hK=>?_)|refine aj (fun K hK=>?_));(first|refine bq (f:=140) (dst:=some 15) [3,4,1,2] 4 false ?_);refine l8 ?_;(first|refine⟨_,_,h.down,?_⟩);refine gQ ?_;apply hK;clear hK K)|refine bM ?_|refine bO ?_|(refine bP ?_ ?_<;>intro hc<;>try exact zqM)))
 all_goals first
  |((refine Ends.mk2 zqI [] ?_;simp-dsimp(disch:=try exact vD) only[push_cast,simprocAttr,Tryz.f108,zx1,zx2];try exact zqF);done)
  |((refine Ends.mk2 zqI [] ?_;simp-dsimp(disch:=try exact vD) only[push_cast,simprocAttr,Tryz.f108];try exact zqF);done)
  |(exfalso;omega)
  |skip
structure DOk(n:Nat)(F:List Fo)(r:Nat):Prop where
 good:Go.Dg.Good n F
 lt:r<F.length+2
 vis:lS F r r 2=some (F.length+2)
 n12:n≤12
 few:F.length≤765
theorem DOk.root(h:DOk n F r):F.length=0∨r=F.length+1:=Ws h.vis (Nat.le_refl _)
theorem DOk.bnd(h:DOk n F r):Bnd F:=h.good.bnd
theorem DOk.num(h:DOk n F r):((fe F r r 2).1&&decide ((fe F r r 2).2=F.length+2))=true:=by
 have hv:=h.vis
 rw[Wt] at hv
 split at hv
 ·rename_i hc
  have:=Option.some.inj hv
  rw[hc,decide_eq_true this];rfl
 ·cases hv
theorem tF(h:DOk n F r)(hN:F.length=N):ACall Tryz.prog 72 [.agg [.val (.int .i64 n),.isl z (cR F) N,.val (.int .i64 r)]] [] 0 (.val (.int .i64 0)) []:=by
 have h12:=h.n12;have hfew:=h.few;have hlt:=h.lt
 have hn40:N<2^40:=by omega
 have hn30:N<2^30:=by omega
 have hrN:r<N+2:=by omega
 have ho:=PLift.up (Sw (z:=z) (q:=r) h.good hN hn40)
 have hn:=Be (z:=z) (n:=n) h.bnd hN hn30 hrN
 rw[←hN,h.num] at hn
 rw[hN] at hn
 have hn:=PLift.up hn
 have hroot:=h.root
 rw[hN] at hroot hfew hlt
 clear h
 have hx:=ae
 rcases hroot with hx|hx
 ·subst hx
  all_goals(refine ak Tryz.func72 Tryz.ntmps72 rfl ?_)
  all_goals repeat' (first|apply dG|apply aF|((first|refine ay rfl (fun K hK=>?_)|refine aj (fun K hK=>?_));(first|refine ah (f:=107) [] 0 false ?_|refine ah (f:=108) [] 0 false ?_);simp-dsimp(disch:=try exact vD) only[push_cast,simprocAttr];(repeat refine aI ?_);intro G hG;refine hG _ _ ?_;clear hG G;(first|refine⟨_,_,ho.down,?_⟩|refine⟨_,_,hn.down,?_⟩);simp-dsimp(disch:=try exact vD) only[push_cast,simprocAttr];(repeat refine aI ?_);apply hK;clear hK K)|((first|refine ay rfl (fun K hK=>?_)|refine aj (fun K hK=>?_));(first|apply cO|apply aZ|apply df|apply aT|apply aW|apply fK|apply bZ|apply fA|apply gJ|apply gK|apply gm|apply dP|apply dm|apply bU|apply dY);simp-dsimp(disch:=try exact vD) only[push_cast,simprocAttr];(repeat refine aI ?_);apply hK;clear hK K)|((first|refine aQ rfl rfl (fun K1 K2 h1 h2=>?_) rfl|refine aJ (fun K1 K2 h1 h2=>?_));simp-dsimp(disch:=try exact vD) only[push_cast,simprocAttr];(first|(refine⟨fun hc=>?_,fun hc=>?_⟩<;>first|(exfalso;omega)|(exfalso;contradiction)|refine h1 ?_|refine h2 ?_)|refine h1 ?_|refine h2 ?_);all_goals clear h1 h2 K1 K2)|apply dH|apply aR|apply bX|apply bz|apply aS|apply bY|apply bA|(refine aY rfl ?_)|apply bB|apply bW|apply bV|apply dF)
  all_goals((refine Ends.mk2 (by first|exact .inr rfl|exact .inl rfl) [] ?_;simp-dsimp(disch:=try exact vD) only[push_cast,simprocAttr,Tryz.f72];try exact zqF))
 ·have hx2:((r:Int)=1+(N:Int)):=by omega
  have ho:=ho.down;have hn:=hn.down
  rw[hx2] at ho hn⊢
  have ho:=PLift.up ho;have hn:=PLift.up hn
  all_goals(refine ak Tryz.func72 Tryz.ntmps72 rfl ?_)
  all_goals repeat' (first|apply dG|apply aF|((first|refine ay rfl (fun K hK=>?_)|refine aj (fun K hK=>?_));(first|refine ah (f:=107) [] 0 false ?_|refine ah (f:=108) [] 0 false ?_);simp-dsimp(disch:=try exact vD) only[push_cast,simprocAttr,hx2];(repeat refine aI ?_);intro G hG;refine hG _ _ ?_;clear hG G;(first|refine⟨_,_,ho.down,?_⟩|refine⟨_,_,hn.down,?_⟩);simp-dsimp(disch:=try exact vD) only[push_cast,simprocAttr,hx2];(repeat refine aI ?_);apply hK;clear hK K)|((first|refine ay rfl (fun K hK=>?_)|refine aj (fun K hK=>?_));(first|apply cO|apply aZ|apply df|apply aT|apply aW|apply fK|apply bZ|apply fA|apply gJ|apply gK|apply gm|apply dP|apply dm|apply bU|apply dY);simp-dsimp(disch:=try exact vD) only[push_cast,simprocAttr,hx2];(repeat refine aI ?_);apply hK;clear hK K)|((first|refine aQ rfl rfl (fun K1 K2 h1 h2=>?_) rfl|refine aJ (fun K1 K2 h1 h2=>?_));simp-dsimp(disch:=try exact vD) only[push_cast,simprocAttr,hx2];(first|(refine⟨fun hc=>?_,fun hc=>?_⟩<;>first|(exfalso;omega)|(exfalso;contradiction)|refine h1 ?_|refine h2 ?_)|refine h1 ?_|refine h2 ?_);all_goals clear h1 h2 K1 K2)|apply dH|apply aR|apply bX|apply bz|apply aS|apply bY|apply bA|(refine aY rfl ?_)|apply bB|apply bW|apply bV|apply dF)
  all_goals((refine Ends.mk2 (by first|exact .inr rfl|exact .inl rfl) [] ?_;simp-dsimp(disch:=try exact vD) only[push_cast,simprocAttr,Tryz.f72];try exact zqF))
theorem nD{tab:Nat→Bool}(hn:n≤9):DOk n (fC n tab).1 (fC n tab).2:=by
 have h:=JF (n:=n) (tab:=tab)
 have hl:=Wv (n:=n) (tab:=tab)
 have hp:2^n≤2^9:=Nat.pow_le_pow_right (by omega) hn
 exact⟨h.good,h.lt,h.vis,by omega,by omega⟩
theorem DOk.eq{tab:Nat→Bool}(h:DOk n F r)(ht:∀t,t<2^n→aG F t r=tab t):fC n tab=(F,r):=ab7 h.good h.lt h.vis ht
end Go.Proofs.YtcbginhpibfgaaaGreatDoor
namespace Go.Proofs.YtcbginhpibfgaaaGreatDoor
open Go Go.Sy Go.Dg
attribute [local irreducible] AO AL AC OpT ACall Ends DGo bK Thn Blk Nxt
def NI(l:List Nat):List Int:=l.map fun(x:Nat)=>(x:Int)
def iU(m:Nat)(f:Nat→Nat):List Nat:=(List.range m).map f
variable {W a l:List Nat} {n N M L k i m r j w x c d:Nat} {f g:Nat→Nat}
theorem dS:(NI l).length=l.length:=by simp[NI]
theorem dx:(iU m f).length=m:=by simp[iU]
theorem Bi(h:j<l.length):(NI l).getD j default=((l.getD j 0:Nat):Int):=by
 simp[NI,List.getD_eq_getElem?_getD,List.getElem?_eq_getElem h]
theorem acF(h:j<m):(iU m f).getD j 0=f j:=by
 simp[iU,List.getD_eq_getElem?_getD,List.getElem?_range h]
theorem JH(h:j<m):(NI (iU m f)).getD j default=((f j:Nat):Int):=by rw[Bi (by rw[dx];exact h),acF h]
theorem Dv{v:Int}(hj:j<m)(hg:v=(g j:Nat))(h:∀k,k<m→k≠j→g k=f k):(cI .i64 (NI (iU m f))).set j (.val (.int .i64 v))=cI .i64 (NI (iU m g)):=by
 subst hg
 unfold cI NI iU
 rw[List.map_map,List.map_map,List.map_map,List.map_map]
 apply List.ext_getElem (by simp)
 intro q h1 h2
 rw[List.getElem_set]
 simp only[List.getElem_map,List.getElem_range,Function.comp]
 by_cases e:j=q
 ·rw[if_pos e,e]
 ·rw[if_neg e,h q (by simpa using h2) (fun e'=>e e'.symm)]
theorem LC(h:∀k,k<m→f k=0):List.replicate m (0:Int)=NI (iU m f):=by
 symm
 unfold NI iU
 rw[List.map_map,List.eq_replicate_iff]
 refine⟨by simp,fun b hb=>?_⟩
 obtain⟨q,hq,rfl⟩:=List.mem_map.1 hb
 simp[Function.comp,h q (List.mem_range.1 hq)]
theorem Qf(hl:l.length=m)(h:∀k,k<m→f k=l.getD k 0):iU m f=l:=by
 unfold iU
 apply List.ext_getElem (by simp[hl])
 intro q h1 h2
 rw[List.getElem_map,List.getElem_range,h q (by omega),List.getD_eq_getElem?_getD,List.getElem?_eq_getElem h2];rfl
theorem getD_out(h:l.length≤k):l.getD k 0=0:=by rw[List.getD_eq_getElem?_getD,List.getElem?_eq_none h];rfl
def fw(W:List Nat)(j k:Nat):Nat:=(if k<j then W.getD k 0 else 0)+(if 0<k∧k-1<j then W.getD (k-1) 0 else 0)
def gw(W:List Nat)(j k:Nat):Nat:=(if k<j+1 then W.getD k 0 else 0)+(if 0<k∧k-1<j then W.getD (k-1) 0 else 0)
theorem akP:gw W j j=fw W j j+W.getD j 0:=by
 unfold gw fw
 rw[if_neg (Nat.lt_irrefl j),if_pos (Nat.lt_succ_self j)];omega
theorem ah0{q:Nat}(h:q≠j):gw W j q=fw W j q:=by
 unfold gw fw
 by_cases e:q<j
 ·rw[if_pos e,if_pos (show q<j+1 by omega)]
 ·rw[if_neg e,if_neg (show¬q<j+1 by omega)]
theorem akQ:fw W (j+1) (j+1)=gw W j (j+1)+W.getD j 0:=by
 unfold gw fw
 rw[if_neg (Nat.lt_irrefl (j+1)),if_pos (show 0<j+1∧j+1-1<j+1 by omega),if_neg (show¬(0<j+1∧j+1-1<j) by omega),Nat.add_sub_cancel,Nat.add_zero,Nat.add_comm]
theorem ah1{q:Nat}(h:q≠j+1):fw W (j+1) q=gw W j q:=by
 unfold gw fw
 congr 1
 by_cases e:0<q∧q-1<j
 ·rw[if_pos e,if_pos (show 0<q∧q-1<j+1 by omega)]
 ·rw[if_neg e,if_neg (show¬(0<q∧q-1<j+1) by omega)]
theorem ah2(hW:W.length=M):iU (M+1) (fw W M)=wid W:=by
 refine Qf (by rw[Du,hW]) fun k hk=>?_
 unfold wid
 rw[tH (by simp),tJ]
 unfold fw
 cases k with
 |zero=>
  rw[if_neg (show¬(0<0∧0-1<M) by omega),List.getD_cons_zero]
  by_cases h:0<M
  ·rw[if_pos h]
  ·rw[if_neg h,getD_out (show W.length≤0 by omega)]
 |succ k=>
  rw[if_pos (show 0<k+1∧k+1-1<M by omega),Nat.add_sub_cancel,List.getD_cons_succ]
  by_cases h:k+1<M
  ·rw[if_pos h]
  ·rw[if_neg h,getD_out (show W.length≤k+1 by omega)]
theorem WY:(iT k a).length=a.length+k:=by
 induction k with
 |zero=>rfl
 |succ k ih=>rw[ve,Du,ih];omega
theorem ah3{B:Nat}(h:∀k,W.getD k 0≤B):∀k,(wid W).getD k 0≤2*B:=fun k=>by
 unfold wid
 rw[tH (by simp),tJ]
 cases k with
 |zero=>have:=h 0;rw[List.getD_cons_zero];omega
 |succ k=>have:=h k;have:=h (k+1);rw[List.getD_cons_succ];omega
theorem acG{B:Nat}(h:∀k,a.getD k 0≤B):∀i k,(iT i a).getD k 0≤2^i*B:=fun i=>by
 induction i with
 |zero=>intro k;have:=h k;rw[Nat.pow_zero,Nat.one_mul];exact this
 |succ i ih=>
  intro k
  rw[ve,Nat.pow_succ,Nat.mul_comm (2^i) 2,Nat.mul_assoc]
  exact ah3 ih k
theorem ah4:iT 0 a=a:=rfl
def wdI(a:List Nat)(L k:Nat)(i:{i:Nat // i≤k}):St:=
 ⟨41,0,[(0,.isl false (cI .i64 (NI (iT i.val a))) (L+i.val)),(8,.val (.int .i64 k)),(9,.val (.int .i64 i.val))],[]⟩
def wdJ(W:List Nat)(M k i:Nat)(j:{j:Nat // j≤M}):St:=
 ⟨41,0,[(0,.isl false (cI .i64 (NI W)) M),(5,.sl 0 0 (M+1) 1),(8,.val (.int .i64 k)),(9,.val (.int .i64 i)),(15,.isl false (cI .i64 (NI W)) M),(16,.val (.int .i64 M)),(17,.val (.int .i64 j.val))],[(0,some (.cells (cI .i64 (NI (iU (M+1) (fw W j.val)))) 2))]⟩
theorem EL(hL:a.length=L)(hb:∀q,a.getD q 0≤2^20)(hk:k≤16)(hL2:L≤2^20):ACall Tryz.prog 98 [.isl false (cI .i64 (NI a)) L,.val (.int .i64 k)] [] 0 (.isl false (cI .i64 (NI (iT k a))) (L+k)) []:=by
 have hbd:∀i,i≤k→∀q,(iT i a).getD q 0≤2^40:=fun i hi q=>by
  have h1:=acG hb i q
  have h2:2^i≤2^16:=Nat.pow_le_pow_right (by omega) (by omega)
  have h3:2^i*2^20≤2^16*2^20:=Nat.mul_le_mul_right _ h2
  omega
 have hln:∀i,(iT i a).length=L+i:=fun i=>by rw[WY,hL]
 have zx1:=ae;have zx3:=ae;have zx4:=ae;have zx7:=ae;have zx8:=ae;have zx9:=ae;have zx10:=ae;have zx11:=ae;have zx12:=ae;have zx13:=ae;have zx14:=ae;have zx15:=ae;have zx16:=ae;have zx2:=ae
 refine ak Tryz.func98 Tryz.ntmps98 rfl ?_
 have zx5:= @ah4;have zx6:= @Nat.add_zero;have zx17:= @dS;have zx18:= @dx;have zx19:=aC;have zx20:=aC;repeat' (first|((first|refine bI (r:=10) 0 ?_|refine bH (r:=10) 0 ?_);refine V6 ?_;intro K hK;refine hK _ _ ?_;clear hK K)|(refine ai ?_;refine au [0] ([0].length) (wdJ W M k i) (fun j=>M-j.val) (⟨0,by omega⟩) rfl (by unfold wdJ;exact wB) ?_;(rintro⟨j,hj⟩;rcases Nat.lt_or_eq_of_le hj with hjl|hjl<;>first|(have ej:M=j:=hjl.symm;have zx13:cI .i64 (NI (iU (M+1) (fw W j)))=cI .i64 (NI (wid W)):=(by rw[←ej,ah2 zx2]);(simp-dsimp only[wdJ];refine zqS ?_))|(have hx:=hWb j;have zx7:=Bi (l:=W) (j:=j) (by omega);obtain⟨x,hxe⟩:∃x,W.getD j 0=x:=⟨_,rfl⟩;rw[hxe] at hx zx7;have hcb:fw W j j≤2^40:=(by unfold fw;have:=hWb (j-1);split<;>split<;>omega);have hdb:gw W j (j+1)≤2^40:=(by unfold gw;have:=hWb (j+1-1);split<;>split<;>omega);have zx8:=JH (f:=fw W j) (j:=j) (m:=M+1) (by omega);have zx9:=JH (f:=gw W j) (j:=j+1) (m:=M+1) (by omega);have l1:(NI W).length=M:=(by rw[dS,zx2]);have l2:(NI (iU (M+1) (fw W j))).length=M+1:=(by rw[dS,dx]);have l3:(NI (iU (M+1) (gw W j))).length=M+1:=(by rw[dS,dx]);have zx10:(cI .i64 (NI (iU (M+1) (fw W j)))).set j (.val (.int .i64 (((fw W j j:Nat):Int)+(x:Int))))=cI .i64 (NI (iU (M+1) (gw W j))):=Dv (by omega) (by rw[←hxe,akP];omega) (fun q hq hne=>ah0 hne);have zx11:(cI .i64 (NI (iU (M+1) (gw W j)))).set (j+1) (.val (.int .i64 (((gw W j (j+1):Nat):Int)+(x:Int))))=cI .i64 (NI (iU (M+1) (fw W (j+1)))):=Dv (by omega) (by rw[←hxe,akQ];omega) (fun q hq hne=>ah1 hne);obtain⟨c,hce⟩:∃c,fw W j j=c:=⟨_,rfl⟩;obtain⟨d,hde⟩:∃d,gw W j (j+1)=d:=⟨_,rfl⟩;rw[hce] at hcb zx8 zx10;rw[hde] at hdb zx9 zx11;(simp-dsimp only[wdJ];refine zqS ?_))))|(refine ax ?_;refine Nxt.mk [0] (⟨j+1,by omega⟩) rfl (by unfold wdJ;exact wB) zqO)|(refine ai ?_;refine au [] ([].length) (wdI a L k) (fun i=>k-i.val) (⟨0,by omega⟩) rfl (by unfold wdI;exact wB) ?_;(rintro⟨i,hi⟩;rcases Nat.lt_or_eq_of_le hi with hil|hil<;>first|(have ei:k=i:=hil.symm;subst ei;(simp-dsimp only[wdI];refine zqS ?_))|(have zx3:=ve i a;have zx2:=hln i;have hWb:=hbd i hi;obtain⟨W,zx1⟩:∃W,iT i a=W:=⟨_,rfl⟩;obtain⟨M,hMe⟩:∃M,L+i=M:=⟨_,rfl⟩;have zx15:L+(i+1)=M+1:=(by omega);rw[zx1] at zx3 zx2 hWb;rw[hMe] at zx2;have zx16:List.take (M+1) (NI (wid W))=NI (wid W):=List.take_of_length_le (by rw[dS,Du,zx2];omega);have zx4:=LC (m:=M+1) (f:=fw W 0) (fun q hq=>by unfold fw;simp);(simp-dsimp(disch:=try exact vD) only[push_cast,simprocAttr,wdI,hMe,zx1]))))|(refine ax ?_;refine Nxt.mk [] (⟨i+1,by omega⟩) rfl (by unfold wdI;exact wB) zqO)|refine zqN ?_|refine aeB ?_|refine aeC ?_|(refine aeD ?_ ?_<;>intro hc<;>try exact zqM))
 all_goals first
  |((refine Ends.mk2 zqI [] ?_;simp-dsimp(disch:=try exact vD) only[push_cast,simprocAttr,Tryz.f98];try exact zqF);done)
  |skip
