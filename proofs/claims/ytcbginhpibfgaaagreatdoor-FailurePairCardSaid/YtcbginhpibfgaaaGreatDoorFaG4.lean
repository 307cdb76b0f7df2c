/- Fa4 Fa5 Fa6. No condition. -/
import Derived.Test.YtcbginhpibfgaaaGreatDoorFaG2
import Derived.Test.YtcbginhpibfgaaaGreatDoorDv2
set_option linter.all false
set_option maxHeartbeats 4000000
set_option maxRecDepth 20000
namespace Go.Proofs.YtcbginhpibfgaaaGreatDoor
section
open Go Go.Sy Go.Lm Go.Rt Go.Dg
attribute [local irreducible] AO AL AC OpT ACall Ends DGo bK Thn Blk Nxt
variable {n N np k i m j r q lo hi:Nat} {z zp:Bool} {ps:List RV} {F:List Fo} {L:List Fk} {p:Nat→Rat} {K K1 K2 K3:List Nat} {W H M1 M2 M3 X:RV} {rt e e2:Int} {d:Nat→Nat} {x:Rat}
theorem srv_le(hg:Go.Dg.Good n F)(hr:r<F.length+2):aP n F r≤n:=by
 unfold aP
 split
 ·exact Nat.le_refl _
 ·have:=(hg.ok (r-2) (by omega)).v;omega
theorem ae4(hn:n≤12)(h:k≤n):3*3^k≤10^60:=by
 have:3^k≤3^12:=Nat.pow_le_pow_right (by omega) (by omega)
 have e:3*3^12≤10^60:=by decide
 omega
theorem QV(hg:Go.Dg.Good n F)(h:Cs p d n)(hn:n≤12)(hr:r<F.length+2):Sm (nvN p F r):=by
 have hb:=QT hg h r hr
 have hl:=srv_le hg hr
 exact h.sm hn (i:=aP n F r) (k:=n-aP n F r) (by omega) hb (by have:=ae4 (k:=n-aP n F r) hn (by omega);omega)
theorem O8(hg:Go.Dg.Good n F)(h:Cs p d n)(hn:n≤12)(hj:j<F.length):
 Sm (p (F.getD j default).v*nvN p F (F.getD j default).lo)∧Sm ((1-p (F.getD j default).v)*nvN p F (F.getD j default).hi):=by
 have ho:=hg.ok j hj
 have h1:=ho.lo;have h3:=ho.hi;have sl:=ho.sl;have sh:=ho.sh;have hv:=ho.v
 have i1:=QT hg h (F.getD j default).lo (by omega)
 have i2:=QT hg h (F.getD j default).hi (by omega)
 have l1:=srv_le hg (r:=(F.getD j default).lo) (by omega)
 have l2:=srv_le hg (r:=(F.getD j default).hi) (by omega)
 generalize(F.getD j default).lo=lo at*
 generalize(F.getD j default).hi=hi at*
 generalize(F.getD j default).v=v at*
 have hp:=(h v hv).1
 have m1:=i1.mono (Fj (d:=d) (i:=v+1) (j:=aP n F lo) (n:=n) (by omega) l1) (p3 (i:=n-aP n F lo) (j:=n-(v+1)) (by omega))
 have m2:=i2.mono (Fj (d:=d) (i:=v+1) (j:=aP n F hi) (n:=n) (by omega) l2) (p3 (i:=n-aP n F hi) (j:=n-(v+1)) (by omega))
 have a:=hp.mul m1
 have b:=hp.not.mul m2
 rw[←rG,show n-(v+1)+1=n-v by omega] at a b
 have hk:=ae4 (k:=n-(v+1)) hn (by omega)
 exact⟨h.sm hn (i:=v) (k:=n-v) (by omega) a (by omega),h.sm hn (i:=v) (k:=n-v) (by omega) b (by omega)⟩
def Ps(ps:List RV)(p:Nat→Rat)(n:Nat):Prop:=∀i,i<n→∃z,ps.getD i default=rQ z (p i)∧SmZ z (p i)
theorem O9(h:Cs p d n)(hi:i<n):Sm (1-p i):=by
 obtain⟨h1,h2,h3⟩:=h i hi
 exact h1.not.sm h2 (by have:(2*1000000:Nat)<10^140:=by decide
                        omega) (by have:(1000000:Nat)<10^140:=by decide
                                   omega)
theorem YP(h:r<2∨r∈K):om F (k+1) r K=K:=if_pos h
theorem ai3(h:¬(r<2∨r∈K)):om F (k+1) r K=om F k (F.getD (r-2) default).hi (om F k (F.getD (r-2) default).lo K)++[r]:=if_neg h
theorem ai4(hg:Go.Dg.Good n F)(hN:F.length=N)(hN2:N<2^40)(hn:n≤12)(hps:ps.length=n)(hC:Cs p d n)(hP:Ps ps p n):∀(k r:Nat) (K:List Nat),r≤k→r<N+2→ACall Tryz.prog 81 (.val (.int .i64 r)::Bw n z F N rt zp ps n) (oD n z F N rt zp ps n (knR p F K)) 5 (.agg (aa.cells (rC (nvN p F r)))) (oD n z F N rt zp ps n (knR p F (om F k r K))):=by
 intro k
 induction k with
 |zero=>
  intro r K hk hr
  have e:r=0:=by omega
  subst e
  have:=gX (v:=1-((0:Nat):Int)) (by decide)
  exact YJ rfl (by decide) this
 |succ k ih=>
  intro r K hk hr
  by_cases h2:r<2
  ·have e:om F (k+1) r K=K:=YP (.inl h2)
   rw[e]
   have hnm:=gX (v:=1-(r:Int)) ⟨by omega,by omega⟩
   have e2:(((1-(r:Int)):Int):Rat)=nvN p F r:=by
    rw[O1 h2]
    have:r=0∨r=1:=by omega
    rcases this with rfl|rfl<;>rfl
   rw[e2] at hnm
   exact YJ rfl h2 hnm
  ·obtain⟨j,rfl⟩:∃j,r=j+2:=⟨r-2,by omega⟩
   have ec:((j+2:Nat):Int)=(j:Int)+1+1:=by omega
   by_cases hK:j+2∈K
   ·have e:om F (k+1) (j+2) K=K:=YP (.inr hK)
    have ha:=IW (p:=p) (F:=F) hK
    rw[ec] at ha
    rw[e,ec]
    exact adX ha
   ·have hj:j<N:=by omega
    have ho:=hg.ok j (by omega)
    have h1:=ho.lo;have h3:=ho.hi;have hv:=ho.v
    have i1:=ih (F.getD j default).lo K (by omega) (by omega)
    have i2:=ih (F.getD j default).hi (om F k (F.getD j default).lo K) (by omega) (by omega)
    have e:om F (k+1) (j+2) K=om F k (F.getD j default).hi (om F k (F.getD j default).lo K)++[j+2]:=ai3 (fun h=>h.elim h2 hK)
    have hnk:¬j+2∈om F k (F.getD j default).hi (om F k (F.getD j default).lo K):=fun hc=>by
     rcases QU hg k _ _ (by omega) _ hc with h|h
     ·rcases QU hg k _ _ (by omega) _ h with h|h
      ·exact hK h
      ·omega
     ·omega
    have ha:=Fp (p:=p) (F:=F) hK
    have hput:=YI (p:=p) (F:=F) hnk
    have ha3:=IW (p:=p) (F:=F) (r:=j+2) (K:=om F k (F.getD j default).hi (om F k (F.getD j default).lo K)++[j+2]) (by simp)
    rw[ec] at ha hput ha3
    rw[e,ec]
    obtain⟨zv,ePv,hsv⟩:=hP (F.getD j default).v hv
    have sl:=QV hg hC hn (r:=(F.getD j default).lo) (by omega)
    have sh:=QV hg hC hn (r:=(F.getD j default).hi) (by omega)
    obtain⟨q1,q2⟩:=O8 hg hC hn (j:=j) (by omega)
    have nn:=O9 hC hv
    have m1:=ui hsv (cu sl)
    have nt:=uj hsv
    have m2:=ui (cu nn) (cu sh)
    have ad:=Kc (cu q1) (cu q2)
    rw[←eF] at m1
    rw[←eF,←eF] at m2 ad
    rw[←ePv] at m1 nt
    rw[←O3 hg (by omega)] at ad
    exact adY hN hN2 hj hps (by omega) hv rfl ha hput ha3 i1 i2 m1 nt m2 ad
theorem ad2{M:List (List Int×AV)} {p:Nat→Rat} {F0:List Fo}(hM:M=knR p F0 K)(hnp:np≤1000)(h:ACall Tryz.prog 81 (.val (.int .i64 rt)::Bw n z F N rt zp ps np) (oD n z F N rt zp ps np []) 5 (.agg (aa.cells W)) (oD n z F N rt zp ps np M)):
 ACall Tryz.prog 45 [.pt 0 0,.agg [.val (.int .i64 n),.isl z (cR F) N,.val (.int .i64 rt)],.isl zp (cR ps) np] [bD] 1 (.agg (aa.cells W)) [bD]:=by
 subst hM
 have h:=PLift.up h
 unfold Bw oD bD at*
 refine ak Tryz.func45 Tryz.ntmps45 rfl ?_
 repeat' (first|((first|refine bI (r:=3) 2 ?_|refine bH (r:=3) 2 ?_);refine gD ?_;intro K hK;refine hK _ _ ?_;clear hK K)|((first|refine bI (r:=3) 3 ?_|refine bH (r:=3) 3 ?_);refine gD ?_;intro K hK;refine hK _ _ ?_;clear hK K)|refine zqN ?_|((first|refine ay rfl (fun K hK=>?_)|refine aj (fun K hK=>?_));(first|refine bq (f:=81) [6,1,7,5,0] 5 false ?_);refine jP ?_;(first|refine⟨_,_,h.down,?_⟩);refine gD ?_;apply hK;clear hK K)|refine aK ?_|refine aL ?_|(refine aM ?_ ?_<;>intro hc<;>try exact zqM))
 all_goals first
  |((refine Ends.mk2 zqI [0] ?_;simp-dsimp(disch:=try exact vD) only[push_cast,simprocAttr,Tryz.f45];try exact zqF);done)
  |skip
theorem Mv(hD:DOk n F r)(hN:F.length=N)(hps:ps.length=n)(hC:Cs p d n)(hP:Ps ps p n):
 ACall Tryz.prog 45 [.pt 0 0,.agg [.val (.int .i64 n),.isl z (cR F) N,.val (.int .i64 r)],.isl zp (cR ps) n] [bD] 1 (.agg (aa.cells (rC (Pr p n fun t=> !aG F t r)))) [bD]:=by
 have hf:=hD.few;have h12:=hD.n12;have hlt:=hD.lt
 rw[←ae3 hD.good hD.lt]
 have h:=ai4 (z:=z) (zp:=zp) (rt:=r) hD.good hN (by omega) h12 hps hC hP r r [] (Nat.le_refl _) (by omega)
 rw[adW] at h
 exact ad2 rfl (by omega) h
theorem QW(hv:ACall Tryz.prog 72 [dI z np L N e2] [] 0 (.val (.int .i64 0)) [])(hp:ACall Tryz.prog 74 [.isl false [.isl zp (cR ps) np] 1] [] 0 (.val (.int .i64 e)) []):ACall Tryz.prog 43 [dI z np L N e2,.isl zp (cR ps) np] [] 0 (.val (.int .i64 e)) []:=by
 have hv:=PLift.up hv;have hp:=PLift.up hp
 unfold dI at*
 refine ak Tryz.func43 Tryz.ntmps43 rfl ?_
 repeat' (first|refine zqN ?_|((first|refine ay rfl (fun K hK=>?_)|refine aj (fun K hK=>?_));(first|refine ah (f:=72) [] 0 false ?_|refine ah (f:=74) [] 0 true ?_);refine jP ?_;(first|refine⟨_,_,hv.down,?_⟩|refine⟨_,_,hp.down,?_⟩);refine gD ?_;apply hK;clear hK K)|refine aK ?_|refine aL ?_|(refine aM ?_ ?_<;>intro hc<;>try exact zqM))
 all_goals first
  |((refine Ends.mk2 zqI [] ?_;simp-dsimp(disch:=try exact vD) only[push_cast,simprocAttr,Tryz.f43];try exact zqF);done)
  |skip
theorem of_0(hg:ACall Tryz.prog 43 [dI z rt L N e2,.isl zp (cR ps) np] [] 0 (.val (.int .i64 0)) [])(hf:ACall Tryz.prog 45 [.pt 0 0,dI z rt L N e2,.isl zp (cR ps) np] [bD] 1 (.agg (aa.cells W)) [bD]):ACall Tryz.prog 15 [dI z rt L N e2,.isl zp (cR ps) np] [] 0 (.tup [.agg (aa.cells W),.val (.int .i64 0)]) []:=by
 have hg:=PLift.up hg;have hf:=PLift.up hf;have hr:=PLift.up (DJ (X:=W))
 unfold dI bD at*
 refine ak Tryz.func15 Tryz.ntmps15 rfl ?_
 repeat' (first|refine zqN ?_|((first|refine ay rfl (fun K hK=>?_)|refine aj (fun K hK=>?_));(first|refine ah (f:=43) [] 0 false ?_|refine ah (f:=45) [2] 1 false ?_|refine ah (f:=44) [2] 1 false ?_);refine jP ?_;(first|refine⟨_,_,hg.down,?_⟩|refine⟨_,_,hf.down,?_⟩|refine⟨_,_,hr.down,?_⟩);refine gD ?_;apply hK;clear hK K)|refine aK ?_|refine aL ?_|(refine aM ?_ ?_<;>intro hc<;>try exact zqM))
 all_goals first
  |((refine Ends.mk2 zqI [] ?_;simp-dsimp(disch:=try exact vD) only[push_cast,simprocAttr,Tryz.f15];try exact zqF);done)
  |skip
end
section
open Go Go.Sy Go.Lm Go.Rt Go.Dg
attribute [local irreducible] AO AL AC OpT ACall Ends DGo bK Thn Blk Nxt
variable {n N np k i m j r q lo hi sv:Nat} {z zp:Bool} {ps:List RV} {F:List Fo} {L:List Fk} {p:Nat→Rat} {W H M1 M2 M3 X V:RV} {rt e e2 v:Int} {d:Nat→Nat} {x:Rat}
theorem set4(h:sv<ps.length):spl (cR ps) (sv*4) (aa.cells X)=cR (ps.set sv X):=by
 rw[VJ,VK h]
theorem QZ(h:sv<ps.length):spl (cR ps) (sv*4) [.val (.bool X.num.neg),.isl X.num.z (cI .u32 X.num.l) X.num.l.length,.val (.bool X.den.neg),.isl X.den.z (cI .u32 X.den.l) X.den.l.length]=cR (ps.set sv X):=set4 h
abbrev imA(n:Int)(z:Bool)(L:List Fk)(N:Nat)(rt:Int)(zp:Bool)(ps:List RV)(np:Nat)(sv:Nat):List AV:=[.ipt [.isl zp (cR ps) np] 0,.ipt [.val (.int .i64 sv)] 0,.pt 0 0,.ipt [.val (.int .i64 n),.isl z (cR L) N,.val (.int .i64 rt)] 0]
theorem YU(hn:ps.length=np)(hb:np≤1000)(hs:sv<np)(hnm:ACall Tryz.prog 53 [.val (.int .i64 v)] [] 0 (.agg (aa.cells X)) [])
 (hf:ACall Tryz.prog 45 [.pt 0 0,dI z rt L N e2,.isl false (cR (ps.set sv X)) np] [bD] 1 (.agg (aa.cells W)) [bD]):
 ACall Tryz.prog 52 (.val (.int .i64 v)::imA rt z L N e2 false ps np sv) [.cells [.pt 1 0] 79,bD] 2 (.agg (aa.cells W)) [.cells [.pt 1 0] 79,bD]:=by
 have hf:=PLift.up hf;have hnm:=PLift.up hnm
 have hc:=PLift.up (Fg hn (by omega))
 have zx1:=QZ (X:=X) (ps:=ps) (sv:=sv) (by omega)
 have hln:(ps.set sv X).length=np:=by rw[List.length_set];exact hn
 have zx2:(cR (ps.set sv X)).take (np*4)=cR (ps.set sv X):=List.take_of_length_le (by rw[lM,hln];exact Nat.le_refl _)
 unfold imA dI bD at*
 refine ak Tryz.func52 Tryz.ntmps52 rfl ?_
 have zx3:=aC;repeat' (first|((first|refine bI (r:=3) 3 ?_|refine bH (r:=3) 3 ?_);refine gQ ?_;intro K hK;refine hK _ _ ?_;clear hK K)|refine zqN ?_|((first|refine ay rfl (fun K hK=>?_)|refine aj (fun K hK=>?_)|refine aA (fun K hK=>?_));(first|refine ah (f:=20) [] 0 false ?_|refine ah (f:=53) [] 0 false ?_|refine ah (f:=45) [1] 1 false ?_);refine l8 ?_;(first|refine⟨_,_,hc.down,?_⟩|refine⟨_,_,hnm.down,?_⟩|refine⟨_,_,hf.down,?_⟩);refine gQ ?_;apply hK;clear hK K)|refine bM ?_|refine bO ?_|(refine bP ?_ ?_<;>intro hc<;>try exact zqM)|refine zqR 2 [⟨0,[],[11,12,13],[],[],0⟩,⟨1,[],[10,12,13],[],[],0⟩,⟨2,[],[10,11],[],[],0⟩,⟨3,[2],[10,11],[],[],0⟩,⟨4,[0,1,2,3],[],[],[],0⟩,⟨5,[0,1,2,3,4],[],[],[2],0⟩] ?_|refine zqD ?_|fail)
 all_goals first
  |((refine Ends.mk2 zqI [0,1] ?_;simp-dsimp(disch:=try exact vD) only[push_cast,simprocAttr,Tryz.f52];try exact zqF);done)
  |skip
theorem alo{A B W:RV}(hs:(sv:Int)<rt)(hg:ACall Tryz.prog 43 [dI z rt L N e2,.isl false (cR ps) np] [] 0 (.val (.int .i64 0)) [])
 (h1:ACall Tryz.prog 52 (.val (.int .i64 1)::imA rt z L N e2 false ps np sv) [.cells [.pt 1 0] 79,bD] 2 (.agg (aa.cells A)) [.cells [.pt 1 0] 79,bD])
 (h0:ACall Tryz.prog 52 (.val (.int .i64 0)::imA rt z L N e2 false ps np sv) [.cells [.pt 1 0] 79,bD] 2 (.agg (aa.cells B)) [.cells [.pt 1 0] 79,bD])
 (hsb:ACall Tryz.prog 54 [.pt 0 0,.agg (aa.cells A),.agg (aa.cells B)] [bD] 1 (.agg (aa.cells W)) [bD]):
 ACall Tryz.prog 21 [dI z rt L N e2,.isl false (cR ps) np,.val (.int .i64 sv)] [] 0 (.tup [.agg (aa.cells W),.val (.int .i64 0)]) []:=by
 have hg:=PLift.up hg;have w1:=PLift.up h1;have w0:=PLift.up h0;have hsb:=PLift.up hsb;have hr:=PLift.up (DJ (X:=W))
 clear h1 h0
 unfold imA dI bD at*
 refine ak Tryz.func21 Tryz.ntmps21 rfl ?_
 repeat' (first|((first|refine bI (r:=7) 0 ?_|refine bH (r:=7) 0 ?_);refine gD ?_;intro K hK;refine hK _ _ ?_;clear hK K)|((first|refine bI (r:=7) 1 ?_|refine bH (r:=7) 1 ?_);refine gD ?_;intro K hK;refine hK _ _ ?_;clear hK K)|((first|refine bI (r:=7) 2 ?_|refine bH (r:=7) 2 ?_);refine gD ?_;intro K hK;refine hK _ _ ?_;clear hK K)|refine zqN ?_|((first|refine ay rfl (fun K hK=>?_)|refine aj (fun K hK=>?_)|refine gM [5,4] (fun K hK=>?_));refine bq (f:=52) (dst:=some 37) [5,4] 2 false ?_;refine jP ?_;refine⟨_,_,w0.down,?_⟩;refine gD ?_;apply hK;clear hK K)|((first|refine ay rfl (fun K hK=>?_)|refine aj (fun K hK=>?_)|refine aA (fun K hK=>?_));(first|refine ah (f:=43) [] 0 false ?_|refine bq (f:=52) (dst:=some 32) [5,4] 2 false ?_|refine ah (f:=54) [4] 1 false ?_|refine ah (f:=44) [4] 1 false ?_);refine jP ?_;(first|refine⟨_,_,hg.down,?_⟩|refine⟨_,_,w1.down,?_⟩|refine⟨_,_,hsb.down,?_⟩|refine⟨_,_,hr.down,?_⟩);refine gD ?_;apply hK;clear hK K)|refine aK ?_|refine aL ?_|(refine aM ?_ ?_<;>intro hc<;>try exact zqM)|refine zqR 9 [⟨0,[],[34,35,36,37,38],[7],[],0⟩,⟨1,[],[33,35,36,37],[7],[],0⟩,⟨2,[],[33,34,36,37],[7],[],0⟩,⟨3,[],[33,34,35],[],[],0⟩,⟨4,[3],[33,34,35],[],[7],0⟩,⟨5,[1,2,3,4],[33],[],[7],0⟩,⟨6,[0,1,2,3,4,5],[],[],[7],0⟩,⟨7,[0,1,2,3,4,5,6],[41],[],[],0⟩,⟨8,[0,1,2,3,4,5,6],[40],[],[],0⟩,⟨9,[0,1,2,3,4,5,6,7,8],[],[],[2],0⟩,⟨10,[0,1,2,3,4,5,6,7,8,9],[],[],[],0⟩] ?_|refine zqD ?_|fail)
 all_goals first
  |((refine Ends.mk2 zqI [] ?_;simp-dsimp(disch:=try exact vD) only[push_cast,simprocAttr,Tryz.f21];try exact zqF);done)
  |skip
end
section
open Go Go.Sy Go.Lm Go.Rt Go.Dg
attribute [local irreducible] AO AL AC OpT ACall Ends DGo bK Thn Blk Nxt
variable {n N k i m j r:Nat} {z zp:Bool} {B A l:List Int} {L:List Fk} {p:Nat→Rat} {W X Y:RV} {rt e e2 v:Int} {x c:Rat}
def bn(n:Nat):Nat→Int
 |0=>1
 |k+1=>(bn n k*((n:Int)-k)).tdiv ((k:Int)+1)
def bnL(n:Nat):Nat→List Int
 |0=>[1]
 |k+1=>bnL n k++[bn n (k+1)]
theorem alC:bnL n 0=[1]:=rfl
theorem Y2:bnL n (k+1)=bnL n k++[bn n (k+1)]:=rfl
theorem uk:(bnL n k).length=k+1:=by
 induction k with
 |zero=>rfl
 |succ k ih=>rw[Y2,List.length_append,ih];rfl
theorem Pk(h:i≤k):(bnL n k).getD i 0=bn n i:=by
 induction k with
 |zero=>have:i=0:=by omega
        subst this;rfl
 |succ k ih=>
  rw[Y2]
  rcases Nat.lt_or_eq_of_le h with h1|h1
  ·rw[List.getD_eq_getElem?_getD,List.getElem?_append_left (by rw[uk];omega),←List.getD_eq_getElem?_getD]
   exact ih (by omega)
  ·rw[List.getD_eq_getElem?_getD,List.getElem?_append_right (by rw[uk];omega),uk,h1,Nat.sub_self];rfl
theorem xc:∀n,n≤12→∀k,k≤n→0≤bn n k∧bn n k≤1000:=by decide+kernel
theorem alD(h:n≤12)(hk:k<n):bn n (k+1)=bn n k*((n:Int)-k)/((k:Int)+1):=by
 have h1:=xc n h k (by omega)
 show(bn n k*((n:Int)-k)).tdiv ((k:Int)+1)=_
 rw[Int.tdiv_eq_ediv_of_nonneg (Int.mul_nonneg h1.1 (by omega))]
def bnI(n:Nat)(k:{k:Nat // k≤n}):St:=
 ⟨26,0,[(0,.val (.int .i64 n)),(3,.sl 0 0 (k.val+1) 1),(6,.val (.int .i64 n)),(7,.val (.int .i64 k.val))],[(0,some (.cells (cI .i64 (bnL n k.val)) 2))]⟩
theorem Y3(hn:n≤12):ACall Tryz.prog 63 [.val (.int .i64 n)] [] 0 (.sl 0 0 (n+1) 1) [.cells (cI .i64 (bnL n n)) 2]:=by
 have zx3:=ae;have zx4:=ae;have zx5:=ae;have zx6:=ae;have zx7:=ae
 have zx8:=fun(k:Nat)=>uk (n:=n) (k:=k)
 refine ak Tryz.func63 Tryz.ntmps63 rfl ?_
 have zx1:= @gd0;have zx2:= @alC;have zx9:=aC;repeat' (first|(refine ai ?_;refine au [0] ([0].length) (bnI n) (fun k=>n-k.val) (⟨0,Nat.zero_le _⟩) rfl (by unfold bnI;exact kK) ?_;(rintro⟨k,hk⟩;rcases Nat.lt_or_eq_of_le hk with hkl|hkl<;>first|(subst hkl;(simp-dsimp only[bnI];refine zqS ?_))|(have hlk:=zx8 k;have zx3:=Pk (n:=n) (k:=k) (Nat.le_refl k);have zx4:=Y2 (n:=n) (k:=k);obtain⟨hs1,hs2⟩:=xc n hn k (by omega);obtain⟨hs3,hs4⟩:=xc n hn (k+1) hkl;have zx7:=(alD hn hkl).symm;have hk0:¬(k:Int)+1=0:=(by omega);have hm:0≤bn n k*((n:Int)-k)∧bn n k*((n:Int)-k)≤12000:=⟨Int.mul_nonneg hs1 (by omega),Int.le_trans (Int.mul_le_mul hs2 (show(n:Int)-k≤12 by omega) (by omega) (by omega)) (by decide)⟩;generalize zx5:bn n k*((n:Int)-k)=xx at*;generalize zx6:bn n (k+1)=yy at*;(simp-dsimp only[bnI];refine zqS ?_))))|(refine ax ?_;refine Nxt.mk [2] (⟨k+1,by omega⟩) rfl (by unfold bnI;exact kK) zqO)|(refine ax ?_;refine Nxt.mk [1] (⟨k+1,by omega⟩) rfl (by unfold bnI;exact kK) zqO)|refine zqN ?_|refine uz ?_|refine Ic ?_|refine Ie ?_|refine Ig ?_|refine uA ?_|(refine uB ?_ ?_<;>intro hc<;>try exact zqM))
 all_goals first
  |((refine Ends.mk2 zqI [0] ?_;simp-dsimp(disch:=try exact vD) only[push_cast,simprocAttr,Tryz.f63];try exact zqF);done)
  |skip
def poL(B A:List Int)(n:Nat):Nat→List Int
 |0=>B
 |k+1=>(poL B A n k).set k (B.getD k 0-A.getD (n-k) 0)
theorem Y4:poL B A n (k+1)=(poL B A n k).set k (B.getD k 0-A.getD (n-k) 0):=rfl
theorem DN:(poL B A n k).length=B.length:=by
 induction k with
 |zero=>rfl
 |succ k ih=>rw[Y4,List.length_set,ih]
theorem Y5(h:k≤B.length):∀i,(poL B A n k).getD i 0=if i<k then B.getD i 0-A.getD (n-i) 0 else B.getD i 0:=by
 induction k with
 |zero=>intro i;rw[if_neg (by omega)];rfl
 |succ k ih=>
  intro i
  rw[Y4,EM (by rw[DN];omega),ih (by omega)]
  by_cases e:i=k
  ·subst e;rw[if_pos rfl,if_pos (by omega)]
  ·rw[if_neg e]
   by_cases h2:i<k
   ·rw[if_pos h2,if_pos (by omega)]
   ·rw[if_neg h2,if_neg (by omega)]
def poI(z:Bool)(L:List Fk)(N:Nat)(rt:Int)(B A:List Int)(n:Nat)(k:{k:Nat // k≤n+1}):St:=
 ⟨39,0,[(1,.pt 0 0),(4,.isl false (cI .i64 A) (n+1)),(6,.sl 1 0 (n+1) 1),(20,.val (.int .i64 ((n:Int)+1))),(21,.val (.int .i64 k.val))],[(0,some (.cells [.val (.int .i64 n),.isl z (cR L) N,.val (.int .i64 rt)] 29)),(1,some (.cells (cI .i64 (poL B A n k.val)) 2))]⟩
theorem Y6(hn:n≤12)(hB:B.length=n+1)(hA:A.length=n+1)(hbr:∀k,k≤n→0≤B.getD k 0∧B.getD k 0≤1000)(har:∀k,k≤n→0≤A.getD k 0∧A.getD k 0≤100000)
 (hc:ACall Tryz.prog 62 [dI z n L N rt] [] 0 (.tup [.isl false (cI .i64 A) (n+1),.val (.int .i64 0)]) []) (hb:ACall Tryz.prog 63 [.val (.int .i64 n)] [] 0 (.sl 0 0 (n+1) 1) [.cells (cI .i64 B) 2]):
 ACall Tryz.prog 26 [dI z n L N rt] [] 0 (.tup [.isl false (cI .i64 (poL B A n (n+1))) (n+1),.val (.int .i64 0)]) []:=by
 have hc':=PLift.up hc;have hb:=PLift.up hb
 clear hc
 have hlen:=fun(k:Nat)=>(DN (B:=B) (A:=A) (n:=n) (k:=k)).trans hB
 have hat:=fun(k:Nat) (h:k≤n+1)=>Y5 (B:=B) (A:=A) (n:=n) (k:=k) (by omega)
 have zx2:poL B A n 0=B:=rfl
 have zx7:(poL B A n (n+1)).take (n+1)=poL B A n (n+1):=List.take_of_length_le (by rw[hlen];exact Nat.le_refl _)
 have zx3:=ae;have zx5:=ae;have zx4:=ae;have zx6:=ae
 unfold dI at*
 refine ak Tryz.func26 Tryz.ntmps26 rfl ?_
 have zx1:= @gd0;have zx8:=aC;have zx9:=aC;repeat' (first|(refine ai ?_;refine au [0,1] ([0,1].length) (poI z L N rt B A n) (fun k=>n+1-k.val) (⟨0,Nat.zero_le _⟩) rfl (by unfold poI;exact kK) ?_;(rintro⟨k,hk⟩;rcases Nat.lt_or_eq_of_le hk with hkl|hkl<;>first|(subst hkl;(simp-dsimp only[poI];refine zqS ?_))|(have hlk:=hlen k;have zx3:=(hat k (by omega) k).trans (if_neg (by omega));have zx5:=Y4 (B:=B) (A:=A) (n:=n) (k:=k);have hb1:=hbr k (by omega);have ha1:=har (n-k) (by omega);have zx6:((n:Int)-(k:Int)).toNat=n-k:=(by omega);(simp-dsimp only[poI];refine zqS ?_))))|(refine ax ?_;refine Nxt.mk [0,1] (⟨k+1,by omega⟩) rfl (by unfold poI;exact kK) zqO)|refine zqN ?_|refine NQ hc'.down ?_|refine NQ hb.down ?_|refine uz ?_|refine uA ?_|(refine uB ?_ ?_<;>intro hc<;>try exact zqM)|refine zqR 8 [⟨0,[],[25,28,29,30,31,32,33,34],[],[],0⟩,⟨1,[],[24,28,29,30,31,32,33,34],[],[],0⟩,⟨2,[0,1],[28,29,30,31,32,33,34],[],[],0⟩,⟨3,[0,1,2],[28,29,30,31,32,33,34],[],[],0⟩,⟨4,[],[24,25,26,27,29,30,31,32],[],[],0⟩,⟨5,[],[24,25,26,27,28,31],[],[],0⟩,⟨6,[5],[24,25,26,27,28,31],[],[],0⟩,⟨7,[],[24,25,26,27,28,29,30],[],[],0⟩,⟨8,[5,6,7],[24,25,26,27,28],[],[],0⟩,⟨9,[4,5,6,7,8],[24,25,26,27],[],[],0⟩,⟨10,[4,5,6,7,8,9],[24,25,26,27],[],[],0⟩,⟨11,[0,1,2,3,4,5,6,7,8,9,10],[],[],[],0⟩,⟨12,[0,1,2,3,4,5,6,7,8,9,10,11],[],[],[],0⟩,⟨13,[0,1,2,3,4,5,6,7,8,9,10,11,12],[],[],[2],0⟩] ?_|refine zqD ?_|fail)
 all_goals first
  |(((refine Ends.frz 1 ?_;simp-dsimp(disch:=try exact vD) only[push_cast,simprocAttr,Tryz.f26,zx7];(repeat refine aI ?_);intro K hK;refine hK _ _ ?_;clear hK K);refine Ends.mk2 zqI [] ?_;simp-dsimp(disch:=try exact vD) only[push_cast,simprocAttr,Tryz.f26,zx7];try exact zqF);done)
  |skip
end
