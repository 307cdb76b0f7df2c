/- Fa10. No condition. -/
import Derived.Test.YtcbginhpibfgaaaGreatDoorFaG7
set_option linter.all false
set_option maxHeartbeats 4000000
set_option maxRecDepth 20000
namespace Go.Proofs.YtcbginhpibfgaaaGreatDoor
open Go Go.Sy Go.Lm Go.Rt Go.Dg
attribute [local irreducible] AO AL AC OpT ACall Ends DGo bK Thn Blk Nxt
variable {n N k i m j r s f:Nat} {z zp zs zt:Bool} {ss:List Nat} {ps ts:List RV} {L:List Fk} {F:List Fo} {A B W M1 M2 M3 X:RV} {rt e e2 v:Int} {p site:Nat→Rat} {x:Rat} {d dt:Nat→Nat}
def stJ(rt:Int)(z:Bool)(L:List Fk)(N:Nat)(e2:Int)(zs:Bool)(ss:List Nat)(zt:Bool)(ts:List RV)(m k:Nat)(zp:Bool)(_:Unit):St:=
 ⟨68,3,[(0,.val (.int .i64 k)),(1,.isl zp [] 0),(2,.ipt [.isl zs (cX ss) m] 0),(3,.pt 0 0),(4,.ipt [.val (.int .i64 rt),.isl z (cR L) N,.val (.int .i64 e2)] 0),(5,.ipt [.isl zt (cR ts) m] 0),(6,.pt 1 0),(9,.pt 3 0),(10,.isl zp [] 0),(24,.val (.int .i64 0)),(25,.val (.int .i64 0))],
   [(0,some (.cells [.pt 2 0] 79)),(1,some (.cells [.fn 75 (stA rt z L N e2 zs ss zt ts m)] 103)),(2,some (.cells [.val (.int .i64 0)] 81)),(3,some (.cells [.val (.bool false),.isl true [] 0,.val (.bool false),.isl true [] 0] 37))]⟩
theorem ajf(hts:ts.length=m)(hss:ss.length=m)(hm:m≤1000)(hk:k<m)
 (h1:ACall Tryz.prog 75 (.val (.int .i64 ((k:Int)+1)):: .isl zp [] 0::stA rt z L N e2 zs ss zt ts m) (stO rt z L N e2 zs ss zt ts m) 3 (.agg (aa.cells A)) (stO rt z L N e2 zs ss zt ts m))
 (m1:ACall Tryz.prog 66 [.pt 0 0,.agg (aa.cells (ts.getD k default)),.agg (aa.cells A)] [bD] 1 (.agg (aa.cells M1)) [bD])
 (nt:ACall Tryz.prog 65 [.pt 0 0,.agg (aa.cells (ts.getD k default))] [bD] 1 (.agg (aa.cells M2)) [bD])
 (m2:ACall Tryz.prog 66 [.pt 0 0,.agg (aa.cells M2),.agg (aa.cells A)] [bD] 1 (.agg (aa.cells M3)) [bD])
 (ad:ACall Tryz.prog 67 [.pt 0 0,.agg (aa.cells M1),.agg (aa.cells M3)] [bD] 1 (.agg (aa.cells W)) [bD]):
 ACall Tryz.prog 75 (.val (.int .i64 k):: .isl zp [] 0::stA rt z L N e2 zs ss zt ts m) (stO rt z L N e2 zs ss zt ts m) 3 (.agg (aa.cells W)) (stO rt z L N e2 zs ss zt ts m):=by
 have v1:=PLift.up h1;have m1:=PLift.up m1;have nt:=PLift.up nt;have m2:=PLift.up m2;have ad:=PLift.up ad
 have hcl:=PLift.up (lY (z:=zp) (xs:=[]) (n:=0) rfl (by decide) fun _=>rfl)
 rw[nX] at hcl
 clear h1
 unfold stA stO bD at*
 refine ak Tryz.func75 Tryz.ntmps75 rfl ?_
 repeat' (first|(refine ai ?_;refine au [0,1,2,3] ([0,1,2,3].length) (stJ rt z L N e2 zs ss zt ts m k zp) (fun _=>0) (()) rfl (by unfold stJ;exact mO) ?_;(rintro⟨⟩;(simp-dsimp only[stJ];refine zqS ?_)))|refine zqN ?_|((first|refine ay rfl (fun K hK=>?_)|refine aj (fun K hK=>?_)|refine gM [0,1] (fun K hK=>?_));refine bq (f:=75) (dst:=some 50) [0,1,2] 3 false ?_;refine jP ?_;refine⟨_,_,v1.down,?_⟩;refine gD ?_;apply hK;clear hK K)|((first|refine ay rfl (fun K hK=>?_)|refine aj (fun K hK=>?_)|refine gM [0,1] (fun K hK=>?_));refine bq (f:=75) (dst:=some 65) [0,1,2] 3 false ?_;refine jP ?_;refine⟨_,_,v1.down,?_⟩;refine gD ?_;apply hK;clear hK K)|((first|refine ay rfl (fun K hK=>?_)|refine aj (fun K hK=>?_)|refine aA (fun K hK=>?_));(first|refine ah (f:=20) [] 0 false ?_|refine ah (f:=66) (dst:=some 51) [2] 1 false ?_|refine ah (f:=65) [2] 1 false ?_|refine ah (f:=66) (dst:=some 66) [2] 1 false ?_|refine ah (f:=67) [2] 1 false ?_);refine jP ?_;(first|refine⟨_,_,hcl.down,?_⟩|refine⟨_,_,m1.down,?_⟩|refine⟨_,_,nt.down,?_⟩|refine⟨_,_,m2.down,?_⟩|refine⟨_,_,ad.down,?_⟩);refine gD ?_;apply hK;clear hK K)|refine aK ?_|refine aL ?_|(refine aM ?_ ?_<;>intro hc<;>try exact zqM)|refine zqR 10 [⟨0,[],[12,42,43,44,45,46,47,48,49,50],[5],[],0⟩,⟨1,[],[12,41,43,46,47,48,49,50],[5],[],0⟩,⟨2,[],[12,41,42,46,47,48,49,50],[5],[],0⟩,⟨3,[1,2],[12,41,46,47,48,49,50],[5],[],0⟩,⟨4,[1,2,3],[12,41,46,47,48,49,50],[5],[],0⟩,⟨5,[],[12,41,42,43,44,45,47,48,49],[],[],0⟩,⟨6,[],[12,41,42,43,44,45,46,49],[],[],0⟩,⟨7,[6],[12,41,42,43,44,45,46,49],[],[],0⟩,⟨8,[],[12,41,42,43,44,45,46,47,48],[],[],0⟩,⟨9,[5,6,7,8],[12,41,42,43,44,45],[],[5],0⟩,⟨10,[0,1,2,3,4,5,6,7,8,9],[12],[],[5],0⟩,⟨11,[],[41,42,43,44,45,46,47,48,49,50,51],[5],[],1⟩,⟨12,[0,1,2,3,4,5,6,7,8,9,10,11],[],[],[2],0⟩] ?_|refine zqR 11 [⟨0,[],[53,54,55,56,57,58,59,60,61,62,63,64,65,66],[5],[],0⟩,⟨1,[],[52,54,55,56,57,58,59,60,61,62,63,64,65,66],[5],[],0⟩,⟨2,[],[52,53,55,56,57,58,59,60,61,62,63,64,65],[5],[],0⟩,⟨3,[],[52,53,54,56,57,58,59,61,62,63,64],[],[],0⟩,⟨4,[],[52,53,54,55,57,61,62,63,64],[],[],0⟩,⟨5,[],[52,53,54,55,56,61,62,63,64],[],[],0⟩,⟨6,[4,5],[52,53,54,55,61,62,63,64],[],[],0⟩,⟨7,[4,5,6],[52,53,54,55,61,62,63,64],[],[],0⟩,⟨8,[3,4,5,6,7],[52,53,54,61,62,63,64],[],[5],0⟩,⟨9,[],[52,53,54,55,56,57,58,59,60,62,63,64],[5],[],0⟩,⟨10,[],[52,53,54,55,56,57,58,59,60,61,64],[5],[],0⟩,⟨11,[10],[52,53,54,55,56,57,58,59,60,61,64],[5],[],0⟩,⟨12,[],[52,53,54,55,56,57,58,59,60,61,62,63],[5],[],0⟩,⟨13,[3,4,5,6,7,8,9,10,11,12],[52,53,54],[],[5],0⟩,⟨14,[2,3,4,5,6,7,8,9,10,11,12,13],[52,53],[],[5],0⟩,⟨15,[0,1,2,3,4,5,6,7,8,9,10,11,12,13,14],[],[],[5],0⟩,⟨16,[0,1,2,3,4,5,6,7,8,9,10,11,12,13,14,15],[],[],[2],0⟩] ?_|refine zqD ?_|fail)
 all_goals first
  |((refine Ends.mk2 zqI [0,1,2] ?_;simp-dsimp(disch:=try exact vD) only[push_cast,simprocAttr,Tryz.f75];try exact zqF);done)
  |skip
def bSt(ss:List Nat)(k j:Nat):Bool:=bit (ss.getD k default) j
theorem Zc(h:Cs p d n){S:Nat→Nat→Bool}:Cs (dn S k p) d n:=fun j hj=>by
 obtain⟨h1,h2,h3⟩:=h j hj
 refine⟨?_,h2,h3⟩
 unfold dn
 split
 ·exact Bd.one.mono (Nat.one_dvd _) (Nat.le_refl _)
 ·exact h1
theorem Bo(hD:DOk n F r)(h:Cs p d n):Bd (pp d 0 n) (3^n) (Pr p n fun t=> !aG F t r):=by
 rw[←ae3 hD.good hD.lt]
 have hl:=srv_le hD.good hD.lt
 have:=(QT hD.good h r hD.lt).mono (Fj (d:=d) (i:=0) (j:=aP n F r) (n:=n) (Nat.zero_le _) hl) (p3 (i:=n-aP n F r) (j:=n) (by omega))
 rw[Nat.sub_zero] at this;exact this
theorem Zd{S:Nat→Nat→Bool} {G:(Nat→Rat)→Rat} {D K:Nat}(hG:∀p,Cs p d n→Bd D K (G p))(ht:Cs site dt m):∀(f k:Nat) (p:Nat→Rat),k+f=m→Cs p d n→Bd (pp dt k f*D) (3^f*K) (vv S site G f k p):=by
 intro f
 induction f with
 |zero=>intro k p _ hp;show Bd (1*D) (1*K) _;rw[Nat.one_mul,Nat.one_mul];exact hG p hp
 |succ f ih=>
  intro k p hk hp
  have hs:=(ht k (by omega)).1
  have i1:=ih (k+1) (dn S k p) (by omega) (Zc hp)
  have i2:=ih (k+1) p (by omega) hp
  have a:=(hs.mul i1).add (hs.not.mul i2)
  rw[←Nat.mul_assoc,←rG] at a
  refine a.mono (Nat.dvd_refl _) ?_
  rw[Nat.pow_succ,show 3^f*3*K=3*(3^f*K) by rw[Nat.mul_comm (3^f) 3,Nat.mul_assoc]]
  omega
theorem Fv{D E K:Nat}(hm:m≤4)(hn:n≤12)(h1:0<D)(h2:0<E)(hD:D≤1000000^m)(hE:E≤1000000^n)(hK:K≤3*3^16)(h:Bd (D*E) K x):Sm x:=by
 have e1:1000000^m≤1000000^4:=Nat.pow_le_pow_right (by omega) hm
 have e2:1000000^n≤1000000^12:=Nat.pow_le_pow_right (by omega) hn
 have h3:D*E≤1000000^4*1000000^12:=Nat.mul_le_mul (Nat.le_trans hD e1) (Nat.le_trans hE e2)
 have e3:1000000^4*1000000^12<10^140:=by decide
 refine h.sm (Nat.mul_pos h1 h2) ?_ (by omega)
 have h4:=Nat.mul_le_mul hK h3
 have e4:3*3^16*(1000000^4*1000000^12)<10^140:=by decide
 omega
theorem Ze(hps:ps.length=n)(hP:Ps ps p n):Ps (dnl ps s n) (dn (fun _ j=>bit s j) 0 p) n:=fun j hj=>by
 obtain⟨z,e1,e2⟩:=hP j hj
 rw[ajd (by omega)]
 unfold dn
 by_cases c:bit s j=true
 ·rw[if_pos ⟨hj,c⟩,if_pos c];exact⟨false,rfl,IM⟩
 ·rw[if_neg (fun h=>c h.2),if_neg c];exact⟨z,e1,e2⟩
theorem Zf(hD:DOk n F r)(hN:F.length=N)(hss:ss.length=m)(hts:ts.length=m)(hm:m≤4)(hT:Cs site dt m)(hTs:Ps ts site m):
 ∀(f k:Nat) (zp:Bool) (ps:List RV) (p:Nat→Rat),k+f=m→ps.length=n→(zp=true→n=0)→Cs p d n→Ps ps p n→
  ACall Tryz.prog 75 (.val (.int .i64 k):: .isl zp (cR ps) n::stA n z (F.map fk) N r zs ss zt ts m) (stO n z (F.map fk) N r zs ss zt ts m) 3 (.agg (aa.cells (rC (vv (bSt ss) site (fun p=>Pr p n fun t=> !aG F t r) f k p)))) (stO n z (F.map fk) N r zs ss zt ts m):=by
 have h12:=hD.n12
 intro f
 induction f with
 |zero=>
  intro k zp ps p hk hps hz hC hP
  have e:k=m:=by omega
  subst e
  have hf:=Mv (z:=z) (zp:=zp) hD hN hps hC hP
  rw[←gV] at hf
  exact Zb hf
 |succ f ih=>
  intro k zp ps p hk hps hz hC hP
  have hC2:=Zc hC (S:=bSt ss) (k:=k)
  obtain⟨zk,ek,hsk⟩:=hTs k (by omega)
  have hT0:=uK (d:=dt) (i:=k+1) (k:=f) fun j h1 h2=>(hT j (by omega)).2
  have hT1:=uK (d:=dt) (i:=k) (k:=f+1) fun j h1 h2=>(hT j (by omega)).2
  have hT2:pp dt (k+1) f≤1000000^m:=Nat.le_trans hT0.2 (Nat.pow_le_pow_right (by omega) (by omega))
  have hT3:pp dt k (f+1)≤1000000^m:=Nat.le_trans hT1.2 (Nat.pow_le_pow_right (by omega) (by omega))
  have hd:=uK (d:=d) (i:=0) (k:=n) fun j h1 h2=>(hC j (by omega)).2
  have b1:=Zd (d:=d) (S:=bSt ss) (G:=fun p=>Pr p n fun t=> !aG F t r) (fun p h=>Bo hD h) hT f (k+1) (dn (bSt ss) k p) (by omega) hC2
  have b2:=Zd (d:=d) (S:=bSt ss) (G:=fun p=>Pr p n fun t=> !aG F t r) (fun p h=>Bo hD h) hT f (k+1) p (by omega) hC
  have hs:=(hT k (by omega)).1
  have k1:3^f*3^n≤3^16:=by rw[←Nat.pow_add];exact Nat.pow_le_pow_right (by omega) (by omega)
  have s1:=Fv hm h12 hT0.1 hd.1 hT2 hd.2 (by omega) b1
  have s2:=Fv hm h12 hT0.1 hd.1 hT2 hd.2 (by omega) b2
  have a1:=hs.mul b1
  have a2:=hs.not.mul b2
  rw[←Nat.mul_assoc,←rG] at a1 a2
  have s3:=Fv hm h12 hT1.1 hd.1 hT3 hd.2 (by omega) a1
  have s4:=Fv hm h12 hT1.1 hd.1 hT3 hd.2 (by omega) a2
  have sn:=O9 hT (i:=k) (by omega)
  have hfold:vv (bSt ss) site (fun p=>Pr p n fun t=> !aG F t r) (f+1) k p=site k*vv (bSt ss) site (fun p=>Pr p n fun t=> !aG F t r) f (k+1) (dn (bSt ss) k p)+(1-site k)*vv (bSt ss) site (fun p=>Pr p n fun t=> !aG F t r) f (k+1) p:=rfl
  have m1:=ui hsk (cu s1)
  have nt:=uj hsk
  have m2:=ui (cu sn) (cu s2)
  have ad:=Kc (cu s3) (cu s4)
  rw[←eF] at m1
  rw[←eF,←eF] at m2 ad
  rw[←ek] at m1 nt
  rw[hfold]
  have ec:((k+1:Nat):Int)=(k:Int)+1:=by omega
  rcases Nat.eq_zero_or_pos n with hn0|hn0
  ·have hpe:ps=[]:=List.eq_nil_of_length_eq_zero (by omega)
   have i1:=ih (k+1) zp ps (dn (bSt ss) k p) (by omega) hps hz hC2 (fun j hj=>by omega)
   have i2:=ih (k+1) zp ps p (by omega) hps hz hC hP
   have ee:vv (bSt ss) site (fun p=>Pr p n fun t=> !aG F t r) f (k+1) (dn (bSt ss) k p)=vv (bSt ss) site (fun p=>Pr p n fun t=> !aG F t r) f (k+1) p:=
    YA (n:=n) (fun p p' h=>Mo h fun t _=>rfl) (fun j hj=>by omega)
   rw[ee] at m1 ad⊢
   rw[ec] at i2
   subst hpe
   subst hn0
   rw[nX] at i2⊢
   exact ajf hts hss (by omega) (by omega) i2 m1 nt m2 ad
  ·have hzf:zp=false:=by
    cases zp with
    |false=>rfl
    |true=>have:=hz rfl;omega
   subst hzf
   have hP2:Ps (dnl ps (ss.getD k default) n) (dn (bSt ss) k p) n:=Ze hps hP
   have i1:=ih (k+1) false (dnl ps (ss.getD k default) n) (dn (bSt ss) k p) (by omega) (dnl_len.trans hps) (fun h=>by cases h) hC2 hP2
   have i2:=ih (k+1) false ps p (by omega) hps (fun h=>by cases h) hC hP
   rw[ec] at i1 i2
   exact aje hps h12 hss hts (by omega) (by omega) rfl i1 i2 m1 nt m2 ad
theorem Zh(hv:ACall Tryz.prog 72 [dI z n L N e2] [] 0 (.val (.int .i64 0)) [])(hm:m≤12)(ha:ACall Tryz.prog 73 [.isl zs (cX ss) m,.val (.int .i64 n)] [] 0 (.val (.int .i64 e)) [])(hne:¬e=0):ACall Tryz.prog 33 [dI z n L N e2,.isl zs (cX ss) m,.isl zt (cR ts) m,.isl zp (cR ps) n] [] 0 (.tup [.agg (aa.cells rZ),.val (.int .i64 e)]) []:=by
 have hv:=PLift.up hv;have ha:=PLift.up ha
 unfold dI at*
 have ez:aa.cells rZ=[.val (.bool false),.isl true [] 0,.val (.bool false),.isl true [] 0]:=rfl
 rw[ez]
 refine ak Tryz.func33 Tryz.ntmps33 rfl ?_
 have zx1:= @hne;have zx2:=aC;have zx3:=aC;repeat' (first|refine zqN ?_|refine bE hv.down ?_|refine bE ha.down ?_|refine bM ?_|refine bO ?_|(refine bP ?_ ?_<;>intro hc<;>try exact zqM)|refine zqR 17 [⟨0,[],[60,61,62],[2],[],0⟩,⟨1,[],[59,61],[],[],0⟩,⟨2,[],[59,60],[],[],0⟩,⟨3,[1,2],[59],[],[2],0⟩,⟨4,[0,1,2,3],[],[],[],0⟩,⟨5,[0,1,2,3,4],[65],[],[],0⟩,⟨6,[0,1,2,3,4],[64],[],[],0⟩,⟨7,[0,1,2,3,4,5,6],[],[],[2],0⟩,⟨8,[0,1,2,3,4,5,6,7],[],[],[],0⟩] ?_|refine zqD ?_|fail)
 all_goals first
  |((refine Ends.mk2 zqI [] ?_;simp-dsimp(disch:=try exact vD) only[push_cast,simprocAttr,Tryz.f33];try exact zqF);done)
  |skip
theorem aeg(hv:ACall Tryz.prog 72 [dI z n L N e2] [] 0 (.val (.int .i64 0)) [])(hm:m≤12)(ha:ACall Tryz.prog 73 [.isl zs (cX ss) m,.val (.int .i64 n)] [] 0 (.val (.int .i64 0)) [])
 (hp:ACall Tryz.prog 74 [.isl false [.isl zt (cR ts) m,.isl zp (cR ps) n] 2] [] 0 (.val (.int .i64 0)) [])
 (hf:ACall Tryz.prog 75 (.val (.int .i64 0):: .isl zp (cR ps) n::stA n z L N e2 zs ss zt ts m) (stO n z L N e2 zs ss zt ts m) 3 (.agg (aa.cells W)) (stO n z L N e2 zs ss zt ts m)):
 ACall Tryz.prog 33 [dI z n L N e2,.isl zs (cX ss) m,.isl zt (cR ts) m,.isl zp (cR ps) n] [] 0 (.tup [.agg (aa.cells W),.val (.int .i64 0)]) []:=by
 have hv:=PLift.up hv;have ha:=PLift.up ha;have hp:=PLift.up hp;have hf':=PLift.up hf;have hr:=PLift.up (DJ (X:=W))
 clear hf
 unfold dI stA stO bD at*
 refine ak Tryz.func33 Tryz.ntmps33 rfl ?_
 repeat' (first|((first|refine bI (r:=16) 0 ?_|refine bH (r:=16) 0 ?_);refine gD ?_;intro K hK;refine hK _ _ ?_;clear hK K)|((first|refine bI (r:=16) 1 ?_|refine bH (r:=16) 1 ?_);refine gD ?_;intro K hK;refine hK _ _ ?_;clear hK K)|((first|refine bI (r:=16) 2 ?_|refine bH (r:=16) 2 ?_);refine gD ?_;intro K hK;refine hK _ _ ?_;clear hK K)|refine zqN ?_|((first|refine ay rfl (fun K hK=>?_)|refine aj (fun K hK=>?_)|refine gM [6,7] (fun K hK=>?_));refine bq (f:=75) (dst:=some 62) [6,7,5] 3 false ?_;refine jP ?_;refine⟨_,_,hf'.down,?_⟩;refine gD ?_;apply hK;clear hK K)|((first|refine ay rfl (fun K hK=>?_)|refine aj (fun K hK=>?_)|refine aA (fun K hK=>?_));(first|refine ah (f:=72) [] 0 false ?_|refine ah (f:=73) [] 0 false ?_|refine ah (f:=74) [] 0 true ?_|refine ah (f:=44) [5] 1 false ?_);refine jP ?_;(first|refine⟨_,_,hv.down,?_⟩|refine⟨_,_,ha.down,?_⟩|refine⟨_,_,hp.down,?_⟩|refine⟨_,_,hr.down,?_⟩);refine gD ?_;apply hK;clear hK K)|refine aK ?_|refine aL ?_|(refine aM ?_ ?_<;>intro hc<;>try exact zqM)|refine zqR 17 [⟨0,[],[60,61,62],[8],[],0⟩,⟨1,[],[59,61],[],[],0⟩,⟨2,[],[59,60],[],[],0⟩,⟨3,[1,2],[59],[],[8],0⟩,⟨4,[0,1,2,3],[],[],[8],0⟩,⟨5,[0,1,2,3,4],[65],[],[],0⟩,⟨6,[0,1,2,3,4],[64],[],[],0⟩,⟨7,[0,1,2,3,4,5,6],[],[],[2],0⟩,⟨8,[0,1,2,3,4,5,6,7],[],[],[],0⟩] ?_|refine zqD ?_|fail)
 all_goals first
  |((refine Ends.mk2 zqI [] ?_;simp-dsimp(disch:=try exact vD) only[push_cast,simprocAttr,Tryz.f33];try exact zqF);done)
  |skip
