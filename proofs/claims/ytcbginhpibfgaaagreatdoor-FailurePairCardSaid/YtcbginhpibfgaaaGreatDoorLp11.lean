/- Lp11. No condition. -/
import Derived.Test.YtcbginhpibfgaaaGreatDoorLpG9
set_option linter.all false
set_option maxHeartbeats 8000000
set_option maxRecDepth 20000
namespace Go.Proofs.YtcbginhpibfgaaaGreatDoor
open Go Go.Sy Go.Bp Go.Lm
attribute [local irreducible] AO AL AC OpT ACall Ends DGo bK Thn Blk Nxt
variable {n N M k i m j r:Nat} {z z' neg:Bool} {l a b u vl L X X' X1 Qa Qb y yl w R T:List Int} {v x d f g c rr top second qd hd x0 x1 x2 vt:Int}
theorem ac6(h1:500000000≤top∧top<1000000000)(h0:0≤hd)(h:hd≤top*1000000000+999999999):0≤hd/top∧hd/top≤1000000001∧0≤hd%top∧hd%top<1000000000∧hd=hd/top*top+hd%top:=by
 have e:=Int.mul_ediv_add_emod hd top
 have r0:=Int.emod_nonneg hd (show top≠0 by omega)
 have r1:=Int.emod_lt_of_pos hd (show 0<top by omega)
 refine⟨Int.ediv_nonneg h0 (by omega),?_,r0,by omega,by rw[Int.mul_comm];omega⟩
 refine Int.lt_add_one_iff.1 (Int.ediv_lt_of_lt_mul (by omega) ?_)
 rw[Int.mul_comm];omega
structure Rd(n M j:Nat)(yl:List Int)(top second qd:Int)(X X1 X' Qa Qb:List Int):Prop where
 h2:0≤X.getD (j+n) 0∧X.getD (j+n) 0<1000000000
 h1:0≤X.getD (j+n-1) 0∧X.getD (j+n-1) 0<1000000000
 h0:0≤X.getD (j+n-2) 0∧X.getD (j+n-2) 0<1000000000
 q0:0≤qd∧qd<1000000000
 hd:X.getD (j+n) 0*1000000000+X.getD (j+n-1) 0≤top*1000000000+999999999
 first:qd≤(X.getD (j+n) 0*1000000000+X.getD (j+n-1) 0)/top
 dec:∀g r,qd≤g→0≤r→X.getD (j+n) 0*1000000000+X.getD (j+n-1) 0=g*top+r→r*1000000000+X.getD (j+n-2) 0<g*second→qd≤g-1
 stop:∀g r,qd≤g→g<1000000000→0≤r→X.getD (j+n) 0*1000000000+X.getD (j+n-1) 0=g*top+r→(g*second≤r*1000000000+X.getD (j+n-2) 0∨1000000000≤r)→g≤qd+1
 s1:ACall Tryz.prog 163 [.sl 0 j (n+1) 1,.isl false (cI .u32 yl) n,.val (.int .u64 qd)] [.cells (cI .u32 X) 115] 1 (.val (.bool false)) [.cells (cI .u32 X') 115]
 s2:qd+1<1000000000→ACall Tryz.prog 163 [.sl 0 j (n+1) 1,.isl false (cI .u32 yl) n,.val (.int .u64 (qd+1))] [.cells (cI .u32 X) 115] 1 (.val (.bool true)) [.cells (cI .u32 X1) 115]
 s3:qd+1<1000000000→ACall Tryz.prog 164 [.sl 0 j (n+1) 1,.isl false (cI .u32 yl) n] [.cells (cI .u32 X1) 115] 1 (.tup []) [.cells (cI .u32 X') 115]
 qs:Qa.set j qd=Qb
theorem air(htop:500000000≤top∧top<1000000000)(q0:0≤qd∧qd<1000000000)(hh:hd≤top*1000000000+999999999)
 (dec:∀g r,qd≤g→0≤r→hd=g*top+r→r*1000000000+x0<g*second→qd≤g-1)
 (stop:∀g r,qd≤g→g<1000000000→0≤r→hd=g*top+r→(g*second≤r*1000000000+x0∨1000000000≤r)→g≤qd+1)
 (h1:qd≤g) (h2:0≤rr∧rr<1000000000) (h3:hd=g*top+rr):
 (g=qd∧¬1000000000≤g∧¬rr*1000000000+x0<g*second)∨(g=qd+1∧¬1000000000≤g∧¬rr*1000000000+x0<g*second)
 ∨(1000000000≤g∧¬1000000000≤rr+top∧qd≤g-1∧hd=(g-1)*top+(rr+top))∨(¬1000000000≤g∧rr*1000000000+x0<g*second∧¬1000000000≤rr+top∧qd≤g-1∧hd=(g-1)*top+(rr+top))
 ∨(1000000000≤g∧1000000000≤rr+top∧g=qd+1)∨(1000000000≤g∧1000000000≤rr+top∧g=qd+2∧qd+1<1000000000)
 ∨(¬1000000000≤g∧rr*1000000000+x0<g*second∧1000000000≤rr+top∧g=qd+1)∨(¬1000000000≤g∧rr*1000000000+x0<g*second∧1000000000≤rr+top∧g=qd+2∧qd+1<1000000000):=by
 have e3:hd=(g-1)*top+(rr+top):=by rw[Int.sub_mul,Int.one_mul];omega
 by_cases c1:1000000000≤g
 ·have hq:qd≤g-1:=by omega
  by_cases c3:1000000000≤rr+top
  ·have hlt:g-1<1000000000:=by
    refine Decidable.not_not.1 fun hc=>?_
    have:1000000000*top≤(g-1)*top:=Int.mul_le_mul_of_nonneg_right (by omega) (by omega)
    omega
   have:=stop (g-1) (rr+top) hq hlt (by omega) e3 (.inr c3)
   omega
  ·exact .inr (.inr (.inl ⟨c1,c3,hq,e3⟩))
 ·by_cases c2:rr*1000000000+x0<g*second
  ·have hq:=dec g rr h1 h2.1 h3 c2
   by_cases c3:1000000000≤rr+top
   ·have:=stop (g-1) (rr+top) hq (by omega) (by omega) e3 (.inr c3)
    omega
   ·exact .inr (.inr (.inr (.inl ⟨c1,c2,c3,hq,e3⟩)))
  ·have:=stop g rr h1 (by omega) h2.1 h3 (.inl (by omega))
   omega
theorem ais(h1:0≤g∧g≤1000000001)(h2:0≤second∧second<1000000000):0≤g*second∧g*second≤1000000000999999999:=by
 refine⟨Int.mul_nonneg h1.1 h2.1,?_⟩
 have:=Int.mul_le_mul_of_nonneg_left (show second≤999999999 by omega) h1.1
 omega
theorem a2s(x:Int):x+2-1=x+1:=by omega
def dvI(yl:List Int)(n m r:Nat)(d top second:Int)(X Q:Nat→List Int)(k:{k:Nat // k≤r}):St:=
 ⟨175,0,[(6,.val (.int .i64 n)),(9,.val (.int .u64 d)),(10,.sl 0 0 (m+1) 1),(11,.isl false (cI .u32 yl) n),(12,.val (.int .u64 top)),(13,.val (.int .u64 second)),(14,.sl 1 0 r 1),(15,.val (.int .i64 ((k.val:Int)-1)))],[(0,some (.cells (cI .u32 (X k.val)) 115)),(1,some (.cells (cI .u32 (Q k.val)) 115))]⟩
def dvJ(yl:List Int)(n m r j:Nat)(d top second hd:Int)(qd:Int)(X Qa:List Int)(p:{p:Int×Int // qd≤p.1∧p.1≤1000000001∧(0≤p.2∧p.2<1000000000)∧hd=p.1*top+p.2}):St:=
 ⟨175,0,[(6,.val (.int .i64 n)),(9,.val (.int .u64 d)),(10,.sl 0 0 (m+1) 1),(11,.isl false (cI .u32 yl) n),(12,.val (.int .u64 top)),(13,.val (.int .u64 second)),(14,.sl 1 0 r 1),(15,.val (.int .i64 j)),(17,.val (.int .u64 p.val.1)),(18,.val (.int .u64 p.val.2))],[(0,some (.cells (cI .u32 X) 115)),(1,some (.cells (cI .u32 Qa) 115))]⟩
theorem Mc{X Q:Nat→List Int} {v1:Int}(hn:2≤n)(hm:n≤m)(hm2:m<2^29)(hr:r=m-n+1)(hul:u.length=m)(hvl:vl.length=n)(hv:Lim vl)(hvt:1≤vl.getD (n-1) 0)
 (hd0:1000000000/(vl.getD (n-1) 0+1)=d) (hd1:1≤d∧d<1000000000) (hyl:yl.length=n) (htop:yl.getD (n-1) 0=top) (hsec:yl.getD (n-2) 0=second) (ht1:500000000≤top∧top<1000000000) (hs1:0≤second∧second<1000000000)
 (hc0:0≤c) (hcm:ACall Tryz.prog 135 [.isl z (cI .u32 u) m,.isl z' (cI .u32 vl) n] [] 0 (.val (.int .i64 c)) [])
 (hxs:ACall Tryz.prog 162 [.isl z (cI .u32 u) m,.val (.int .u64 d),.val (.int .i64 ((m:Int)+1))] [] 0 (.sl 0 0 (m+1) 1) [.cells (cI .u32 (X r)) 115])
 (hys:ACall Tryz.prog 162 [.isl z' (cI .u32 vl) n,.val (.int .u64 d),.val (.int .i64 n)] [] 0 (.isl false (cI .u32 yl) n) [])
 (hX:∀k,k≤r→(X k).length=m+1) (hQ:∀k,k≤r→(Q k).length=r) (hQr:List.replicate r 0=Q r)
 (hRd:∀j,j<r→∃qd X1,Rd n (m+1) j yl top second qd (X (j+1)) X1 (X j) (Q (j+1)) (Q j))
 (htr:ACall Tryz.prog 153 [.isl false (cI .u32 ((X 0).take n)) n] [] 0 (.isl false (cI .u32 R) k) []) (hsh:ACall Tryz.prog 161 [.isl false (cI .u32 R) k,.val (.int .u32 d)] [] 0 (.tup [.isl false (cI .u32 T) i,.val (.int .u32 v1)]) [])
 (htq:ACall Tryz.prog 153 [.isl false (cI .u32 (Q 0)) r] [] 0 (.isl false (cI .u32 L) M) []):
 ACall Tryz.prog 152 [.isl z (cI .u32 u) m,.isl z' (cI .u32 vl) n] [] 0 (.tup [.isl false (cI .u32 L) M,.isl false (cI .u32 T) i]) []:=by
 have hcm:=PLift.up hcm;have hxs:=PLift.up hxs;have hys:=PLift.up hys;have htr:=PLift.up htr;have hsh:=PLift.up hsh;have htq:=PLift.up htq
 have tQ:(Q 0).take r=Q 0:=List.take_of_length_le (by rw[hQ 0 (Nat.zero_le _)];exact Nat.le_refl _)
 have tX:(X 0).take (m+1)=X 0:=List.take_of_length_le (by rw[hX 0 (Nat.zero_le _)];exact Nat.le_refl _)
 have hvr:=hv.at (n-1)
 have hvz:¬vl.getD (n-1) 0+1=0:=by omega
 have htz:¬top=0:=by omega
 have hn1:((n:Int)=1)=False:=eq_false (by omega)
 have i1:((n:Int)-1).toNat=n-1:=by omega
 have i2:((n:Int)-2).toNat=n-2:=by omega
 have er:(m:Int)-n+1=r:=by omega
 have er1:(m:Int)-n=r-1:=by omega
 generalize hvt2:vl.getD (n-1) 0=vt at*
 have hc1:=ae;have hc2:=ae;have hc3:=ae;have hx2:=ae;have hx1:=ae;have hx0:=ae;have hG:=ae;have hH:=ae;have hp:=ae;have j1:=ae;have j2:=ae;have j3:=ae;have j4:=ae;have hset:=ae;have hlX:=ae;have hlQ:=ae
 refine ak Tryz.func152 Tryz.ntmps152 rfl ?_
 repeat' (first|((first|refine bI (r:=24) 0 ?_|refine bH (r:=24) 0 ?_);simp-dsimp(disch:=try exact vD) only[push_cast,simprocAttr,gd0,hvz,htz,hn1,i1,i2,er,er1,hvt2,hd0,htop,hsec,hQr,tQ,tX,a1s,a2s,hc1,hc2,hc3,hx2,hx1,hx0,hG,hH,hp,j1,j2,j3,j4,hset,hlX,hlQ];(repeat refine aI ?_);intro K hK;refine hK _ _ ?_;clear hK K)|((first|refine bI (r:=25) 1 ?_|refine bH (r:=25) 1 ?_);simp-dsimp(disch:=try exact vD) only[push_cast,simprocAttr,gd0,hvz,htz,hn1,i1,i2,er,er1,hvt2,hd0,htop,hsec,hQr,tQ,tX,a1s,a2s,hc1,hc2,hc3,hx2,hx1,hx0,hG,hH,hp,j1,j2,j3,j4,hset,hlX,hlQ];(repeat refine aI ?_);intro K hK;refine hK _ _ ?_;clear hK K)|(refine ai ?_;refine au [0,1] ([0,1].length) (dvJ yl n m r j d top second (x2*1000000000+x1) qd Xa Qa) (fun p=>p.val.1.toNat) (⟨(g0,r0),g1,g2,g3,g4⟩) rfl (by unfold dvJ;(try simp only[List.cons_append,List.nil_append]);refine Sub.mk2 ?_;(simp-dsimp(disch:=try exact vD) only[push_cast,simprocAttr,gd0,hvz,htz,hn1,i1,i2,er,er1,hvt2,hd0,htop,hsec,hQr,tQ,tX,a1s,a2s,hc1,hc2,hc3,hx2,hx1,hx0,hG,hH,hp,j1,j2,j3,j4,hset,hlX,hlQ]);(repeat refine aI ?_);first|done|exact vI) ?_;(rintro⟨⟨g,rr⟩,f1,f2,f3,f4⟩;dsimp only at f1 f2 f3 f4;have hgs:=ais (g:=g) (second:=second) ⟨by omega,f2⟩ hs1;rcases air ht1 q0 hdl dec stop f1 f3 f4 with⟨e,hc1,hc2⟩|⟨e,hc1,hc2⟩|⟨hc1,hc3,hq,f5⟩|⟨hc1,hc2,hc3,hq,f5⟩|⟨hc1,hc3,e⟩|⟨hc1,hc3,e,hc4⟩|⟨hc1,hc2,hc3,e⟩|⟨hc1,hc2,hc3,e,hc4⟩<;>((try subst e);(try(generalize hp:_*second=pp at*));(simp-dsimp(disch:=try exact vD) only[push_cast,simprocAttr,dvJ]))))|(refine ax ?_;refine Nxt.mk [0,1] (⟨(g-1,rr+top),hq,by dsimp only;omega,by dsimp only;omega,f5⟩) rfl (by unfold dvJ;(try simp only[List.cons_append,List.nil_append]);refine Sub.mk2 ?_;(simp-dsimp(disch:=try exact vD) only[push_cast,simprocAttr,gd0,hvz,htz,hn1,i1,i2,er,er1,hvt2,hd0,htop,hsec,hQr,tQ,tX,a1s,a2s,hc1,hc2,hc3,hx2,hx1,hx0,hG,hH,hp,j1,j2,j3,j4,hset,hlX,hlQ]);(repeat refine aI ?_);first|done|exact vI) (by first|omega|(dsimp only;omega)|(simp;done)|(simp;omega)))|(refine ai ?_;refine au [0,1] ([0,1].length) (dvI yl n m r d top second X Q) (fun k=>k.val) (⟨r,Nat.le_refl _⟩) rfl (by unfold dvI;(try simp only[List.cons_append,List.nil_append]);refine Sub.mk2 ?_;(simp-dsimp(disch:=try exact vD) only[push_cast,simprocAttr,gd0,hvz,htz,hn1,i1,i2,er,er1,hvt2,hd0,htop,hsec,hQr,tQ,tX,a1s,a2s,hc1,hc2,hc3,hx2,hx1,hx0,hG,hH,hp,j1,j2,j3,j4,hset,hlX,hlQ]);(repeat refine aI ?_);first|done|exact vI) ?_;(rintro⟨k,hk⟩;rcases Nat.eq_zero_or_pos k with hk0|hk0<;>first|(subst hk0;(simp-dsimp(disch:=try exact vD) only[push_cast,simprocAttr,dvI]))|(dsimp only[dvI];obtain⟨j,rfl⟩:∃j',k=j'+1:=⟨k-1,by omega⟩;obtain⟨qd,X1,⟨w2,w1,w0,q0,hdl,first,dec,stop,s1,s2,s3,hset⟩⟩:=hRd j (by omega);have s1:=PLift.up s1;have s2:=PLift.up s2;have s3:=PLift.up s3;have hlX:=hX (j+1) hk;have hlQ:=hQ (j+1) hk;have j1:((j:Int)+n).toNat=j+n:=(by omega);have j2:((j:Int)+n-1).toNat=j+n-1:=(by omega);have j3:((j:Int)+n-2).toNat=j+n-2:=(by omega);have j4:j+n+1-j=n+1:=(by omega);generalize hx2:(X (j+1)).getD (j+n) 0=x2 at*;generalize hx1:(X (j+1)).getD (j+n-1) 0=x1 at*;generalize hx0:(X (j+1)).getD (j+n-2) 0=x0 at*;have gf:=ac6 ht1 (show 0≤x2*1000000000+x1 by omega) hdl;generalize hG:(x2*1000000000+x1)/top=g0 at*;generalize hH:(x2*1000000000+x1)%top=r0 at*;obtain⟨g0',g2,g3a,g3b,g4⟩:=gf;have g3:=And.intro g3a g3b;have g1:=first;generalize hXa:X (j+1)=Xa at*;generalize hQa:Q (j+1)=Qa at*;(simp-dsimp(disch:=try exact vD) only[push_cast,simprocAttr,]))))|(refine ax ?_;refine Nxt.mk [0,1] (⟨j,by omega⟩) rfl (by unfold dvI;(try simp only[List.cons_append,List.nil_append]);refine Sub.mk2 ?_;(simp-dsimp(disch:=try exact vD) only[push_cast,simprocAttr,gd0,hvz,htz,hn1,i1,i2,er,er1,hvt2,hd0,htop,hsec,hQr,tQ,tX,a1s,a2s,hc1,hc2,hc3,hx2,hx1,hx0,hG,hH,hp,j1,j2,j3,j4,hset,hlX,hlQ]);(repeat refine aI ?_);first|done|exact vI) (by first|omega|(dsimp only;omega)|(simp;done)|(simp;omega)))|apply dG|apply aF|((first|refine ay rfl (fun K hK=>?_)|refine aj (fun K hK=>?_)|refine aA (fun K hK=>?_));(first|refine ah (f:=135) [] 0 false ?_|refine ah (f:=162) (dst:=some 56) [] 0 false ?_|refine ah (f:=162) (dst:=some 60) [] 0 false ?_|refine ah (f:=153) (dst:=some 166) [] 0 false ?_|refine ah (f:=153) (dst:=some 173) [] 0 false ?_|refine ah (f:=161) (dst:=some 169) [] 0 false ?_|refine ah (f:=164) [0] 1 false ?_);simp-dsimp(disch:=try exact vD) only[push_cast,simprocAttr,gd0,hvz,htz,hn1,i1,i2,er,er1,hvt2,hd0,htop,hsec,hQr,tQ,tX,a1s,a2s,hc1,hc2,hc3,hx2,hx1,hx0,hG,hH,hp,j1,j2,j3,j4,hset,hlX,hlQ];(repeat refine aI ?_);intro G hG;refine hG _ _ ?_;clear hG G;(first|refine⟨_,_,hcm.down,?_⟩|refine⟨_,_,hxs.down,?_⟩|refine⟨_,_,hys.down,?_⟩|refine⟨_,_,htr.down,?_⟩|refine⟨_,_,htq.down,?_⟩|refine⟨_,_,hsh.down,?_⟩|refine⟨_,_,(s3.down (by omega)),?_⟩);simp-dsimp(disch:=try exact vD) only[push_cast,simprocAttr,gd0,hvz,htz,hn1,i1,i2,er,er1,hvt2,hd0,htop,hsec,hQr,tQ,tX,a1s,a2s,hc1,hc2,hc3,hx2,hx1,hx0,hG,hH,hp,j1,j2,j3,j4,hset,hlX,hlQ];(repeat refine aI ?_);apply hK;clear hK K)|((first|refine ay rfl (fun K hK=>?_)|refine aj (fun K hK=>?_)|refine aA (fun K hK=>?_));(first|(refine ah (f:=163) [0] 1 false ?_;simp-dsimp(disch:=try exact vD) only[push_cast,simprocAttr,gd0,hvz,htz,hn1,i1,i2,er,er1,hvt2,hd0,htop,hsec,hQr,tQ,tX,a1s,a2s,hc1,hc2,hc3,hx2,hx1,hx0,hG,hH,hp,j1,j2,j3,j4,hset,hlX,hlQ];(repeat refine aI ?_);intro G hG;refine hG _ _ ?_;clear hG G;refine⟨_,_,s1.down,?_⟩;simp-dsimp(disch:=try exact vD) only[push_cast,simprocAttr,gd0,hvz,htz,hn1,i1,i2,er,er1,hvt2,hd0,htop,hsec,hQr,tQ,tX,a1s,a2s,hc1,hc2,hc3,hx2,hx1,hx0,hG,hH,hp,j1,j2,j3,j4,hset,hlX,hlQ];(repeat refine aI ?_);apply hK;clear hK K)|(refine ah (f:=163) [0] 1 false ?_;simp-dsimp(disch:=try exact vD) only[push_cast,simprocAttr,gd0,hvz,htz,hn1,i1,i2,er,er1,hvt2,hd0,htop,hsec,hQr,tQ,tX,a1s,a2s,hc1,hc2,hc3,hx2,hx1,hx0,hG,hH,hp,j1,j2,j3,j4,hset,hlX,hlQ];(repeat refine aI ?_);intro G hG;refine hG _ _ ?_;clear hG G;refine⟨_,_,(s2.down (by omega)),?_⟩;simp-dsimp(disch:=try exact vD) only[push_cast,simprocAttr,gd0,hvz,htz,hn1,i1,i2,er,er1,hvt2,hd0,htop,hsec,hQr,tQ,tX,a1s,a2s,hc1,hc2,hc3,hx2,hx1,hx0,hG,hH,hp,j1,j2,j3,j4,hset,hlX,hlQ];(repeat refine aI ?_);apply hK;clear hK K)))|((first|refine ay rfl (fun K hK=>?_)|refine aj (fun K hK=>?_)|refine aA (fun K hK=>?_));(first|apply cO|apply aZ|apply df|apply aT|apply bf|apply bu|apply fK|apply bZ|apply fA|apply eX|apply eG|apply aX|apply fM|apply dK|apply ik|apply kw|apply dP|apply dm|apply bU|apply dY);simp-dsimp(disch:=try exact vD) only[push_cast,simprocAttr,gd0,hvz,htz,hn1,i1,i2,er,er1,hvt2,hd0,htop,hsec,hQr,tQ,tX,a1s,a2s,hc1,hc2,hc3,hx2,hx1,hx0,hG,hH,hp,j1,j2,j3,j4,hset,hlX,hlQ];(repeat refine aI ?_);apply hK;clear hK K)|((first|refine ay rfl (fun K hK=>?_)|refine aj (fun K hK=>?_)|refine aA (fun K hK=>?_));(first|apply nV);simp-dsimp(disch:=try exact vD) only[push_cast,simprocAttr,gd0,hvz,htz,hn1,i1,i2,er,er1,hvt2,hd0,htop,hsec,hQr,tQ,tX,a1s,a2s,hc1,hc2,hc3,hx2,hx1,hx0,hG,hH,hp,j1,j2,j3,j4,hset,hlX,hlQ];(repeat refine aI ?_);apply hK;clear hK K)|((first|refine ay rfl (fun K hK=>?_)|refine aj (fun K hK=>?_)|refine aA (fun K hK=>?_));(first|apply jf);simp-dsimp(disch:=try exact vD) only[push_cast,simprocAttr,gd0,hvz,htz,hn1,i1,i2,er,er1,hvt2,hd0,htop,hsec,hQr,tQ,tX,a1s,a2s,hc1,hc2,hc3,hx2,hx1,hx0,hG,hH,hp,j1,j2,j3,j4,hset,hlX,hlQ];(repeat refine aI ?_);apply hK;clear hK K)|((first|refine ay rfl (fun K hK=>?_)|refine aj (fun K hK=>?_)|refine aA (fun K hK=>?_));(first|apply lK);simp-dsimp(disch:=try exact vD) only[push_cast,simprocAttr,gd0,hvz,htz,hn1,i1,i2,er,er1,hvt2,hd0,htop,hsec,hQr,tQ,tX,a1s,a2s,hc1,hc2,hc3,hx2,hx1,hx0,hG,hH,hp,j1,j2,j3,j4,hset,hlX,hlQ];(repeat refine aI ?_);apply hK;clear hK K)|((first|refine aQ rfl rfl (fun K1 K2 h1 h2=>?_) rfl|refine aJ (fun K1 K2 h1 h2=>?_)|refine bL rfl rfl (fun K1 K2 h1 h2=>?_));simp-dsimp(disch:=try exact vD) only[push_cast,simprocAttr,gd0,hvz,htz,hn1,i1,i2,er,er1,hvt2,hd0,htop,hsec,hQr,tQ,tX,a1s,a2s,hc1,hc2,hc3,hx2,hx1,hx0,hG,hH,hp,j1,j2,j3,j4,hset,hlX,hlQ];(first|(refine⟨fun hc=>?_,fun hc=>?_⟩<;>first|(exfalso;omega)|(exfalso;contradiction)|refine h1 ?_|refine h2 ?_)|refine h1 ?_|refine h2 ?_);all_goals clear h1 h2 K1 K2)|(refine aV (id:=9) (by kernel_rfl) [⟨0,[],[62,63,67,68,69,70,71,72],[],[],0⟩,⟨1,[],[61,67,68,69,70,71,72],[],[],0⟩,⟨2,[1],[61,67,68,69,70,71,72],[],[],0⟩,⟨3,[0,1,2],[67,68,69,70,71,72],[],[],0⟩,⟨4,[0,1,2,3],[67,68,69,70,71,72],[],[],0⟩,⟨5,[0,1,2,3,4],[67,68,69,70,71,72],[],[],0⟩,⟨6,[],[12,61,62,63,64,65,66,68,69],[],[],0⟩,⟨7,[],[12,61,62,63,64,65,66,67],[],[],0⟩,⟨8,[7],[12,61,62,63,64,65,66,67],[],[],0⟩,⟨9,[6,7,8],[12,61,62,63,64,65,66],[],[],0⟩,⟨10,[6,7,8,9],[12,61,62,63,64,65,66],[],[],0⟩,⟨11,[6,7,8,9,10],[12,61,62,63,64,65,66],[],[],0⟩,⟨12,[0,1,2,3,4,5],[67,68,69,70,71,72],[],[],0⟩,⟨13,[0,1,2,3,4,5,6,7,8,9,10,11,12],[],[],[],0⟩] (by kernel_rfl) (by kernel_rfl) (by kernel_rfl) ?_)|(refine aV (id:=14) (by kernel_rfl) [⟨0,[],[88,89,90,95,96,97,98,99,100,101,102],[],[],0⟩,⟨1,[],[87,89,95,96,97,98,99,100,101,102],[],[],0⟩,⟨2,[],[87,88,95,96,97,98,99,100,101,102],[],[],0⟩,⟨3,[1,2],[87,95,96,97,98,99,100,101,102],[],[],0⟩,⟨4,[0,1,2,3],[95,96,97,98,99,100,101,102],[],[],0⟩,⟨5,[0,1,2,3,4],[95,96,97,98,99,100,101,102],[],[],0⟩,⟨6,[0,1,2,3,4,5],[95,96,97,98,99,100,101,102],[],[],0⟩,⟨7,[0,1,2,3,4,5,6],[95,96,97,98,99,100,101,102],[],[],0⟩,⟨8,[],[87,88,89,90,91,92,93,94,96,97,98,99],[],[],0⟩,⟨9,[],[87,88,89,90,91,92,93,94,95,97],[],[],0⟩,⟨10,[],[87,88,89,90,91,92,93,94,95,96],[],[],0⟩,⟨11,[9,10],[87,88,89,90,91,92,93,94,95],[],[],0⟩,⟨12,[9,10,11],[87,88,89,90,91,92,93,94,95],[],[],0⟩,⟨13,[8,9,10,11,12],[87,88,89,90,91,92,93,94],[],[],0⟩,⟨14,[8,9,10,11,12,13],[87,88,89,90,91,92,93,94],[],[],0⟩,⟨15,[8,9,10,11,12,13,14],[87,88,89,90,91,92,93,94],[],[],0⟩,⟨16,[0,1,2,3,4,5,6,7,8,9,10,11,12,13,14,15],[],[],[],0⟩,⟨17,[0,1,2,3,4,5,6,7,8,9,10,11,12,13,14,15,16],[],[],[],0⟩] (by kernel_rfl) (by kernel_rfl) (by kernel_rfl) ?_)|(refine aV (id:=15) (by kernel_rfl) [⟨0,[],[105,107,108,109],[],[],0⟩,⟨1,[],[104,107,108,109],[],[],0⟩,⟨2,[0,1],[107,108,109],[],[],0⟩,⟨3,[],[17,104,105,106,108],[],[],0⟩,⟨4,[],[17,104,105,106,107],[],[],0⟩,⟨5,[3,4],[17,104,105,106],[],[],0⟩,⟨6,[0,1,2],[107,108,109],[],[],0⟩,⟨7,[0,1,2,3,4,5,6],[],[],[],0⟩] (by kernel_rfl) (by kernel_rfl) (by kernel_rfl) ?_)|((first|refine dW (by kernel_rfl) (fun K hK=>?_)|refine gy (by kernel_rfl) (fun K hK=>?_));simp only[↓Go.Sy.dz,↓Go.Sy.dA,↓Go.Sy.dU,↓Go.Sy.dD,↓Go.Sy.dV,↓Go.Sy.cZ,↓Go.Sy.dE,push_cast,Nat.reduceLeDiff,Nat.reduceSub,Nat.reduceBEq,Nat.reduceEqDiff,Nat.reduceAdd,Nat.reduceLT,↓reduceIte,reduceCtorEq];refine hK _ _ _ ?_;clear hK K)|apply jl|apply dH|apply aR|apply bX|apply bz|apply aS|apply bY|apply bA|(refine aY rfl ?_)|apply bB|apply bW|apply bV|apply dF)
 all_goals first
  |((refine Ends.mk2 (by first|exact .inr rfl|exact .inl rfl) [] ?_;simp-dsimp(disch:=try exact vD) only[push_cast,simprocAttr,Tryz.f152];try exact zqF);done)
  |skip
