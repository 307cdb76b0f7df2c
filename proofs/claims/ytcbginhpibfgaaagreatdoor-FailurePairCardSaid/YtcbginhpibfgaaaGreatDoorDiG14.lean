/- Di14 Di16 Di8 Di21. No condition. -/
import Derived.Test.YtcbginhpibfgaaaGreatDoorDiG7
set_option linter.all false
set_option maxHeartbeats 4000000
set_option maxRecDepth 20000
namespace Go.Proofs.YtcbginhpibfgaaaGreatDoor
section
open Go Go.Sy Go.Bp Go.Dg
attribute [local irreducible] AO AL AC OpT ACall Ends DGo bK Thn Blk Nxt
variable {A F F1 F2 G:List Fo} {n N M k i m r a j w u v s q t:Nat} {z:Bool} {b b1 b2:Bool} {p:Nat→Bool} {xs qs ms:List Nat} {H:sG}
theorem cX_take(hj:j<ms.length):cX (ms.take (j+1))=cX (ms.take j)++[AV.val (.int .u16 (U (ms.getD j 0)))]:=by
 rw[acC hj,WX]
end
section
open Go Go.Sy Go.Dg
attribute [local irreducible] AO AL AC OpT ACall Ends DGo bK Thn Blk Nxt
structure NL where
 l:List Nat
instance:Inhabited NL:=⟨⟨[]⟩⟩
instance:sF NL:=⟨fun a=> .isl false (cI .i64 (NI a.l)) a.l.length,fun _=>rfl,fun _=>rfl⟩
theorem oC(a:NL):sF.c a= .isl false (cI .i64 (NI a.l)) a.l.length:=rfl
variable {W a l LW HW:List Nat} {F:List Fo} {P:List NL} {n N M L D k i m r j w x c d v k1 k2 L1 L2 q:Nat} {z:Bool}
def cNs(n:Nat)(F:List Fo)(j:Nat):List NL:=(cN n F j).map NL.mk
theorem acI:(cNs n F j).length=j+2:=by unfold cNs;rw[List.length_map,mQ]
theorem ah6(h:r<j+2)(hj:j≤F.length):(cNs n F j).getD r default=⟨cAt n F r⟩:=by
 rw[←Bf (n:=n) (F:=F) h hj]
 have hl:r<(cN n F j).length:=by rw[mQ];exact h
 unfold cNs
 rw[List.getD_eq_getElem?_getD,List.getElem?_map,List.getElem?_eq_getElem hl,List.getD_eq_getElem?_getD,List.getElem?_eq_getElem hl];rfl
theorem jW:cX (cNs n F 0)=[.isl false [.val (.int .i64 0)] 1,.isl false [.val (.int .i64 1)] 1]:=rfl
theorem akU:cX (cNs n F (j+1))=cX (cNs n F j)++[.isl false (cI .i64 (NI ((cN n F (j+1)).getD (j+2) []))) ((cN n F (j+1)).getD (j+2) []).length]:=by
 have e:(cN n F (j+1)).getD (j+2) []=wJ (iT (aP n F (F.getD j default).lo-(F.getD j default).v-1) ((cN n F j).getD (F.getD j default).lo [])++[0])
  (0::iT (aP n F (F.getD j default).hi-(F.getD j default).v-1) ((cN n F j).getD (F.getD j default).hi [])):=by
  rw[cN,List.getD_eq_getElem?_getD,List.getElem?_append_right (by rw[mQ];exact Nat.le_refl _),mQ,Nat.sub_self];rfl
 rw[e]
 unfold cNs
 rw[show cN n F (j+1)=cN n F j++[_] from rfl,List.map_append]
 unfold cX
 rw[List.map_append];rfl
structure CR(n:Nat)(F:List Fo)(j:Nat)(v slo shi k1 k2 D:Nat)(a1 a2 LW HW:List Nat):Prop where
 f_v:(F.getD j default).v=v
 f_lo:aP n F (F.getD j default).lo=slo
 f_hi:aP n F (F.getD j default).hi=shi
 f_k1:slo=v+1+k1
 f_k2:shi=v+1+k2
 f_D:n=v+D
 f_D0:0<D
 f_n12:n≤12
 f_sl:slo≤12∧shi≤12∧v≤12
 f_a1:cAt n F (F.getD j default).lo=a1
 f_a2:cAt n F (F.getD j default).hi=a2
 f_l1:a1.length+k1=D
 f_l2:a2.length+k2=D
 f_b1:∀q,a1.getD q 0≤2^20
 f_b2:∀q,a2.getD q 0≤2^20
 f_w1:iT k1 a1=LW
 f_w2:iT k2 a2=HW
 f_wl1:LW.length=D
 f_wl2:HW.length=D
 f_wb1:∀q,LW.getD q 0≤2^20
 f_wb2:∀q,HW.getD q 0≤2^20
 f_nw:(cN n F (j+1)).getD (j+2) []=wJ (LW++[0]) (0::HW)
theorem akV(hg:Go.Dg.Good n F)(hn:n≤12)(hj:j<F.length):∃v slo shi k1 k2 D a1 a2 LW HW,CR n F j v slo shi k1 k2 D a1 a2 LW HW:=by
 have ho:=hg.ok j hj
 have o1:=ho.lo;have o2:=ho.hi;have o3:=ho.sl;have o4:=ho.sh;have o5:=ho.v
 have c1:=Oc hg (F.getD j default).lo (by omega)
 have c2:=Oc hg (F.getD j default).hi (by omega)
 have s1:=wK hg (show(F.getD j default).lo<F.length+2 by omega)
 have s2:=wK hg (show(F.getD j default).hi<F.length+2 by omega)
 have p1:∀x,x≤12→2^x≤2^20:=fun x hx=>Nat.pow_le_pow_right (by omega) (by omega)
 have w1:=JI (k:=aP n F (F.getD j default).lo-(F.getD j default).v-1) (.inr trivial) c1 (by omega) s1
 have w2:=JI (k:=aP n F (F.getD j default).hi-(F.getD j default).v-1) (.inr trivial) c2 (by omega) s2
 refine⟨_,_,_,aP n F (F.getD j default).lo-(F.getD j default).v-1,aP n F (F.getD j default).hi-(F.getD j default).v-1,n-(F.getD j default).v,_,_,_,_,⟨rfl,rfl,rfl,by omega,by omega,by omega,by omega,hn,⟨by omega,by omega,by omega⟩,rfl,rfl,by rw[c1.len];omega,by rw[c2.len];omega,fun q=>Nat.le_trans (c1.le q) (p1 _ (by omega)),fun q=>Nat.le_trans (c2.le q) (p1 _ (by omega)),rfl,rfl,by rw[w1.1];omega,by rw[w2.1];omega,fun q=>Nat.le_trans (w1.2 q) (p1 _ (by omega)),fun q=>Nat.le_trans (w2.2 q) (p1 _ (by omega)),?_⟩⟩
 rw[cN,List.getD_eq_getElem?_getD,List.getElem?_append_right (by rw[mQ];exact Nat.le_refl _),mQ,Nat.sub_self]
 simp only[List.getElem?_cons_zero,Option.getD_some]
 rw[Bf o1 (by omega),Bf o2 (by omega)]
abbrev dgO(z:Bool)(n:Nat)(F:List Fo)(N r:Nat):aD:= .cells [.val (.int .i64 n),.isl z (cR F) N,.val (.int .i64 r)] 29
def cnI(z:Bool)(n:Nat)(F:List Fo)(N r:Nat)(j:{j:Nat // j≤N}):St:=
 ⟨111,0,[(1,.pt 0 0),(5,.sl 1 0 (j.val+2) 1),(24,.isl z (cR F) N),(25,.val (.int .i64 N)),(26,.val (.int .i64 j.val))],[(0,some (dgO z n F N r)),(1,some (.cells (cX (cNs n F j.val)) 53))]⟩
def cnA(z:Bool)(n:Nat)(F:List Fo)(N r j D:Nat)(LW HW:List Nat)(q:{q:Nat // q≤D}):St:=
 ⟨111,0,[(1,.pt 0 0),(5,.sl 1 0 (j+2) 1),(9,.isl false (cI .i64 (NI HW)) D),(10,.sl 2 0 (D+1) 1),(24,.isl z (cR F) N),(25,.val (.int .i64 N)),(26,.val (.int .i64 j)),(65,.isl false (cI .i64 (NI LW)) D),(66,.val (.int .i64 D)),(67,.val (.int .i64 q.val))],[(0,some (dgO z n F N r)),(1,some (.cells (cX (cNs n F j)) 53)),(2,some (.cells (cI .i64 (NI (iU (D+1) (fa LW q.val)))) 2))]⟩
def cnB(z:Bool)(n:Nat)(F:List Fo)(N r j D:Nat)(LW HW:List Nat)(q:{q:Nat // q≤D}):St:=
 ⟨111,0,[(1,.pt 0 0),(5,.sl 1 0 (j+2) 1),(10,.sl 2 0 (D+1) 1),(24,.isl z (cR F) N),(25,.val (.int .i64 N)),(26,.val (.int .i64 j)),(80,.isl false (cI .i64 (NI HW)) D),(81,.val (.int .i64 D)),(82,.val (.int .i64 q.val))],[(0,some (dgO z n F N r)),(1,some (.cells (cX (cNs n F j)) 53)),(2,some (.cells (cI .i64 (NI (iU (D+1) (fb D LW HW q.val)))) 2))]⟩
theorem LD{CL:List Nat}(h:DOk n F r)(hN:F.length=N)(hCL:iT (aP n F r) (cAt n F r)=CL):ACall Tryz.prog 62 [.agg [.val (.int .i64 n),.isl z (cR F) N,.val (.int .i64 r)]] [] 0 (.tup [.isl false (cI .i64 (NI CL)) (n+1),.val (.int .i64 0)]) []:=by
 have hv:=PLift.up (tF (z:=z) h hN)
 have hN2:N<2^40:=by have:=h.few;omega
 have hrN:r<N+2:=by have:=h.lt;omega
 have hsv:=fun(x:Nat) (hx:x<N+2)=>PLift.up (nC (z:=z) (n:=n) (q:=r) hN hN2 hx)
 have hcr:=fun(j:Nat) (hj:j<N)=>akV (j:=j) h.good h.n12 (by omega)
 have hcat:=fun(j x:Nat) (hx:x<j+2) (hj:j≤N)=>ah6 (n:=n) (F:=F) (r:=x) (j:=j) hx (by omega)
 have hlt:=fun(j:Nat) (hj:j<N)=>And.intro (h.good.ok j (by omega)).lo (h.good.ok j (by omega)).hi
 have hcl:=fun j=>acI (n:=n) (F:=F) (j:=j)
 have hsr:=wK h.good (show r<F.length+2 by omega)
 have hca:=Oc h.good r (by omega)
 have hlr:(cNs n F N).getD r default=⟨cAt n F r⟩:=hcat N r hrN (Nat.le_refl _)
 obtain⟨ar,har⟩:∃ar,cAt n F r=ar:=⟨_,rfl⟩
 obtain⟨sr,hsre⟩:∃sr,aP n F r=sr:=⟨_,rfl⟩
 have hwr:ACall Tryz.prog 98 [.isl false (cI .i64 (NI ar)) ar.length,.val (.int .i64 (sr:Nat))] [] 0 (.isl false (cI .i64 (NI CL)) (n+1)) []:=by
  have hl:=hca.len
  have hb:=hca.le
  have h12:=h.n12
  have hp:2^(n-aP n F r)≤2^20:=Nat.pow_le_pow_right (by omega) (by omega)
  rw[har] at hl hb hCL
  have:=EL (a:=ar) (L:=ar.length) (k:=sr) rfl (fun q=>Nat.le_trans (hb q) hp) (by omega) (by omega)
  rw[hsre] at hCL hsr hl
  rw[hCL,show ar.length+sr=n+1 by omega] at this;exact this
 rw[har] at hlr
 have hwr:=PLift.up hwr
 have h12:=h.n12
 have hsvr:=(hsv r hrN).down
 rw[hsre] at hsvr
 have hsvr:=PLift.up hsvr
 have hcr:=PLift.up hcr
 have hcat:=PLift.up hcat
 clear h hca hsr hCL har hsre
 have hv1:=ae;have hlo:=ae;have hhi:=ae;have hk1:=ae;have hk2:=ae;have hD:=ae;have hz:=ae;have g1:=ae;have g2:=ae;have s1:=ae;have hen:=ae;have hct:=ae;have hlc:=ae;have hhc:=ae;have hfb:=ae;have hns:=ae;have hdl:=ae;have hjj:=ae
 refine ak Tryz.func62 Tryz.ntmps62 rfl ?_
 repeat' (first|((first|refine bI (r:=5) 1 ?_|refine bH (r:=5) 1 ?_);simp-dsimp(disch:=try exact vD) only[push_cast,simprocAttr,hv1,hlo,hhi,hk1,hk2,hD,hz,g1,g2,s1,hen,hct,hlc,hhc,hfb,hns,hdl,hjj,hlr,jW,oC,cz,dS,dx];(repeat refine aI ?_);intro K hK;refine hK _ _ ?_;clear hK K)|((first|refine bI (r:=5) 2 ?_|refine bH (r:=5) 2 ?_);simp-dsimp(disch:=try exact vD) only[push_cast,simprocAttr,hv1,hlo,hhi,hk1,hk2,hD,hz,g1,g2,s1,hen,hct,hlc,hhc,hfb,hns,hdl,hjj,hlr,jW,oC,cz,dS,dx];(repeat refine aI ?_);intro K hK;refine hK _ _ ?_;clear hK K)|((first|refine bI (r:=21) 2 ?_|refine bH (r:=21) 2 ?_);simp-dsimp(disch:=try exact vD) only[push_cast,simprocAttr,hv1,hlo,hhi,hk1,hk2,hD,hz,g1,g2,s1,hen,hct,hlc,hhc,hfb,hns,hdl,hjj,hlr,jW,oC,cz,dS,dx];(repeat refine aI ?_);intro K hK;refine hK _ _ ?_;clear hK K)|(refine ai ?_;refine au [0,1,3] ([0,1,3].length) (cnA z n F N r j D LW HW) (fun q=>D-q.val) (⟨0,by omega⟩) rfl (by unfold cnA;(try simp only[List.cons_append,List.nil_append]);refine Sub.mk2 ?_;(simp-dsimp(disch:=try exact vD) only[push_cast,simprocAttr,hv1,hlo,hhi,hk1,hk2,hD,hz,g1,g2,s1,hen,hct,hlc,hhc,hfb,hns,hdl,hjj,hlr,jW,oC,cz,dS,dx]);(repeat refine aI ?_);first|done|exact vI) ?_;(rintro⟨q,hq⟩;rcases Nat.lt_or_eq_of_le hq with hql|hql<;>first|(have eq:D=q:=hql.symm;subst eq;(simp-dsimp(disch:=try exact vD) only[push_cast,simprocAttr,cnA]))|(have l1:(NI LW).length=D:=(by rw[dS,hwl1]);have l2:(NI (iU (D+1) (fa LW q))).length=D+1:=(by rw[dS,dx]);have hx:=hwb1 q;have g1:=Bi (l:=LW) (j:=q) (by omega);obtain⟨x,hxe⟩:∃x,LW.getD q 0=x:=⟨_,rfl⟩;rw[hxe] at hx g1;have hcb:=aeK (j:=q) (k:=q) hwb1;have g2:=JH (f:=fa LW q) (j:=q) (m:=D+1) (by omega);have s1:(cI .i64 (NI (iU (D+1) (fa LW q)))).set q (.val (.int .i64 (((fa LW q q:Nat):Int)+(x:Int))))=cI .i64 (NI (iU (D+1) (fa LW (q+1)))):=Dv (by omega) (by rw[←hxe,fa_s];omega) (fun p hp hne=>akR hne);obtain⟨c,hce⟩:∃c,fa LW q q=c:=⟨_,rfl⟩;rw[hce] at hcb g2 s1;(simp-dsimp(disch:=try exact vD) only[push_cast,simprocAttr,cnA]))))|(refine ax ?_;refine Nxt.mk [0,1,2] (⟨q+1,by omega⟩) rfl (by unfold cnA;(try simp only[List.cons_append,List.nil_append]);refine Sub.mk2 ?_;(simp-dsimp(disch:=try exact vD) only[push_cast,simprocAttr,hv1,hlo,hhi,hk1,hk2,hD,hz,g1,g2,s1,hen,hct,hlc,hhc,hfb,hns,hdl,hjj,hlr,jW,oC,cz,dS,dx]);(repeat refine aI ?_);first|done|exact vI) (by first|omega|(dsimp only;omega)|(simp;done)|(simp;omega)))|(refine ai ?_;refine au [0,1,2] ([0,1,2].length) (cnB z n F N r j D LW HW) (fun q=>D-q.val) (⟨0,by omega⟩) rfl (by unfold cnB;(try simp only[List.cons_append,List.nil_append]);refine Sub.mk2 ?_;(simp-dsimp(disch:=try exact vD) only[push_cast,simprocAttr,hv1,hlo,hhi,hk1,hk2,hD,hz,g1,g2,s1,hen,hct,hlc,hhc,hfb,hns,hdl,hjj,hlr,jW,oC,cz,dS,dx]);(repeat refine aI ?_);first|done|exact vI) ?_;(rintro⟨q,hq⟩;rcases Nat.lt_or_eq_of_le hq with hql|hql<;>first|(have eq:D=q:=hql.symm;subst eq;(simp-dsimp(disch:=try exact vD) only[push_cast,simprocAttr,cnB]))|(have l1:(NI HW).length=D:=(by rw[dS,hwl2]);have l2:(NI (iU (D+1) (fb D LW HW q))).length=D+1:=(by rw[dS,dx]);have hx:=hwb2 q;have g1:=Bi (l:=HW) (j:=q) (by omega);obtain⟨x,hxe⟩:∃x,HW.getD q 0=x:=⟨_,rfl⟩;rw[hxe] at hx g1;have hcb:=akT (D:=D) (j:=q) (k:=q+1) hwb1 hwb2;have g2:=JH (f:=fb D LW HW q) (j:=q+1) (m:=D+1) (by omega);have s1:(cI .i64 (NI (iU (D+1) (fb D LW HW q)))).set (q+1) (.val (.int .i64 (((fb D LW HW q (q+1):Nat):Int)+(x:Int))))=cI .i64 (NI (iU (D+1) (fb D LW HW (q+1)))):=Dv (by omega) (by rw[←hxe,fb_s];omega) (fun p hp hne=>akS hne);obtain⟨c,hce⟩:∃c,fb D LW HW q (q+1)=c:=⟨_,rfl⟩;rw[hce] at hcb g2 s1;(simp-dsimp(disch:=try exact vD) only[push_cast,simprocAttr,cnB]))))|(refine ax ?_;refine Nxt.mk [0,1,2] (⟨q+1,by omega⟩) rfl (by unfold cnB;(try simp only[List.cons_append,List.nil_append]);refine Sub.mk2 ?_;(simp-dsimp(disch:=try exact vD) only[push_cast,simprocAttr,hv1,hlo,hhi,hk1,hk2,hD,hz,g1,g2,s1,hen,hct,hlc,hhc,hfb,hns,hdl,hjj,hlr,jW,oC,cz,dS,dx]);(repeat refine aI ?_);first|done|exact vI) (by first|omega|(dsimp only;omega)|(simp;done)|(simp;omega)))|(refine ai ?_;refine au [0,3] ([0,3].length) (cnI z n F N r) (fun j=>N-j.val) (⟨0,by omega⟩) rfl (by unfold cnI;(try simp only[List.cons_append,List.nil_append]);refine Sub.mk2 ?_;(simp-dsimp(disch:=try exact vD) only[push_cast,simprocAttr,hv1,hlo,hhi,hk1,hk2,hD,hz,g1,g2,s1,hen,hct,hlc,hhc,hfb,hns,hdl,hjj,hlr,jW,oC,cz,dS,dx]);(repeat refine aI ?_);first|done|exact vI) ?_;(rintro⟨j,hj⟩;rcases Nat.lt_or_eq_of_le hj with hjl|hjl<;>first|(have ej:N=j:=hjl.symm;subst ej;have hcll:=hcl N;(simp-dsimp(disch:=try exact vD) only[push_cast,simprocAttr,cnI]))|(have hcll:=hcl j;obtain⟨hll,hlh⟩:=hlt j hjl;have hsl:=hsv (F.getD j default).lo (by omega);have hsh:=hsv (F.getD j default).hi (by omega);have hlc:=hcat.down j (F.getD j default).lo hll hj;have hhc:=hcat.down j (F.getD j default).hi hlh hj;have hns:=akU (n:=n) (F:=F) (j:=j);obtain⟨v,slo,shi,k1,k2,D,a1,a2,LW,HW,C⟩:=hcr.down j hjl;have hv1:=C.f_v;have hlo:=C.f_lo;have hhi:=C.f_hi;have hD0:=C.f_D0;have hwl1:=C.f_wl1;have hwl2:=C.f_wl2;have hwb1:=C.f_wb1;have hwb2:=C.f_wb2;rw[C.f_a1] at hlc;rw[C.f_a2] at hhc;rw[hlo] at hsl;rw[hhi] at hsh;rw[C.f_nw] at hns;have hw1:=PLift.up (EL (a:=a1) (L:=a1.length) (k:=k1) rfl C.f_b1 (by have:=C.f_D;have:=C.f_l1;omega) (by have:=C.f_D;have:=C.f_l1;omega));have hw2:=PLift.up (EL (a:=a2) (L:=a2.length) (k:=k2) rfl C.f_b2 (by have:=C.f_D;have:=C.f_l2;omega) (by have:=C.f_D;have:=C.f_l2;omega));rw[C.f_w1,C.f_l1] at hw1;rw[C.f_w2,C.f_l2] at hw2;have hk1:(slo:Int)-(v:Int)-1=(k1:Int):=(by have:=C.f_k1;omega);have hk2:(shi:Int)-(v:Int)-1=(k2:Int):=(by have:=C.f_k2;omega);have hD:(n:Int)-(v:Int)+1=(D:Int)+1:=(by have:=C.f_D;omega);have hz:=LC (m:=D+1) (f:=fa LW 0) (fun q hq=>fa_0);have hfb:NI (iU (D+1) (fa LW D))=NI (iU (D+1) (fb D LW HW 0)):=(by congr 2;exact funext fun k=>fb_0.symm);have hen:NI (iU (D+1) (fb D LW HW D))=NI (wJ (LW++[0]) (0::HW)):=(by rw[Qf (by rw[rq (by simp[hwl1,hwl2]),List.length_append,hwl1];rfl) (fun k hk=>ah5 hwl1 hwl2 hk)]);have hdl:(wJ (LW++[0]) (0::HW)).length=D+1:=(by rw[rq (by simp[hwl1,hwl2]),List.length_append,hwl1];rfl);obtain⟨NW,hNW⟩:∃NW,wJ (LW++[0]) (0::HW)=NW:=⟨_,rfl⟩;rw[hNW] at hns hen hdl;rw[hdl] at hns;have hns:=hns.symm;have hjj:j+1+2=j+2+1:=(by omega);have hct:List.take (D+1) (NI NW)=NI NW:=List.take_of_length_le (by rw[dS,hdl];omega);have hD6:D≤12:=(by have:=C.f_D;have:=C.f_n12;omega);obtain⟨hb1,hb2,hb3⟩:=C.f_sl;clear C;(simp-dsimp(disch:=try exact vD) only[push_cast,simprocAttr,cnI]))))|(refine ax ?_;refine Nxt.mk [0,4] (⟨j+1,by omega⟩) rfl (by unfold cnI;(try simp only[List.cons_append,List.nil_append]);refine Sub.mk2 ?_;(simp-dsimp(disch:=try exact vD) only[push_cast,simprocAttr,hv1,hlo,hhi,hk1,hk2,hD,hz,g1,g2,s1,hen,hct,hlc,hhc,hfb,hns,hdl,hjj,hlr,jW,oC,cz,dS,dx]);(repeat refine aI ?_);first|done|exact vI) (by first|omega|(dsimp only;omega)|(simp;done)|(simp;omega)))|(refine ax ?_;refine Nxt.mk [0,1] (⟨j+1,by omega⟩) rfl (by unfold cnI;(try simp only[List.cons_append,List.nil_append]);refine Sub.mk2 ?_;(simp-dsimp(disch:=try exact vD) only[push_cast,simprocAttr,hv1,hlo,hhi,hk1,hk2,hD,hz,g1,g2,s1,hen,hct,hlc,hhc,hfb,hns,hdl,hjj,hlr,jW,oC,cz,dS,dx]);(repeat refine aI ?_);first|done|exact vI) (by first|omega|(dsimp only;omega)|(simp;done)|(simp;omega)))|(refine ax ?_;refine Nxt.mk [0,3] (⟨j+1,by omega⟩) rfl (by unfold cnI;(try simp only[List.cons_append,List.nil_append]);refine Sub.mk2 ?_;(simp-dsimp(disch:=try exact vD) only[push_cast,simprocAttr,hv1,hlo,hhi,hk1,hk2,hD,hz,g1,g2,s1,hen,hct,hlc,hhc,hfb,hns,hdl,hjj,hlr,jW,oC,cz,dS,dx]);(repeat refine aI ?_);first|done|exact vI) (by first|omega|(dsimp only;omega)|(simp;done)|(simp;omega)))|apply dG|apply aF|((first|refine ay rfl (fun K hK=>?_)|refine aj (fun K hK=>?_)|refine aA (fun K hK=>?_));(first|refine ah (f:=72) [] 0 false ?_|refine ah (f:=99) (dst:=some 38) [] 0 false ?_|refine ah (f:=99) (dst:=some 52) [] 0 false ?_|refine ah (f:=99) (dst:=some 109) [] 0 false ?_|refine ah (f:=98) (dst:=some 43) [] 0 false ?_|refine ah (f:=98) (dst:=some 57) [] 0 false ?_|refine ah (f:=98) (dst:=some 110) [] 0 false ?_);simp-dsimp(disch:=try exact vD) only[push_cast,simprocAttr,hv1,hlo,hhi,hk1,hk2,hD,hz,g1,g2,s1,hen,hct,hlc,hhc,hfb,hns,hdl,hjj,hlr,jW,oC,cz,dS,dx];(repeat refine aI ?_);intro G hG;refine hG _ _ ?_;clear hG G;(first|refine⟨_,_,hv.down,?_⟩|refine⟨_,_,hsl.down,?_⟩|refine⟨_,_,hsh.down,?_⟩|refine⟨_,_,hsvr.down,?_⟩|refine⟨_,_,hw1.down,?_⟩|refine⟨_,_,hw2.down,?_⟩|refine⟨_,_,hwr.down,?_⟩);simp-dsimp(disch:=try exact vD) only[push_cast,simprocAttr,hv1,hlo,hhi,hk1,hk2,hD,hz,g1,g2,s1,hen,hct,hlc,hhc,hfb,hns,hdl,hjj,hlr,jW,oC,cz,dS,dx];(repeat refine aI ?_);apply hK;clear hK K)|((first|refine ay rfl (fun K hK=>?_)|refine aj (fun K hK=>?_)|refine aA (fun K hK=>?_));(first|apply cO|apply aZ|apply df|apply aT|apply aW|apply bf|apply bu|apply fK|apply bZ|apply gm|apply fu|apply eG|apply aX|apply fM|apply dP|apply dm|apply bU|apply dY|apply dM);simp-dsimp(disch:=try exact vD) only[push_cast,simprocAttr,hv1,hlo,hhi,hk1,hk2,hD,hz,g1,g2,s1,hen,hct,hlc,hhc,hfb,hns,hdl,hjj,hlr,jW,oC,cz,dS,dx];(repeat refine aI ?_);apply hK;clear hK K)|((first|refine ay rfl (fun K hK=>?_)|refine aj (fun K hK=>?_)|refine aA (fun K hK=>?_));(first|apply gz);simp-dsimp(disch:=try exact vD) only[push_cast,simprocAttr,hv1,hlo,hhi,hk1,hk2,hD,hz,g1,g2,s1,hen,hct,hlc,hhc,hfb,hns,hdl,hjj,hlr,jW,oC,cz,dS,dx];(repeat refine aI ?_);apply hK;clear hK K)|((first|refine ay rfl (fun K hK=>?_)|refine aj (fun K hK=>?_)|refine aA (fun K hK=>?_));(first|apply eO);simp-dsimp(disch:=try exact vD) only[push_cast,simprocAttr,hv1,hlo,hhi,hk1,hk2,hD,hz,g1,g2,s1,hen,hct,hlc,hhc,hfb,hns,hdl,hjj,hlr,jW,oC,cz,dS,dx];(repeat refine aI ?_);apply hK;clear hK K)|((first|refine ay rfl (fun K hK=>?_)|refine aj (fun K hK=>?_)|refine aA (fun K hK=>?_));(first|apply eH);simp-dsimp(disch:=try exact vD) only[push_cast,simprocAttr,hv1,hlo,hhi,hk1,hk2,hD,hz,g1,g2,s1,hen,hct,hlc,hhc,hfb,hns,hdl,hjj,hlr,jW,oC,cz,dS,dx];(repeat refine aI ?_);apply hK;clear hK K)|((first|refine aQ rfl rfl (fun K1 K2 h1 h2=>?_) rfl|refine aJ (fun K1 K2 h1 h2=>?_)|refine bL rfl rfl (fun K1 K2 h1 h2=>?_));simp-dsimp(disch:=try exact vD) only[push_cast,simprocAttr,hv1,hlo,hhi,hk1,hk2,hD,hz,g1,g2,s1,hen,hct,hlc,hhc,hfb,hns,hdl,hjj,hlr,jW,oC,cz,dS,dx];(first|(refine⟨fun hc=>?_,fun hc=>?_⟩<;>first|(exfalso;omega)|(exfalso;contradiction)|refine h1 ?_|refine h2 ?_)|refine h1 ?_|refine h2 ?_);all_goals clear h1 h2 K1 K2)|(refine aV (id:=8) (by kernel_rfl) [⟨0,[],[31,32,35,36,37,38,39,40,41,42],[],[],0⟩,⟨1,[],[30,35,36,37,38,39,40,41,42],[],[],0⟩,⟨2,[1],[30,35,36,37,38,39,40,41,42],[],[],0⟩,⟨3,[0,1,2],[35,36,37,38,39,40,41,42],[],[],0⟩,⟨4,[0,1,2,3],[35,36,37,38,39,40,41,42],[],[],0⟩,⟨5,[],[30,31,32,33,34,36,37,39,40],[],[],0⟩,⟨6,[],[30,31,32,33,34,35,39,40],[],[],0⟩,⟨7,[6],[30,31,32,33,34,35,39,40],[],[],0⟩,⟨8,[5,6,7],[30,31,32,33,34,39,40],[],[],0⟩,⟨9,[],[30,31,32,33,34,35,36,37,38],[],[],0⟩,⟨10,[9],[30,31,32,33,34,35,36,37,38],[],[],0⟩,⟨11,[5,6,7,8,9,10],[30,31,32,33,34],[],[],0⟩,⟨12,[5,6,7,8,9,10,11],[30,31,32,33,34],[],[],0⟩,⟨13,[0,1,2,3,4,5,6,7,8,9,10,11,12],[],[],[],0⟩,⟨14,[0,1,2,3,4,5,6,7,8,9,10,11,12,13],[],[],[],0⟩] (by kernel_rfl) (by kernel_rfl) (by kernel_rfl) ?_)|(refine aV (id:=9) (by kernel_rfl) [⟨0,[],[45,46,49,50,51,52,53,54,55,56],[],[],0⟩,⟨1,[],[44,49,50,51,52,53,54,55,56],[],[],0⟩,⟨2,[1],[44,49,50,51,52,53,54,55,56],[],[],0⟩,⟨3,[0,1,2],[49,50,51,52,53,54,55,56],[],[],0⟩,⟨4,[0,1,2,3],[49,50,51,52,53,54,55,56],[],[],0⟩,⟨5,[],[44,45,46,47,48,50,51,53,54],[],[],0⟩,⟨6,[],[44,45,46,47,48,49,53,54],[],[],0⟩,⟨7,[6],[44,45,46,47,48,49,53,54],[],[],0⟩,⟨8,[5,6,7],[44,45,46,47,48,53,54],[],[],0⟩,⟨9,[],[44,45,46,47,48,49,50,51,52],[],[],0⟩,⟨10,[9],[44,45,46,47,48,49,50,51,52],[],[],0⟩,⟨11,[5,6,7,8,9,10],[44,45,46,47,48],[],[],0⟩,⟨12,[5,6,7,8,9,10,11],[44,45,46,47,48],[],[],0⟩,⟨13,[0,1,2,3,4,5,6,7,8,9,10,11,12],[],[],[],0⟩,⟨14,[0,1,2,3,4,5,6,7,8,9,10,11,12,13],[],[],[],0⟩] (by kernel_rfl) (by kernel_rfl) (by kernel_rfl) ?_)|(refine aV (id:=23) (by kernel_rfl) [⟨0,[],[102,103,106,107,108,109],[],[],0⟩,⟨1,[],[101,106,107,108,109],[],[],0⟩,⟨2,[1],[101,106,107,108,109],[],[],0⟩,⟨3,[0,1,2],[106,107,108,109],[],[],0⟩,⟨4,[0,1,2,3],[106,107,108,109],[],[],0⟩,⟨5,[],[101,102,103,104,105,107,108],[],[],0⟩,⟨6,[],[101,102,103,104,105,106],[],[],0⟩,⟨7,[6],[101,102,103,104,105,106],[],[],0⟩,⟨8,[5,6,7],[101,102,103,104,105],[],[],0⟩,⟨9,[0,1,2,3,4,5,6,7,8],[],[],[],0⟩,⟨10,[0,1,2,3,4,5,6,7,8,9],[],[],[],0⟩,⟨11,[0,1,2,3,4,5,6,7,8,9,10],[],[],[],0⟩] (by kernel_rfl) (by kernel_rfl) (by kernel_rfl) ?_)|((first|refine dW (by kernel_rfl) (fun K hK=>?_)|refine gy (by kernel_rfl) (fun K hK=>?_));simp only[↓Go.Sy.dz,↓Go.Sy.dA,↓Go.Sy.dU,↓Go.Sy.dD,↓Go.Sy.dV,↓Go.Sy.cZ,↓Go.Sy.dE,push_cast,Nat.reduceLeDiff,Nat.reduceSub,Nat.reduceBEq,Nat.reduceEqDiff,Nat.reduceAdd,Nat.reduceLT,↓reduceIte,reduceCtorEq];refine hK _ _ _ ?_;clear hK K)|apply jl|apply dH|apply aR|apply bX|apply bz|apply aS|apply bY|apply bA|(refine aY rfl ?_)|apply bB|apply bW|apply bV|apply dF)
 all_goals first
  |((refine Ends.mk2 (by first|exact .inr rfl|exact .inl rfl) [] ?_;simp-dsimp(disch:=try exact vD) only[push_cast,simprocAttr,Tryz.f62];try exact zqF);done)
  |skip
end
section
open Go Go.Sy Go.Dg
attribute [local irreducible] AO AL AC OpT ACall Ends DGo bK Thn Blk Nxt
section
variable {X:Type} [DecidableEq X]{Y:Ur X} {x:X} {n k:Nat}
theorem look_none{K:List (X×Nat)}(h:∀p∈K,¬p.1=x):iD K x=none:=by
 unfold iD
 rw[List.find?_eq_none.2 (fun p hp=>by simpa using h p hp)];rfl
end
variable {A F F1 F2 G:List Fo} {K K1 K2 K3:List (Nat×Nat)} {n N k k1 k2 k' i m r a b j w:Nat} {q:Int} {z:Bool}
end
section
open Go Go.Sy Go.Bp Go.Dg
attribute [local irreducible] AO AL AC OpT ACall Ends DGo bK Thn Blk Nxt
variable {n N M T L k i m r a b j w u v s q x y d:Nat} {z zl zr up:Bool} {xs qs B:List Nat} {l:List Int}
def twoF:List Fo:=[⟨2,0,1⟩,⟨1,0,2⟩,⟨1,2,1⟩,⟨0,3,4⟩]
abbrev i6v(x:Int):AV:= .val (.int .i64 x)
abbrev u6v(x:Int):AV:= .val (.int .u16 x)
theorem Xd:fC 3 (ahZ [3,5,6])=(twoF,5):=by decide+kernel
theorem Dw:DOk 3 twoF 5:=by
 have:=nD (n:=3) (tab:=ahZ [3,5,6]) (by omega)
 rw[Xd] at this;exact this
theorem Oe:iT (aP 3 twoF 5) (cAt 3 twoF 5)=[0,0,3,1]:=by decide+kernel
theorem ah7:cI .i64 [0,0,3,1]=[i6v 0,i6v 0,i6v 3,i6v 1]:=rfl
end
