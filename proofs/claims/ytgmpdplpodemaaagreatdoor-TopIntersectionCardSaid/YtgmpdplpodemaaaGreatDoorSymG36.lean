/- Sym36 Sym37 Sym40 Sym35 Sym32 Sym33 Sym34 Sym41. No condition. -/
import Derived.Test.YtgmpdplpodemaaaGreatDoorSymG20
import Derived.Laws.BytesArg
import Derived.Lib.Builder
import Derived.Lib.AppendStr
import Derived.Lib.UnsafeStr
import Derived.Laws.Externs
set_option linter.all false
namespace Go.Sy
section
def u8L:List AV→Option (List Int)
 |[]=>some []
 | .val (.int .u8 n)::l=>(u8L l).map (n:: ·)
 |_::_=>none
theorem NG:∀{cells:List AV} {ns:List Int},u8L cells=some ns→cells=ns.map fun n=>AV.val (.int .u8 n):=by
 intro cells
 induction cells with
 |nil=>intro ns h;simp[u8L] at h;subst h;rfl
 |cons x l ih=>
  intro ns h
  unfold u8L at h
  split at h
  ·rename_i he;cases he
  ·rename_i n l' he
   cases he
   cases hu:u8L l with
   |none=>rw[hu] at h;cases h
   |some ms=>
    rw[hu] at h
    simp at h
    subst h
    rw[ih hu];rfl
  ·cases h
theorem ZL{l:List Int}:u8L (cI .u8 l)=some l:=by
 induction l with
 |nil=>rfl
 |cons x l ih=>
  show(u8L (cI .u8 l)).map (x:: ·)=_
  rw[ih];rfl
attribute [push_cast] ZL
section
variable {P:Program} {Q:Exit→Nat→St→Prop} {nid:Nat} {st:St} {dst:Option Nat} {ty:TypeId} {pos:String} {af:Array Edge} {g:Option (Nat×Bool)} {K:Nat→Eff→Prop}
theorem dG{e:TypeId}(s t:TypeId)(x:Operand) [he:dK P s e] [hk:lM P e .u8] [ht:BR P t]
 (h:aH (gy st (st.op x)) fun q=>aH (u8L q.1) fun ns=>q.1.length=q.2∧K 0 ⟨.val (.string (strOfNums ns)),[]⟩):AO P ⟨dst,.convert s t x,ty,pos,af,g⟩ nid st K:=by
 obtain⟨⟨cells,m⟩,h1,ns,h2,h3,h5⟩:=h
 refine⟨0,_,.pure fun c ρ D J a w hs=>?_,h5⟩
 have hsp:=NG h2
 dsimp only at h3 hsp
 have hu:=run_underlying (P:=P) (aV he.out)
 rcases qU hs (hs.op x) h1 (es:=1) (by simpa using h3) with⟨hv,hm,hc⟩|⟨ad,cp,news,hv,hmc,hnl,hnews,hone,hrep⟩
 ·have hns:ns=[]:=by rw[hsp] at hc;simpa using hc
  subst hns
  refine⟨.string (strOfNums []),?_,.val _⟩
  have:=run_convert_bytes_nil w (P:=P) s e (aV he.out) (fq hk.out) 0 0 t (gZ ht.out)
  simp only[execOp,hv]
  simpa[this] using(by rfl:(ByteArray.empty)=strOfNums [])
 ·have hnl1:news.length=m:=by simpa using hnl
  have hn:news=ns.map (Value.int .u8):=by
   apply List.ext_getElem
   ·rw[hnl1,←h3,hsp];simp
   ·intro j g1 g2
    have hj:j<cells.length:=by omega
    have:=hrep j hj
    have e1:cells[j]= .val (.int .u8 (ns[j]'(by simpa using g2))):=by simp[hsp]
    rw[e1] at this
    have:=aG this
    rw[List.getD_eq_getElem?_getD,List.getElem?_eq_getElem g1] at this
    simpa using this
  have hl:=run_loadCells_list (P:=P) w ad news (fun j v hj=>hnews j v hj)
  rw[hnl1] at hl
  have h6:=run_convert_bytes_string (P:=P) w s t e (some ad) m cp (aV he.out) (fq hk.out) (gZ ht.out)
  have h7:=run_bytesToString (P:=P) w ad m cp ns (by rw[hl,hn])
  refine⟨.string (strOfNums ns),?_,.val _⟩
  have e2:(⟨ByteArray.empty.data++(ns.map fun n=>UInt8.ofNat n.toNat).toArray⟩:ByteArray)=strOfNums ns:=by
   unfold strOfNums;simp[ByteArray.empty,ByteArray.emptyWithCapacity];rfl
  rw[foldl_push_bytes,e2] at h7
  simp only[execOp,hv]
  rw[←h6] at h7
  simp[h7]
end
end
section
section
variable {P:Program} {Q:Exit→Nat→St→Prop} {nid:Nat} {st:St} {dst:Option Nat} {ty:TypeId} {pos:String} {af:Array Edge} {g:Option (Nat×Bool)} {K:Nat→Eff→Prop}
theorem Fj(e:TypeId)(zs:List Value)(hz:iM P e=some zs)(h1:zs.all Value.oneCell'=true):
 OpT P ⟨dst,.alloc e,ty,pos,af,g⟩ nid 1 st ⟨.pt nid 0,[(nid,some (.full (zs.map ofV) e))]⟩:= .alloc fun c ρ D J a w h=>by
 obtain⟨z,hr,hc⟩:=mr (w:=w) hz
 refine⟨.pointer (some ⟨w.heap.size,0,none⟩),w.alloc (.cells zs.toArray e),.cells zs.toArray e,zs.length,?_,gP.alloc w _,fun ρ' h1' h2'=>⟨.pt _ _ nid 0 h1',zs.toArray,(gP.alloc w _).new,rfl,List.length_map _,(y5 (J:=J) (ρ:=ρ') zs h1).2⟩⟩
 simp[execOp,Instr.alloc,hr,newVar,hc,kF]
theorem CP{n:Nat} {e0:TypeId} {zs:List Value}(e:TypeId) [ha:yG P e n e0] [hz:jB P e zs](h:zs.all Value.oneCell'=true∧K 1 ⟨.pt nid 0,[(nid,some (.full (zs.map ofV) e))]⟩):AO P ⟨dst,.alloc e,ty,pos,af,g⟩ nid st K:=
 ⟨_,_,Fj e zs hz.out h.1,h.2⟩
theorem Fp(t:TypeId)(x y:Operand)(id off n:Nat)(cs vs:List AV)(e:TypeId)(hx:st.op x= .pt id off)(ho:st.ob id=some (.full cs e))(hy:(st.op y).parts=some vs)(hs:vs.all AV.scalar=true)
 (hz:siz P t=some n) (hn:vs.length=n) (hlt:off+n≤cs.length):
 OpT P ⟨dst,.store t x y,ty,pos,af,g⟩ nid 0 st ⟨.any,[(id,some (.full (spl cs off vs) e))]⟩:=OpT.modify ho fun c ρ D J a w b s h hρ hob hJ=>by
 obtain⟨arr,ha,hsz,hcl,hcr⟩:=hob
 obtain⟨h1,h2⟩:=oF (h.op y) hy hs
 have hxv:=h.op x
 rw[hx] at hxv
 generalize hv:a.eval x=v at hxv
 cases hxv with
 |pt b' s' _ _ hρ'=>
  rw[hρ] at hρ';cases hρ'
  have hcr':CRep w J ρ arr cs:=⟨by omega,hcr⟩
  have hcells:∀v∈(a.eval y).cells.toList,v.oneCell'=true:=by
   intro u hu
   obtain⟨j,hj,rfl⟩:=List.getElem_of_mem hu
   have hj':j<vs.length:=by rw[←h1];simpa using hj
   have:=(h2 j hj').1
   simpa[Array.getD,h1,hj'] using this
  have hlen:(a.eval y).cells.toList.length=vs.length:=by simpa using h1
  have hst:=run_storeCells_at P b off e (a.eval y).cells.toList 0 arr w ha (by omega) hcells
  simp only[Nat.add_zero] at hst
  have hsp:=hcr'.splice (avs:=vs) (vs:=(a.eval y).cells.toList) (off:=off) hlen (fun j hj=>by
   have:=h2 j hj
   rwa [show(a.eval y).cells.toList.getD j undef=(a.eval y).cells.getD j undef by simp[List.getD_eq_getElem?_getD,Array.getD_eq_getD_getElem?]]) (by omega) (by omega)
  refine⟨.skip,w.setRow b (arr.toList.take off++(a.eval y).cells.toList++arr.toList.drop (off+(a.eval y).cells.toList.length)).toArray,undef,?_,.inr ⟨rfl,rfl⟩,?_,?_,?_,?_,?_,fun hi=>⟨.any _,_,setRow_heap w b arr _ e _ ha,?_,?_,?_⟩⟩
  ·simp only[execOp,hv,Instr.storeAt,Instr.sureAddr,storeVar,Sem.run_bind,Sem.run_pure,Result.andThen_ok,cK hz,h1,hn,ne_eq,not_true,if_false]
   rw[hst];rfl
  ·simp
  ·rfl
  ·rfl
  ·rfl
  ·intro k hk;exact setRow_other w b k _ hk
  ·rw[hsp.2];exact hsz
  ·show(spl cs off vs).length=s
   unfold spl
   rw[List.length_append,List.length_append,List.length_take,List.length_drop];omega
  ·exact(hsp.1.imp hi).2
theorem jk{n:Nat}(t:TypeId)(x y:Operand) [hz:fF P t n](h:aH (Ag (st.op x)) fun p=>aH (uf (st.ob p.1)) fun q=>aH (st.op y).parts fun vs=>vs.all AV.scalar=true∧vs.length=n∧p.2+n≤q.1.length∧
 K 0 ⟨.any,[(p.1,some (.full (uM q.1 p.2 vs) q.2))]⟩):AO P ⟨dst,.store t x y,ty,pos,af,g⟩ nid st K:=by
 obtain⟨p,h1,q,h2,vs,h3,h4,h5,h6,h7⟩:=h
 rw[y9 _ _ _ (by omega)] at h7
 exact⟨_,_,Fp t x y _ _ _ _ vs _ (oJ h1) (ug h2) h3 h4 hz.out h5 h6,h7⟩
theorem Fq(t e:TypeId)(x:Operand)(lo hi:Option Operand)(id n es:Nat)(l u:Int)(cs:List AV)(e':TypeId)(ht:wV P t=some (n,e))(hs:siz P e=some es)(hx:st.op x= .pt id 0)(ho:st.ob id=some (.full cs e'))(hcs:cs.length=n*es)(hl:bq st 0 lo=some l)(hu:bq st n hi=some u)
 (h1:0≤l) (h2:l≤u) (h3:u≤n) (h4:l<n):
 OpT P ⟨dst,.slice t x lo hi none,ty,pos,af,g⟩ nid 0 st ⟨.sl id (l.toNat*es) (u.toNat-l.toNat) es,[]⟩:= .pure fun c ρ D J a w h=>by
 have hr:=h.op x;rw[hx] at hr
 have hty:=kw ht
 obtain⟨b,s,q1,q2,q3,q4⟩:=h.obj id _ ho
 obtain⟨arr,ha,hsz,hcl,_⟩:=q2
 generalize hv:a.eval x=v at hr
 cases hr with
 |pt b' s' _ _ hρ=>
  rw[q1] at hρ;cases hρ
  have hb:=ic (P:=P) h false n n lo hi l u hl hu h1 h2 h3
  refine⟨.slice (some ⟨b,l.toNat*es,none⟩) (u.toNat-l.toNat) (n-l.toNat),?_,.sl b s id _ _ es (n-l.toNat) q1 (by omega) ?_⟩
  ·simp only[execOp,hv,Instr.sliceAt,Instr.sureAddr,Sem.run_bind,run_underlying hty,Result.andThen_ok,Option.map_none,hb,Sem.run_pure,cK hs]
   rw[if_neg (by omega)];simp[Addr.add_lit]
  ·rw[←Nat.add_mul,show l.toNat+(n-l.toNat)=n by omega];omega
theorem rF{n es:Nat} {e:TypeId}(t:TypeId)(x:Operand)(lo hi:Option Operand) [ht:yG P t n e] [hs:fF P e es](h:aH (Ag (st.op x)) fun p=>aH (uf (st.ob p.1)) fun q=>aH (bq st 0 lo) fun l=>aH (bq st n hi) fun u=>p.2=0∧q.1.length=n*es∧(0≤l∧l≤u∧u≤n)∧l<n∧
 K 0 ⟨.sl p.1 (l.toNat*es) (u.toNat-l.toNat) es,[]⟩):AO P ⟨dst,.slice t x lo hi none,ty,pos,af,g⟩ nid st K:=by
 obtain⟨⟨id,off⟩,h1,q,h2,l,h3,u,h4,h5,h6,⟨h7,h8,h9⟩,h10,h11⟩:=h
 dsimp only at h5 h2 h11
 subst h5
 exact⟨_,_,Fq t e x lo hi id n es l u q.1 q.2 ht.out hs.out (oJ h1) (ug h2) h6 h3 h4 h7 h8 h9 h10,h11⟩
theorem xJ(t:TypeId)(l c':Operand)(e:TypeId)(es by':Nat)(zs:List Value)(kl kc:IntKind)(n:Int)(he:iL P t=some e)(hs:siz P e=some es)(hzs:iM P e=some zs)(hzl:zs.length=es)(h1:zs.all Value.oneCell'=true)
 (hb:byt P e=some by') (hl:st.op l= .val (.int kl 0)) (hc:st.op c'= .val (.int kc n)) (h0:0≤n) (hn:n≤9223372036854775807) (hbytes:(by':Int)*n≤281474976710656):
 OpT P ⟨dst,.makeSlice t l c',ty,pos,af,g⟩ nid 1 st ⟨.sl nid 0 0 es,[(nid,some (.cells [] e))]⟩:= .alloc fun c ρ D J a w h=>by
 have e1:=h.op l;have e2:=h.op c'
 rw[hl] at e1;rw[hc] at e2
 have e1:=aG e1;have e2:=aG e2
 obtain⟨i,z,hi,his,hz,hzc⟩:=jN hs hzs
 have hb':i.bytes=by':=by unfold byt at hb;simpa[hi] using hb
 have hr:=run_make (P:=P) w t e i z (aV he) hi hz kl kc 0 n (Int.le_refl _) h0 (by rw[hb'];exact hbytes) hn
 have hcr:=fun ρ':Rho=>oG (w:=w.alloc (.cells (madeCells z.cells (n.toNat*i.size)) e)) (J:=J) (ρ:=ρ') hzc h1 n.toNat
 refine⟨.slice (some ⟨w.heap.size,0,none⟩) 0 n.toNat,_,_,n.toNat*es,?_,gP.alloc w (.cells (madeCells z.cells (n.toNat*i.size)) e),fun ρ' h1' h2'=>⟨.sl _ _ nid 0 0 es n.toNat h1' (Nat.zero_le _) (by omega),madeCells z.cells (n.toNat*i.size),(gP.alloc w _).new,?_,Nat.zero_le _,fun j hj=>absurd hj (Nat.not_lt_zero j),?_⟩⟩
 ·simp[execOp,e1,e2,hr]
 ·rw[size_madeCells,his]
 ·have:=(hcr ρ').2.2
  rw[hzl,←his] at this
  exact this
theorem mJ{e:TypeId} {es by':Nat} {zs:List Value}(t:TypeId)(l c:Operand) [he:dK P t e] [hs:fF P e es] [hb:tq P e by'] [hz:jB P e zs]
 (h:aH (jg (st.op l)) fun n=>aH (jg (st.op c)) fun n'=>n=0∧zs.length=es∧zs.all Value.oneCell'=true∧0≤n'∧n'≤9223372036854775807∧(by':Int)*n'≤281474976710656∧
   K 1 ⟨.sl nid 0 0 es,[(nid,some (.cells [] e))]⟩):AO P ⟨dst,.makeSlice t l c,ty,pos,af,g⟩ nid st K:=by
 obtain⟨n,h1,n',h2,rfl,h3,h4,h5,h6,h7,h8⟩:=h
 obtain⟨k1,hk1⟩:=gK h1;obtain⟨k2,hk2⟩:=gK h2
 exact⟨_,_,xJ t l c e es by' zs k1 k2 n' he.out hs.out hz.out h3 h4 hb.out hk1 hk2 h5 h6 h7,h8⟩
end
theorem Kr{n:Nat} {cs:List AV} {e:TypeId}:Aa n (.full cs e)=∀x∈cs,bnd n x:=rfl
theorem CQ{cs:List AV} {e:TypeId}:kH (.full cs e)=∀x∈cs,noImm x:=rfl
attribute [push_cast] Kr CQ
end
section
abbrev Fs{P:Program} {f:FuncId} {a:List AV} {o o':List aC} {m:Nat} {r:AV}(_:PLift (ACall P f a o m r o')):FuncId:=f
theorem j5{p q:Prop}(k:q)(h:PLift q→p:=by(intro zz;simp-dsimp(disch:=try exact vD) only[push_cast,simprocAttr];(repeat refine aI ?_);exact zz.down)):p:=h ⟨k⟩
theorem bA{p q:Prop}(k:q)(h:PLift q→p:=by(intro zz;(first|refine ax rfl (fun K hK=>?_)|refine ak (fun K hK=>?_)|refine aJ (fun K hK=>?_));(first|apply bM|apply aR|apply bU|apply aO|apply dF|apply bi|apply bJ|apply fu|apply fP|apply bO|apply fw|apply fM|apply fO|apply di|apply eY|apply dH|apply zm|apply lC|apply iw|apply aP|apply gz|apply dL|apply il|apply jO|apply jh|apply iF|apply iQ|apply iY|apply bR|apply bu|apply aU|apply dE|apply bS|apply fA);simp-dsimp(disch:=try exact vD) only[push_cast,simprocAttr];(repeat refine aI ?_);(first|refine hK _ _ _ ?_|refine hK _ _ ?_);exact zz.down)):p:=h ⟨k⟩
theorem l5{p q:Prop}(k:q)(h:PLift q→p:=by(intro zz;(first|refine ax rfl (fun K hK=>?_)|refine ak (fun K hK=>?_)|refine aJ (fun K hK=>?_));(first|apply mI|apply kJ|apply dV|apply lD|apply gF);simp-dsimp(disch:=try exact vD) only[push_cast,simprocAttr];(repeat refine aI ?_);(first|refine hK _ _ _ ?_|refine hK _ _ ?_);exact zz.down)):p:=h ⟨k⟩
theorem nk{p q:Prop}(k:q)(h:PLift q→p:=by(intro zz;(first|refine ax rfl (fun K hK=>?_)|refine ak (fun K hK=>?_)|refine aJ (fun K hK=>?_));(first|apply df|apply iq);simp-dsimp(disch:=try exact vD) only[push_cast,simprocAttr];(repeat refine aI ?_);(first|refine hK _ _ _ ?_|refine hK _ _ ?_);exact zz.down)):p:=h ⟨k⟩
theorem nA{p q:Prop}(k:q)(h:PLift q→p:=by(intro zz;(first|refine ax rfl (fun K hK=>?_)|refine ak (fun K hK=>?_)|refine aJ (fun K hK=>?_));(first|apply cZ|apply jP);simp-dsimp(disch:=try exact vD) only[push_cast,simprocAttr];(repeat refine aI ?_);(first|refine hK _ _ _ ?_|refine hK _ _ ?_);exact zz.down)):p:=h ⟨k⟩
theorem aT{p q cT:Prop}(c:cT)(k:q)(h:PLift cT→PLift q→p:=by(intro cc zz;(first|refine ax rfl (fun K hK=>?_)|refine ak (fun K hK=>?_)|refine aJ (fun K hK=>?_));refine ah (f:=Fs cc) [] 0 false ?_;simp-dsimp(disch:=try exact vD) only[push_cast,simprocAttr];(repeat refine aI ?_);intro G hG;refine hG _ _ ?_;clear hG G;refine⟨_,_,cc.down,?_⟩;simp-dsimp(disch:=try exact vD) only[push_cast,simprocAttr];(repeat refine aI ?_);(first|refine hK _ _ _ ?_|refine hK _ _ ?_);exact zz.down)):p:=h ⟨c⟩ ⟨k⟩
theorem nG{p q:Prop}(k:q)(h:PLift q→p:=by(intro zz;simp-dsimp(disch:=try exact vD) only[push_cast,simprocAttr];(repeat refine aI ?_);intro G hG;refine hG _ _ ?_;exact zz.down)):p:=h ⟨k⟩
theorem bB{p q:Prop}(k:q)(h:PLift q→p:=by(intro zz;(first|refine aK rfl rfl (fun K1 K2 h1 h2=>?_) rfl|refine aF (fun K1 K2 h1 h2=>?_)|refine cO rfl rfl (fun K1 K2 h1 h2=>?_));simp-dsimp(disch:=try exact vD) only[push_cast,simprocAttr];(first|refine h1 ?_|refine h2 ?_);exact zz.down)):p:=h ⟨k⟩
theorem bC{p q r:Prop}(k1:q)(k2:r)(h:PLift q→PLift r→p:=by(intro z1 z2;(first|refine aK rfl rfl (fun K1 K2 h1 h2=>?_) rfl|refine aF (fun K1 K2 h1 h2=>?_)|refine cO rfl rfl (fun K1 K2 h1 h2=>?_));simp-dsimp(disch:=try exact vD) only[push_cast,simprocAttr];refine⟨fun hc=>?_,fun hc=>?_⟩;(refine h1 ?_;revert hc;exact z1.down);(refine h2 ?_;revert hc;exact z2.down))):p:=h ⟨k1⟩ ⟨k2⟩
theorem nU{p:Prop}(h:p:=by((try simp only[List.cons_append,List.nil_append]);refine Sub.mk2 ?_;(simp-dsimp(disch:=try exact vD) only[push_cast,simprocAttr]);(repeat refine aI ?_);(first|done|(first|exact vI|fail)))):p:=h
theorem rG{p q:Prop}(k:q)(h:PLift q→p:=by(intro zz;simp-dsimp(disch:=try exact vD) only[push_cast,simprocAttr,zx1,zx2,zx3];(repeat refine aI ?_);exact zz.down)):p:=h ⟨k⟩
theorem dx{p q:Prop}(k:q)(h:PLift q→p:=by(intro zz;(first|refine ax rfl (fun K hK=>?_)|refine ak (fun K hK=>?_)|refine aJ (fun K hK=>?_));(first|apply bM|apply aR|apply bU|apply aO|apply dF|apply bi|apply bJ|apply fu|apply fP|apply bO|apply fw|apply fM|apply fO|apply di|apply eY|apply dH|apply zm|apply lC|apply iw|apply aP|apply gz|apply dL|apply il|apply jO|apply jh|apply iF|apply iQ|apply iY|apply bR|apply bu|apply aU|apply dE|apply bS|apply fA);simp-dsimp(disch:=try exact vD) only[push_cast,simprocAttr,zx1,zx2,zx3];(repeat refine aI ?_);(first|refine hK _ _ _ ?_|refine hK _ _ ?_);exact zz.down)):p:=h ⟨k⟩
theorem p8{p q:Prop}(k:q)(h:PLift q→p:=by(intro zz;(first|refine ax rfl (fun K hK=>?_)|refine ak (fun K hK=>?_)|refine aJ (fun K hK=>?_));(first|apply mI|apply kJ|apply dV|apply lD|apply gF);simp-dsimp(disch:=try exact vD) only[push_cast,simprocAttr,zx1,zx2,zx3];(repeat refine aI ?_);(first|refine hK _ _ _ ?_|refine hK _ _ ?_);exact zz.down)):p:=h ⟨k⟩
theorem p9{p q:Prop}(k:q)(h:PLift q→p:=by(intro zz;(first|refine ax rfl (fun K hK=>?_)|refine ak (fun K hK=>?_)|refine aJ (fun K hK=>?_));(first|apply df|apply iq);simp-dsimp(disch:=try exact vD) only[push_cast,simprocAttr,zx1,zx2,zx3];(repeat refine aI ?_);(first|refine hK _ _ _ ?_|refine hK _ _ ?_);exact zz.down)):p:=h ⟨k⟩
theorem qa{p q:Prop}(k:q)(h:PLift q→p:=by(intro zz;(first|refine ax rfl (fun K hK=>?_)|refine ak (fun K hK=>?_)|refine aJ (fun K hK=>?_));(first|apply cZ|apply jP);simp-dsimp(disch:=try exact vD) only[push_cast,simprocAttr,zx1,zx2,zx3];(repeat refine aI ?_);(first|refine hK _ _ _ ?_|refine hK _ _ ?_);exact zz.down)):p:=h ⟨k⟩
theorem eG{p q cT:Prop}(c:cT)(k:q)(h:PLift cT→PLift q→p:=by(intro cc zz;(first|refine ax rfl (fun K hK=>?_)|refine ak (fun K hK=>?_)|refine aJ (fun K hK=>?_));refine ah (f:=Fs cc) [] 0 false ?_;simp-dsimp(disch:=try exact vD) only[push_cast,simprocAttr,zx1,zx2,zx3];(repeat refine aI ?_);intro G hG;refine hG _ _ ?_;clear hG G;refine⟨_,_,cc.down,?_⟩;simp-dsimp(disch:=try exact vD) only[push_cast,simprocAttr,zx1,zx2,zx3];(repeat refine aI ?_);(first|refine hK _ _ _ ?_|refine hK _ _ ?_);exact zz.down)):p:=h ⟨c⟩ ⟨k⟩
theorem Am{p q:Prop}(k:q)(h:PLift q→p:=by(intro zz;simp-dsimp(disch:=try exact vD) only[push_cast,simprocAttr,zx1,zx2,zx3];(repeat refine aI ?_);intro G hG;refine hG _ _ ?_;exact zz.down)):p:=h ⟨k⟩
theorem dz{p q:Prop}(k:q)(h:PLift q→p:=by(intro zz;(first|refine aK rfl rfl (fun K1 K2 h1 h2=>?_) rfl|refine aF (fun K1 K2 h1 h2=>?_)|refine cO rfl rfl (fun K1 K2 h1 h2=>?_));simp-dsimp(disch:=try exact vD) only[push_cast,simprocAttr,zx1,zx2,zx3];(first|refine h1 ?_|refine h2 ?_);exact zz.down)):p:=h ⟨k⟩
theorem dA{p q r:Prop}(k1:q)(k2:r)(h:PLift q→PLift r→p:=by(intro z1 z2;(first|refine aK rfl rfl (fun K1 K2 h1 h2=>?_) rfl|refine aF (fun K1 K2 h1 h2=>?_)|refine cO rfl rfl (fun K1 K2 h1 h2=>?_));simp-dsimp(disch:=try exact vD) only[push_cast,simprocAttr,zx1,zx2,zx3];refine⟨fun hc=>?_,fun hc=>?_⟩;(refine h1 ?_;revert hc;exact z1.down);(refine h2 ?_;revert hc;exact z2.down))):p:=h ⟨k1⟩ ⟨k2⟩
theorem eH{p:Prop}(h:p:=by((try simp only[List.cons_append,List.nil_append]);refine Sub.mk2 ?_;(simp-dsimp(disch:=try exact vD) only[push_cast,simprocAttr,zx1,zx2,zx3]);(repeat refine aI ?_);(first|done|(first|exact vI|fail)))):p:=h
theorem rH{p q:Prop}(k:q)(h:PLift q→p:=by(intro zz;simp-dsimp(disch:=try exact vD) only[push_cast,simprocAttr,zx1,zx2,zx3,zx4,zx5,zx6];(repeat refine aI ?_);exact zz.down)):p:=h ⟨k⟩
theorem adH{p q:Prop}(k:q)(h:PLift q→p:=by(intro zz;(first|refine ax rfl (fun K hK=>?_)|refine ak (fun K hK=>?_)|refine aJ (fun K hK=>?_));(first|apply bM|apply aR|apply bU|apply aO|apply dF|apply bi|apply bJ|apply fu|apply fP|apply bO|apply fw|apply fM|apply fO|apply di|apply eY|apply dH|apply zm|apply lC|apply iw|apply aP|apply gz|apply dL|apply il|apply jO|apply jh|apply iF|apply iQ|apply iY|apply bR|apply bu|apply aU|apply dE|apply bS|apply fA);simp-dsimp(disch:=try exact vD) only[push_cast,simprocAttr,zx1,zx2,zx3,zx4,zx5,zx6];(repeat refine aI ?_);(first|refine hK _ _ _ ?_|refine hK _ _ ?_);exact zz.down)):p:=h ⟨k⟩
theorem NH{p q:Prop}(k:q)(h:PLift q→p:=by(intro zz;(first|refine ax rfl (fun K hK=>?_)|refine ak (fun K hK=>?_)|refine aJ (fun K hK=>?_));(first|apply mI|apply kJ|apply dV|apply lD|apply gF);simp-dsimp(disch:=try exact vD) only[push_cast,simprocAttr,zx1,zx2,zx3,zx4,zx5,zx6];(repeat refine aI ?_);(first|refine hK _ _ _ ?_|refine hK _ _ ?_);exact zz.down)):p:=h ⟨k⟩
theorem NI{p q:Prop}(k:q)(h:PLift q→p:=by(intro zz;(first|refine ax rfl (fun K hK=>?_)|refine ak (fun K hK=>?_)|refine aJ (fun K hK=>?_));(first|apply df|apply iq);simp-dsimp(disch:=try exact vD) only[push_cast,simprocAttr,zx1,zx2,zx3,zx4,zx5,zx6];(repeat refine aI ?_);(first|refine hK _ _ _ ?_|refine hK _ _ ?_);exact zz.down)):p:=h ⟨k⟩
theorem NJ{p q:Prop}(k:q)(h:PLift q→p:=by(intro zz;(first|refine ax rfl (fun K hK=>?_)|refine ak (fun K hK=>?_)|refine aJ (fun K hK=>?_));(first|apply cZ|apply jP);simp-dsimp(disch:=try exact vD) only[push_cast,simprocAttr,zx1,zx2,zx3,zx4,zx5,zx6];(repeat refine aI ?_);(first|refine hK _ _ _ ?_|refine hK _ _ ?_);exact zz.down)):p:=h ⟨k⟩
theorem qC{p q cT:Prop}(c:cT)(k:q)(h:PLift cT→PLift q→p:=by(intro cc zz;(first|refine ax rfl (fun K hK=>?_)|refine ak (fun K hK=>?_)|refine aJ (fun K hK=>?_));refine ah (f:=Fs cc) [] 0 false ?_;simp-dsimp(disch:=try exact vD) only[push_cast,simprocAttr,zx1,zx2,zx3,zx4,zx5,zx6];(repeat refine aI ?_);intro G hG;refine hG _ _ ?_;clear hG G;refine⟨_,_,cc.down,?_⟩;simp-dsimp(disch:=try exact vD) only[push_cast,simprocAttr,zx1,zx2,zx3,zx4,zx5,zx6];(repeat refine aI ?_);(first|refine hK _ _ _ ?_|refine hK _ _ ?_);exact zz.down)):p:=h ⟨c⟩ ⟨k⟩
theorem CR{p q:Prop}(k:q)(h:PLift q→p:=by(intro zz;simp-dsimp(disch:=try exact vD) only[push_cast,simprocAttr,zx1,zx2,zx3,zx4,zx5,zx6];(repeat refine aI ?_);intro G hG;refine hG _ _ ?_;exact zz.down)):p:=h ⟨k⟩
theorem l7{p q:Prop}(k:q)(h:PLift q→p:=by(intro zz;(first|refine aK rfl rfl (fun K1 K2 h1 h2=>?_) rfl|refine aF (fun K1 K2 h1 h2=>?_)|refine cO rfl rfl (fun K1 K2 h1 h2=>?_));simp-dsimp(disch:=try exact vD) only[push_cast,simprocAttr,zx1,zx2,zx3,zx4,zx5,zx6];(first|refine h1 ?_|refine h2 ?_);exact zz.down)):p:=h ⟨k⟩
theorem l8{p q r:Prop}(k1:q)(k2:r)(h:PLift q→PLift r→p:=by(intro z1 z2;(first|refine aK rfl rfl (fun K1 K2 h1 h2=>?_) rfl|refine aF (fun K1 K2 h1 h2=>?_)|refine cO rfl rfl (fun K1 K2 h1 h2=>?_));simp-dsimp(disch:=try exact vD) only[push_cast,simprocAttr,zx1,zx2,zx3,zx4,zx5,zx6];refine⟨fun hc=>?_,fun hc=>?_⟩;(refine h1 ?_;revert hc;exact z1.down);(refine h2 ?_;revert hc;exact z2.down))):p:=h ⟨k1⟩ ⟨k2⟩
theorem gG{p:Prop}(h:p:=by((try simp only[List.cons_append,List.nil_append]);refine Sub.mk2 ?_;(simp-dsimp(disch:=try exact vD) only[push_cast,simprocAttr,zx1,zx2,zx3,zx4,zx5,zx6]);(repeat refine aI ?_);(first|done|(first|exact vI|fail)))):p:=h
theorem qD{p q:Prop}(k:q)(h:PLift q→p:=by(intro zz;simp-dsimp(disch:=try exact vD) only[push_cast,simprocAttr,zx1,zx2,zx3,zx4,zx5,zx6,zx7,zx8,zx9];(repeat refine aI ?_);exact zz.down)):p:=h ⟨k⟩
theorem rJ{p q:Prop}(k:q)(h:PLift q→p:=by(intro zz;(first|refine ax rfl (fun K hK=>?_)|refine ak (fun K hK=>?_)|refine aJ (fun K hK=>?_));(first|apply bM|apply aR|apply bU|apply aO|apply dF|apply bi|apply bJ|apply fu|apply fP|apply bO|apply fw|apply fM|apply fO|apply di|apply eY|apply dH|apply zm|apply lC|apply iw|apply aP|apply gz|apply dL|apply il|apply jO|apply jh|apply iF|apply iQ|apply iY|apply bR|apply bu|apply aU|apply dE|apply bS|apply fA);simp-dsimp(disch:=try exact vD) only[push_cast,simprocAttr,zx1,zx2,zx3,zx4,zx5,zx6,zx7,zx8,zx9];(repeat refine aI ?_);(first|refine hK _ _ _ ?_|refine hK _ _ ?_);exact zz.down)):p:=h ⟨k⟩
theorem rM{p q:Prop}(k:q)(h:PLift q→p:=by(intro zz;(first|refine ax rfl (fun K hK=>?_)|refine ak (fun K hK=>?_)|refine aJ (fun K hK=>?_));(first|apply mI|apply kJ|apply dV|apply lD|apply gF);simp-dsimp(disch:=try exact vD) only[push_cast,simprocAttr,zx1,zx2,zx3,zx4,zx5,zx6,zx7,zx8,zx9];(repeat refine aI ?_);(first|refine hK _ _ _ ?_|refine hK _ _ ?_);exact zz.down)):p:=h ⟨k⟩
theorem rO{p q:Prop}(k:q)(h:PLift q→p:=by(intro zz;(first|refine ax rfl (fun K hK=>?_)|refine ak (fun K hK=>?_)|refine aJ (fun K hK=>?_));(first|apply df|apply iq);simp-dsimp(disch:=try exact vD) only[push_cast,simprocAttr,zx1,zx2,zx3,zx4,zx5,zx6,zx7,zx8,zx9];(repeat refine aI ?_);(first|refine hK _ _ _ ?_|refine hK _ _ ?_);exact zz.down)):p:=h ⟨k⟩
theorem rP{p q:Prop}(k:q)(h:PLift q→p:=by(intro zz;(first|refine ax rfl (fun K hK=>?_)|refine ak (fun K hK=>?_)|refine aJ (fun K hK=>?_));(first|apply cZ|apply jP);simp-dsimp(disch:=try exact vD) only[push_cast,simprocAttr,zx1,zx2,zx3,zx4,zx5,zx6,zx7,zx8,zx9];(repeat refine aI ?_);(first|refine hK _ _ _ ?_|refine hK _ _ ?_);exact zz.down)):p:=h ⟨k⟩
theorem kY{p q cT:Prop}(c:cT)(k:q)(h:PLift cT→PLift q→p:=by(intro cc zz;(first|refine ax rfl (fun K hK=>?_)|refine ak (fun K hK=>?_)|refine aJ (fun K hK=>?_));refine ah (f:=Fs cc) [] 0 false ?_;simp-dsimp(disch:=try exact vD) only[push_cast,simprocAttr,zx1,zx2,zx3,zx4,zx5,zx6,zx7,zx8,zx9];(repeat refine aI ?_);intro G hG;refine hG _ _ ?_;clear hG G;refine⟨_,_,cc.down,?_⟩;simp-dsimp(disch:=try exact vD) only[push_cast,simprocAttr,zx1,zx2,zx3,zx4,zx5,zx6,zx7,zx8,zx9];(repeat refine aI ?_);(first|refine hK _ _ _ ?_|refine hK _ _ ?_);exact zz.down)):p:=h ⟨c⟩ ⟨k⟩
theorem NK{p q:Prop}(k:q)(h:PLift q→p:=by(intro zz;simp-dsimp(disch:=try exact vD) only[push_cast,simprocAttr,zx1,zx2,zx3,zx4,zx5,zx6,zx7,zx8,zx9];(repeat refine aI ?_);intro G hG;refine hG _ _ ?_;exact zz.down)):p:=h ⟨k⟩
theorem rT{p q:Prop}(k:q)(h:PLift q→p:=by(intro zz;(first|refine aK rfl rfl (fun K1 K2 h1 h2=>?_) rfl|refine aF (fun K1 K2 h1 h2=>?_)|refine cO rfl rfl (fun K1 K2 h1 h2=>?_));simp-dsimp(disch:=try exact vD) only[push_cast,simprocAttr,zx1,zx2,zx3,zx4,zx5,zx6,zx7,zx8,zx9];(first|refine h1 ?_|refine h2 ?_);exact zz.down)):p:=h ⟨k⟩
theorem rU{p q r:Prop}(k1:q)(k2:r)(h:PLift q→PLift r→p:=by(intro z1 z2;(first|refine aK rfl rfl (fun K1 K2 h1 h2=>?_) rfl|refine aF (fun K1 K2 h1 h2=>?_)|refine cO rfl rfl (fun K1 K2 h1 h2=>?_));simp-dsimp(disch:=try exact vD) only[push_cast,simprocAttr,zx1,zx2,zx3,zx4,zx5,zx6,zx7,zx8,zx9];refine⟨fun hc=>?_,fun hc=>?_⟩;(refine h1 ?_;revert hc;exact z1.down);(refine h2 ?_;revert hc;exact z2.down))):p:=h ⟨k1⟩ ⟨k2⟩
theorem dM{p:Prop}(h:p:=by((try simp only[List.cons_append,List.nil_append]);refine Sub.mk2 ?_;(simp-dsimp(disch:=try exact vD) only[push_cast,simprocAttr,zx1,zx2,zx3,zx4,zx5,zx6,zx7,zx8,zx9]);(repeat refine aI ?_);(first|done|(first|exact vI|fail)))):p:=h
theorem CS{p q:Prop}(k:q)(h:PLift q→p:=by(intro zz;simp-dsimp(disch:=try exact vD) only[push_cast,simprocAttr,zx1,zx2,zx3,zx4,zx5,zx6,zx7,zx8,zx9,zx10,zx11,zx12];(repeat refine aI ?_);exact zz.down)):p:=h ⟨k⟩
theorem jV{p q:Prop}(k:q)(h:PLift q→p:=by(intro zz;(first|refine ax rfl (fun K hK=>?_)|refine ak (fun K hK=>?_)|refine aJ (fun K hK=>?_));(first|apply bM|apply aR|apply bU|apply aO|apply dF|apply bi|apply bJ|apply fu|apply fP|apply bO|apply fw|apply fM|apply fO|apply di|apply eY|apply dH|apply zm|apply lC|apply iw|apply aP|apply gz|apply dL|apply il|apply jO|apply jh|apply iF|apply iQ|apply iY|apply bR|apply bu|apply aU|apply dE|apply bS|apply fA);simp-dsimp(disch:=try exact vD) only[push_cast,simprocAttr,zx1,zx2,zx3,zx4,zx5,zx6,zx7,zx8,zx9,zx10,zx11,zx12];(repeat refine aI ?_);(first|refine hK _ _ _ ?_|refine hK _ _ ?_);exact zz.down)):p:=h ⟨k⟩
theorem Fu{p q:Prop}(k:q)(h:PLift q→p:=by(intro zz;(first|refine ax rfl (fun K hK=>?_)|refine ak (fun K hK=>?_)|refine aJ (fun K hK=>?_));(first|apply mI|apply kJ|apply dV|apply lD|apply gF);simp-dsimp(disch:=try exact vD) only[push_cast,simprocAttr,zx1,zx2,zx3,zx4,zx5,zx6,zx7,zx8,zx9,zx10,zx11,zx12];(repeat refine aI ?_);(first|refine hK _ _ _ ?_|refine hK _ _ ?_);exact zz.down)):p:=h ⟨k⟩
theorem Fv{p q:Prop}(k:q)(h:PLift q→p:=by(intro zz;(first|refine ax rfl (fun K hK=>?_)|refine ak (fun K hK=>?_)|refine aJ (fun K hK=>?_));(first|apply df|apply iq);simp-dsimp(disch:=try exact vD) only[push_cast,simprocAttr,zx1,zx2,zx3,zx4,zx5,zx6,zx7,zx8,zx9,zx10,zx11,zx12];(repeat refine aI ?_);(first|refine hK _ _ _ ?_|refine hK _ _ ?_);exact zz.down)):p:=h ⟨k⟩
theorem Fw{p q:Prop}(k:q)(h:PLift q→p:=by(intro zz;(first|refine ax rfl (fun K hK=>?_)|refine ak (fun K hK=>?_)|refine aJ (fun K hK=>?_));(first|apply cZ|apply jP);simp-dsimp(disch:=try exact vD) only[push_cast,simprocAttr,zx1,zx2,zx3,zx4,zx5,zx6,zx7,zx8,zx9,zx10,zx11,zx12];(repeat refine aI ?_);(first|refine hK _ _ _ ?_|refine hK _ _ ?_);exact zz.down)):p:=h ⟨k⟩
theorem bW{p q cT:Prop}(c:cT)(k:q)(h:PLift cT→PLift q→p:=by(intro cc zz;(first|refine ax rfl (fun K hK=>?_)|refine ak (fun K hK=>?_)|refine aJ (fun K hK=>?_));refine ah (f:=Fs cc) [] 0 false ?_;simp-dsimp(disch:=try exact vD) only[push_cast,simprocAttr,zx1,zx2,zx3,zx4,zx5,zx6,zx7,zx8,zx9,zx10,zx11,zx12];(repeat refine aI ?_);intro G hG;refine hG _ _ ?_;clear hG G;refine⟨_,_,cc.down,?_⟩;simp-dsimp(disch:=try exact vD) only[push_cast,simprocAttr,zx1,zx2,zx3,zx4,zx5,zx6,zx7,zx8,zx9,zx10,zx11,zx12];(repeat refine aI ?_);(first|refine hK _ _ _ ?_|refine hK _ _ ?_);exact zz.down)):p:=h ⟨c⟩ ⟨k⟩
theorem jW{p q:Prop}(k:q)(h:PLift q→p:=by(intro zz;(first|refine aK rfl rfl (fun K1 K2 h1 h2=>?_) rfl|refine aF (fun K1 K2 h1 h2=>?_)|refine cO rfl rfl (fun K1 K2 h1 h2=>?_));simp-dsimp(disch:=try exact vD) only[push_cast,simprocAttr,zx1,zx2,zx3,zx4,zx5,zx6,zx7,zx8,zx9,zx10,zx11,zx12];(first|refine h1 ?_|refine h2 ?_);exact zz.down)):p:=h ⟨k⟩
theorem jX{p q r:Prop}(k1:q)(k2:r)(h:PLift q→PLift r→p:=by(intro z1 z2;(first|refine aK rfl rfl (fun K1 K2 h1 h2=>?_) rfl|refine aF (fun K1 K2 h1 h2=>?_)|refine cO rfl rfl (fun K1 K2 h1 h2=>?_));simp-dsimp(disch:=try exact vD) only[push_cast,simprocAttr,zx1,zx2,zx3,zx4,zx5,zx6,zx7,zx8,zx9,zx10,zx11,zx12];refine⟨fun hc=>?_,fun hc=>?_⟩;(refine h1 ?_;revert hc;exact z1.down);(refine h2 ?_;revert hc;exact z2.down))):p:=h ⟨k1⟩ ⟨k2⟩
theorem bX{p:Prop}(h:p:=by((try simp only[List.cons_append,List.nil_append]);refine Sub.mk2 ?_;(simp-dsimp(disch:=try exact vD) only[push_cast,simprocAttr,zx1,zx2,zx3,zx4,zx5,zx6,zx7,zx8,zx9,zx10,zx11,zx12]);(repeat refine aI ?_);(first|done|(first|exact vI|fail)))):p:=h
theorem acy{p q:Prop}(k:q)(h:PLift q→p:=by(intro zz;simp-dsimp(disch:=try exact vD) only[push_cast,simprocAttr,zx1,zx2,zx3,zx4,zx5,zx6,zx7,zx8,zx9,zx10,zx11,zx12,zx13,zx14,zx15,zx16];(repeat refine aI ?_);exact zz.down)):p:=h ⟨k⟩
theorem NM{p q:Prop}(k:q)(h:PLift q→p:=by(intro zz;(first|refine ax rfl (fun K hK=>?_)|refine ak (fun K hK=>?_)|refine aJ (fun K hK=>?_));(first|apply bM|apply aR|apply bU|apply aO|apply dF|apply bi|apply bJ|apply fu|apply fP|apply bO|apply fw|apply fM|apply fO|apply di|apply eY|apply dH|apply zm|apply lC|apply iw|apply aP|apply gz|apply dL|apply il|apply jO|apply jh|apply iF|apply iQ|apply iY|apply bR|apply bu|apply aU|apply dE|apply bS|apply fA);simp-dsimp(disch:=try exact vD) only[push_cast,simprocAttr,zx1,zx2,zx3,zx4,zx5,zx6,zx7,zx8,zx9,zx10,zx11,zx12,zx13,zx14,zx15,zx16];(repeat refine aI ?_);(first|refine hK _ _ _ ?_|refine hK _ _ ?_);exact zz.down)):p:=h ⟨k⟩
theorem ZM{p q:Prop}(k:q)(h:PLift q→p:=by(intro zz;(first|refine ax rfl (fun K hK=>?_)|refine ak (fun K hK=>?_)|refine aJ (fun K hK=>?_));(first|apply mI|apply kJ|apply dV|apply lD|apply gF);simp-dsimp(disch:=try exact vD) only[push_cast,simprocAttr,zx1,zx2,zx3,zx4,zx5,zx6,zx7,zx8,zx9,zx10,zx11,zx12,zx13,zx14,zx15,zx16];(repeat refine aI ?_);(first|refine hK _ _ _ ?_|refine hK _ _ ?_);exact zz.down)):p:=h ⟨k⟩
theorem ZN{p q:Prop}(k:q)(h:PLift q→p:=by(intro zz;(first|refine ax rfl (fun K hK=>?_)|refine ak (fun K hK=>?_)|refine aJ (fun K hK=>?_));(first|apply df|apply iq);simp-dsimp(disch:=try exact vD) only[push_cast,simprocAttr,zx1,zx2,zx3,zx4,zx5,zx6,zx7,zx8,zx9,zx10,zx11,zx12,zx13,zx14,zx15,zx16];(repeat refine aI ?_);(first|refine hK _ _ _ ?_|refine hK _ _ ?_);exact zz.down)):p:=h ⟨k⟩
theorem ZO{p q:Prop}(k:q)(h:PLift q→p:=by(intro zz;(first|refine ax rfl (fun K hK=>?_)|refine ak (fun K hK=>?_)|refine aJ (fun K hK=>?_));(first|apply cZ|apply jP);simp-dsimp(disch:=try exact vD) only[push_cast,simprocAttr,zx1,zx2,zx3,zx4,zx5,zx6,zx7,zx8,zx9,zx10,zx11,zx12,zx13,zx14,zx15,zx16];(repeat refine aI ?_);(first|refine hK _ _ _ ?_|refine hK _ _ ?_);exact zz.down)):p:=h ⟨k⟩
theorem NN{p q cT:Prop}(c:cT)(k:q)(h:PLift cT→PLift q→p:=by(intro cc zz;(first|refine ax rfl (fun K hK=>?_)|refine ak (fun K hK=>?_)|refine aJ (fun K hK=>?_));refine ah (f:=Fs cc) [] 0 false ?_;simp-dsimp(disch:=try exact vD) only[push_cast,simprocAttr,zx1,zx2,zx3,zx4,zx5,zx6,zx7,zx8,zx9,zx10,zx11,zx12,zx13,zx14,zx15,zx16];(repeat refine aI ?_);intro G hG;refine hG _ _ ?_;clear hG G;refine⟨_,_,cc.down,?_⟩;simp-dsimp(disch:=try exact vD) only[push_cast,simprocAttr,zx1,zx2,zx3,zx4,zx5,zx6,zx7,zx8,zx9,zx10,zx11,zx12,zx13,zx14,zx15,zx16];(repeat refine aI ?_);(first|refine hK _ _ _ ?_|refine hK _ _ ?_);exact zz.down)):p:=h ⟨c⟩ ⟨k⟩
theorem NP{p q:Prop}(k:q)(h:PLift q→p:=by(intro zz;(first|refine aK rfl rfl (fun K1 K2 h1 h2=>?_) rfl|refine aF (fun K1 K2 h1 h2=>?_)|refine cO rfl rfl (fun K1 K2 h1 h2=>?_));simp-dsimp(disch:=try exact vD) only[push_cast,simprocAttr,zx1,zx2,zx3,zx4,zx5,zx6,zx7,zx8,zx9,zx10,zx11,zx12,zx13,zx14,zx15,zx16];(first|refine h1 ?_|refine h2 ?_);exact zz.down)):p:=h ⟨k⟩
theorem NQ{p q r:Prop}(k1:q)(k2:r)(h:PLift q→PLift r→p:=by(intro z1 z2;(first|refine aK rfl rfl (fun K1 K2 h1 h2=>?_) rfl|refine aF (fun K1 K2 h1 h2=>?_)|refine cO rfl rfl (fun K1 K2 h1 h2=>?_));simp-dsimp(disch:=try exact vD) only[push_cast,simprocAttr,zx1,zx2,zx3,zx4,zx5,zx6,zx7,zx8,zx9,zx10,zx11,zx12,zx13,zx14,zx15,zx16];refine⟨fun hc=>?_,fun hc=>?_⟩;(refine h1 ?_;revert hc;exact z1.down);(refine h2 ?_;revert hc;exact z2.down))):p:=h ⟨k1⟩ ⟨k2⟩
theorem nC{p:Prop}(h:p:=by((try simp only[List.cons_append,List.nil_append]);refine Sub.mk2 ?_;(simp-dsimp(disch:=try exact vD) only[push_cast,simprocAttr,zx1,zx2,zx3,zx4,zx5,zx6,zx7,zx8,zx9,zx10,zx11,zx12,zx13,zx14,zx15,zx16]);(repeat refine aI ?_);(first|done|(first|exact vI|fail)))):p:=h
theorem Hy{p q:Prop}(k:q)(h:PLift q→p:=by(intro zz;simp-dsimp(disch:=try exact vD) only[push_cast,simprocAttr,zx1,zx2,zx3,zx4,zx5,zx6,zx7,zx8,zx9,zx10,zx11,zx12,zx13,zx14,zx15,zx16,zx17,zx18,zx19,zx20];(repeat refine aI ?_);exact zz.down)):p:=h ⟨k⟩
theorem Hz{p q:Prop}(k:q)(h:PLift q→p:=by(intro zz;(first|refine ax rfl (fun K hK=>?_)|refine ak (fun K hK=>?_)|refine aJ (fun K hK=>?_));(first|apply bM|apply aR|apply bU|apply aO|apply dF|apply bi|apply bJ|apply fu|apply fP|apply bO|apply fw|apply fM|apply fO|apply di|apply eY|apply dH|apply zm|apply lC|apply iw|apply aP|apply gz|apply dL|apply il|apply jO|apply jh|apply iF|apply iQ|apply iY|apply bR|apply bu|apply aU|apply dE|apply bS|apply fA);simp-dsimp(disch:=try exact vD) only[push_cast,simprocAttr,zx1,zx2,zx3,zx4,zx5,zx6,zx7,zx8,zx9,zx10,zx11,zx12,zx13,zx14,zx15,zx16,zx17,zx18,zx19,zx20];(repeat refine aI ?_);(first|refine hK _ _ _ ?_|refine hK _ _ ?_);exact zz.down)):p:=h ⟨k⟩
theorem Fx{p q:Prop}(k:q)(h:PLift q→p:=by(intro zz;(first|refine ax rfl (fun K hK=>?_)|refine ak (fun K hK=>?_)|refine aJ (fun K hK=>?_));(first|apply mI|apply kJ|apply dV|apply lD|apply gF);simp-dsimp(disch:=try exact vD) only[push_cast,simprocAttr,zx1,zx2,zx3,zx4,zx5,zx6,zx7,zx8,zx9,zx10,zx11,zx12,zx13,zx14,zx15,zx16,zx17,zx18,zx19,zx20];(repeat refine aI ?_);(first|refine hK _ _ _ ?_|refine hK _ _ ?_);exact zz.down)):p:=h ⟨k⟩
theorem Fy{p q:Prop}(k:q)(h:PLift q→p:=by(intro zz;(first|refine ax rfl (fun K hK=>?_)|refine ak (fun K hK=>?_)|refine aJ (fun K hK=>?_));(first|apply df|apply iq);simp-dsimp(disch:=try exact vD) only[push_cast,simprocAttr,zx1,zx2,zx3,zx4,zx5,zx6,zx7,zx8,zx9,zx10,zx11,zx12,zx13,zx14,zx15,zx16,zx17,zx18,zx19,zx20];(repeat refine aI ?_);(first|refine hK _ _ _ ?_|refine hK _ _ ?_);exact zz.down)):p:=h ⟨k⟩
theorem Fz{p q:Prop}(k:q)(h:PLift q→p:=by(intro zz;(first|refine ax rfl (fun K hK=>?_)|refine ak (fun K hK=>?_)|refine aJ (fun K hK=>?_));(first|apply cZ|apply jP);simp-dsimp(disch:=try exact vD) only[push_cast,simprocAttr,zx1,zx2,zx3,zx4,zx5,zx6,zx7,zx8,zx9,zx10,zx11,zx12,zx13,zx14,zx15,zx16,zx17,zx18,zx19,zx20];(repeat refine aI ?_);(first|refine hK _ _ _ ?_|refine hK _ _ ?_);exact zz.down)):p:=h ⟨k⟩
theorem WL{p q cT:Prop}(c:cT)(k:q)(h:PLift cT→PLift q→p:=by(intro cc zz;(first|refine ax rfl (fun K hK=>?_)|refine ak (fun K hK=>?_)|refine aJ (fun K hK=>?_));refine ah (f:=Fs cc) [] 0 false ?_;simp-dsimp(disch:=try exact vD) only[push_cast,simprocAttr,zx1,zx2,zx3,zx4,zx5,zx6,zx7,zx8,zx9,zx10,zx11,zx12,zx13,zx14,zx15,zx16,zx17,zx18,zx19,zx20];(repeat refine aI ?_);intro G hG;refine hG _ _ ?_;clear hG G;refine⟨_,_,cc.down,?_⟩;simp-dsimp(disch:=try exact vD) only[push_cast,simprocAttr,zx1,zx2,zx3,zx4,zx5,zx6,zx7,zx8,zx9,zx10,zx11,zx12,zx13,zx14,zx15,zx16,zx17,zx18,zx19,zx20];(repeat refine aI ?_);(first|refine hK _ _ _ ?_|refine hK _ _ ?_);exact zz.down)):p:=h ⟨c⟩ ⟨k⟩
theorem NR{p q:Prop}(k:q)(h:PLift q→p:=by(intro zz;simp-dsimp(disch:=try exact vD) only[push_cast,simprocAttr,zx1,zx2,zx3,zx4,zx5,zx6,zx7,zx8,zx9,zx10,zx11,zx12,zx13,zx14,zx15,zx16,zx17,zx18,zx19,zx20];(repeat refine aI ?_);intro G hG;refine hG _ _ ?_;exact zz.down)):p:=h ⟨k⟩
theorem HV{p q:Prop}(k:q)(h:PLift q→p:=by(intro zz;(first|refine aK rfl rfl (fun K1 K2 h1 h2=>?_) rfl|refine aF (fun K1 K2 h1 h2=>?_)|refine cO rfl rfl (fun K1 K2 h1 h2=>?_));simp-dsimp(disch:=try exact vD) only[push_cast,simprocAttr,zx1,zx2,zx3,zx4,zx5,zx6,zx7,zx8,zx9,zx10,zx11,zx12,zx13,zx14,zx15,zx16,zx17,zx18,zx19,zx20];(first|refine h1 ?_|refine h2 ?_);exact zz.down)):p:=h ⟨k⟩
theorem HY{p q r:Prop}(k1:q)(k2:r)(h:PLift q→PLift r→p:=by(intro z1 z2;(first|refine aK rfl rfl (fun K1 K2 h1 h2=>?_) rfl|refine aF (fun K1 K2 h1 h2=>?_)|refine cO rfl rfl (fun K1 K2 h1 h2=>?_));simp-dsimp(disch:=try exact vD) only[push_cast,simprocAttr,zx1,zx2,zx3,zx4,zx5,zx6,zx7,zx8,zx9,zx10,zx11,zx12,zx13,zx14,zx15,zx16,zx17,zx18,zx19,zx20];refine⟨fun hc=>?_,fun hc=>?_⟩;(refine h1 ?_;revert hc;exact z1.down);(refine h2 ?_;revert hc;exact z2.down))):p:=h ⟨k1⟩ ⟨k2⟩
theorem gW{p:Prop}(h:p:=by((try simp only[List.cons_append,List.nil_append]);refine Sub.mk2 ?_;(simp-dsimp(disch:=try exact vD) only[push_cast,simprocAttr,zx1,zx2,zx3,zx4,zx5,zx6,zx7,zx8,zx9,zx10,zx11,zx12,zx13,zx14,zx15,zx16,zx17,zx18,zx19,zx20]);(repeat refine aI ?_);(first|done|(first|exact vI|fail)))):p:=h
theorem zqO{p:Prop}(h:p:=by(first|omega|(dsimp only;omega)|(simp;done)|(simp;omega))):p:=h
theorem zqN{p q:Prop}(k:q)(h:PLift q→p:=by(intro zz;(first|refine bZ ?_|refine aB ?_|refine cu ?_|refine aL ?_|refine bH ?_|refine aX ?_|refine aM ?_|refine bI ?_|refine aY ?_|refine aQ rfl ?_|refine aZ ?_|refine bG ?_|refine bF ?_|refine bY ?_);exact zz.down)):p:=h ⟨k⟩
theorem zqD{p q:Prop}(k:q)(h:PLift q→p:=by(intro zz;(first|apply pY|((first|refine iP (by kernel_rfl) (fun K hK=>?_)|refine kI (by kernel_rfl) (fun K hK=>?_));simp only[↓Go.Sy.fH,↓Go.Sy.fI,↓Go.Sy.ig,↓Go.Sy.fJ,↓Go.Sy.ik,↓Go.Sy.eT,↓Go.Sy.fK,push_cast,Nat.reduceLeDiff,Nat.reduceSub,Nat.reduceBEq,Nat.reduceEqDiff,Nat.reduceAdd,Nat.reduceLT,↓reduceIte,reduceCtorEq];refine hK _ _ _ ?_));exact zz.down)):p:=h ⟨k⟩
theorem zqS{p q:Prop}(k:q)(h:PLift q→p:=by(intro zz;simp-dsimp(disch:=try exact vD) only[push_cast,simprocAttr];exact zz.down)):p:=h ⟨k⟩
theorem zqI{p:Prop}(h:p:=by(first|exact .inr rfl|exact .inl rfl)):p:=h
def zqdm:Nat:=0
theorem aD:zqdm=0:=rfl
theorem zqM{p:Prop}(h:p:=by(exfalso;first|omega|contradiction)):p:=h
theorem zqF{p:Prop}(h:p:=by((repeat refine aI ?_);first|done|exact vI)):p:=h
theorem zqR{P:Program} {Q:Exit→Nat→St→Prop} {nid n m:Nat} {env:List (Nat×AV)} {objs:List (Nat×Option aC)} {l:List Oper}(id:Nat)(sds:List Sd)(h:DGo P l.toArray nid ⟨n,m,env,objs⟩ (fun its=>Q .normal (dC nid its) (bf (fun _=>true) 0 its ⟨n,m,env,objs⟩)) [] (l.zip sds))(hm:P.follows .mixedOrders=true:=by kernel_rfl)(hl:sds.length=l.length:=by kernel_rfl)(hB:xn (l.zip sds) n=true:=by kernel_rfl)(hlt:qZ nid objs=true:=by kernel_rfl):AC P (.region id l.toArray true) Q nid ⟨n,m,env,objs⟩:=dw hm sds hl hB hlt h
theorem az{P:Program} {f:FuncId} {fn:Func} {code:Code} {args:List AV} {objs:List aC} {m N:Nat} {r:AV} {objs':List aC} {q:Prop}(hf:P.funcs[f]? =some fn)(hN:fn.ntmps=N)(hb:fn.body=some code)(k:q)(h:PLift q→AC P code (fun e _ st=>Ends P fn objs m r objs' e st) objs.length (ni N m args objs):=by(intro zz;simp only[ni,idx,List.length,List.map_cons,List.map_nil,List.append_nil,List.cons_append,List.nil_append,Nat.reduceAdd,Nat.zero_add,List.length_cons,List.length_nil];exact zz.down))(hn:args.length≤N:=by simp)(hm:m≤objs.length:=by simp):ACall P f args objs m r objs':=by subst hN;exact ACall.enter hf hb hn hm (h ⟨k⟩)
end
section
open Go.ChangeShapes Go.WideShapes Go.ChangeAt Go.RowKit
theorem Kt{H:Type} {enc:TypeId×Value→H} {C:Checked} {os:Os} {f:FuncId} {fn:Func} {s:ChangeSpec} {tb:TypeId} {X:World→Array Value→Prop}
 (own:ownKnob C.prog.godebug=none) (started:os.Started) (noInit:C.prog.inits.idxOf? f=none) (hfn:C.prog.funcs[f]? =some fn)
 (witness:∃(w:World) (tape:Tape) (i:Input),w.os=os∧(w.forCall tape i).Shaped C.prog∧i.vars=[]∧Input.okWide C.prog (w.forCall tape i) .any w.heap.size f i∧
   ((s.pre enc C.prog fn [] false (w.forCall tape i).memory i.args∧X (w.forCall tape i).memory i.args)∧sizedMet enc C.prog fn (OpenSpec.ofChange s) false (w.forCall tape i).memory i.args)∧Assume.holds {} C.prog (lone (Frame.enter C.prog f i.args .normal) [] (w.forCall tape i)))
 (K:Kids C.prog (· <C.prog.types.size)) (hz:∀t e,t<C.prog.types.size→C.prog.underlying t=some (.slice e)→0<C.prog.cellsOf e) (hts:fn.params.toList.all (fun t=>decide (t<C.prog.types.size))=true)
 (hvars:s.vars=[]) (hres:fn.resultTypes= #[tb]) (hbool:C.prog.underlying tb=some .bool)
 (hspec:∀ds:List (DataW H),ds.length=fn.params.toList.length→s.fn H ds=⟨[.lit (.bool true)],ds,[]⟩)
 (law:∀(W:World) (base:Nat) (args:Array Value) (ds:List (DataW H)) (p:List MemPlace),X W.memory args→(∀(j:Nat) t v,fn.params[j]? =some t→args[j]? =some v→Value.okWide C.prog W .any base t v)→
   DataW.TrodAll enc C.prog W 0 (fun _=>true) true fn.params.toList args.toList ds p→(∀k∈DataW.weightsEach C.prog fn.params.toList ds,k≤reachBytes)→
   Calls C.prog f args W fun e W'=>e= .returned (.bool true)∧More W W'):
 ReturnsInHanded {} C os f .any (fun w args=>(s.pre enc C.prog fn [] false w args∧X w args)∧sizedMet enc C.prog fn (OpenSpec.ofChange s) false w args) (s.post enc C.prog fn false true false false):=by
 refine returnsInHanded_of_calls own started noInit witness ?_
 intro w tape i _ _ _ hok hpre _
 obtain⟨_,_,_,fn',hfn',_,_,_,_,hval⟩:=hok
 have e:fn'=fn:=Option.some.inj (hfn'.symm.trans hfn)
 subst e
 obtain⟨⟨⟨ds,gs,before,hw,_⟩,hX⟩,hsz⟩:=hpre
 have hW:=DataW.Whole.of_heap (w':=w.forCall tape i) (by rfl) hw
 have hwt:=hsz.weights hw
 have hW':=hW
 obtain⟨p,q,hA,hV,rfl,_,_⟩:=hW'
 rw[hvars] at hV
 obtain⟨rfl,rfl⟩:=trodVars_none hV
 have hlen:ds.length=fn'.params.toList.length:=by
  have key:∀{ts:List TypeId} {vs:List Value} {ds:List (DataW H)} {ps:List MemPlace},DataW.TrodAll enc C.prog (w.forCall tape i) 0 (fun _=>true) true ts vs ds ps→ds.length=ts.length:=by
   intro ts
   induction ts with
   |nil=>intro vs ds ps h;obtain⟨_,rfl,_⟩:=trodAll_nil h;rfl
   |cons t ts ih=>intro vs ds ps h;obtain⟨v,vs1,d,ds1,a,b,_,rfl,_,_,h2⟩:=trodAll_cons h;simp[ih h2]
  exact key hA
 refine(law (w.forCall tape i) w.heap.size i.args ds p hX hval hA (fun k hk=>?_)).mono fun e W'=>?_
 ·have:=List.all_eq_true.1 hwt k
  refine of_decide_eq_true (this ?_)
  have app:∀(ts us:List TypeId) (l:List (DataW H)),k∈DataW.weightsEach C.prog ts l→k∈DataW.weightsEach C.prog (ts++us) l:=by
   intro ts
   induction ts with
   |nil=>intro us l h;simp[DataW.weightsEach] at h
   |cons t ts ih=>
    intro us l h
    cases l with
    |nil=>simp[DataW.weightsEach] at h
    |cons d l=>
     rw[List.cons_append,DataW.weightsEach] at*
     rcases List.mem_append.1 h with h|h
     ·exact List.mem_append_left _ h
     ·exact List.mem_append_right _ (ih us l h)
  rw[List.append_nil]
  exact app _ _ _ hk
 ·rintro⟨rfl,hm⟩
  show s.post enc C.prog fn' false true false false (w.forCall tape i).blind i.args (.bool true) W'.blind
  refine ChangeSpec.post_blind (Nc (pa:=p) (pv:=[]) hW (fun b sp hd=>?_) (fun sp hsp=>?_) (fun sp hsp=>?_) hm)
  ·rw[List.append_nil,hspec ds hlen,hres]
   exact trodAll_cons_mk (shut_bool hbool _) trodAll_mk0
  ·rw[List.append_nil,hspec ds hlen]
   rw[List.append_nil] at hsp
   refine DataW.TrodAll.respare K hz (fun t ht=>of_decide_eq_true (List.all_eq_true.1 hts t ht)) (TrodAll.carry hm (fun x hx=>hW.lt x (List.mem_append_left _ hx)) hA) hsp
  ·rw[List.append_nil,hspec ds hlen,hvars];exact rfl
end
section
variable {x y n:Nat} {a b:Int}
def U(x:Nat):Int:=((x%65536:Nat):Int)
def uN(a:Int):Nat:=(a%65536).toNat
theorem WN:U x<65536:=by unfold U;omega
theorem Uf:0≤U x:=by unfold U;omega
theorem WO:U (x%65536)=U x:=by unfold U;simp
theorem FD(h:x<65536):U x=x:=by unfold U;rw[Nat.mod_eq_of_lt h]
theorem uN_U:uN (U x)=x%65536:=by unfold uN U;omega
theorem qE:IntKind.wrap .u16 a=U (uN a):=by
 unfold U uN
 have:IntKind.wrap .u16 a=a%65536:=by simp[IntKind.wrap,IntKind.bits,IntKind.signed]
 rw[this];omega
theorem ofI:(BitVec.ofInt 16 a).toNat=uN a:=by simp[uN,BitVec.toNat_ofInt]
theorem xL:IntKind.wrap .u16 ((x:Nat):Int)=U x:=by rw[qE];unfold uN U;omega
theorem jL:(x&&&y)%65536=(x%65536)&&&(y%65536):=by
 rw[show(65536:Nat)=2^16 by rfl,Nat.and_mod_two_pow]
theorem xM:(x|||y)%65536=(x%65536)|||(y%65536):=by
 rw[show(65536:Nat)=2^16 by rfl,Nat.or_mod_two_pow]
theorem wu:(x ^^^ y)%65536=(x%65536) ^^^ (y%65536):=by
 rw[show(65536:Nat)=2^16 by rfl,Nat.xor_mod_two_pow]
def bP(x y:Nat):Nat:=x&&&y
def sor(x y:Nat):Nat:=x|||y
def pQ(x y:Nat):Nat:=x ^^^ y
def dJ(x y:Nat):Nat:=x&&&(65535-y%65536)
theorem Ug(a b:Int):IntKind.wrap .u16 ((BitVec.ofInt (IntKind.bits .u16) a&&&BitVec.ofInt (IntKind.bits .u16) b).toNat:Int)=U (bP (uN a) (uN b)):=by
 show IntKind.wrap .u16 ((BitVec.ofInt 16 a&&&BitVec.ofInt 16 b).toNat:Int)=_
 rw[BitVec.toNat_and,ofI,ofI,xL];rfl
theorem ZR(a b:Int):IntKind.wrap .u16 ((BitVec.ofInt (IntKind.bits .u16) a|||BitVec.ofInt (IntKind.bits .u16) b).toNat:Int)=U (sor (uN a) (uN b)):=by
 show IntKind.wrap .u16 ((BitVec.ofInt 16 a|||BitVec.ofInt 16 b).toNat:Int)=_
 rw[BitVec.toNat_or,ofI,ofI,xL];rfl
theorem Uh(a b:Int):IntKind.wrap .u16 ((BitVec.ofInt (IntKind.bits .u16) a ^^^ BitVec.ofInt (IntKind.bits .u16) b).toNat:Int)=U (pQ (uN a) (uN b)):=by
 show IntKind.wrap .u16 ((BitVec.ofInt 16 a ^^^ BitVec.ofInt 16 b).toNat:Int)=_
 rw[BitVec.toNat_xor,ofI,ofI,xL];rfl
theorem Ui(a b:Int):IntKind.wrap .u16 ((BitVec.ofInt (IntKind.bits .u16) a&&& ~~~ BitVec.ofInt (IntKind.bits .u16) b).toNat:Int)=U (dJ (uN a) (uN b)):=by
 show IntKind.wrap .u16 ((BitVec.ofInt 16 a&&& ~~~ BitVec.ofInt 16 b).toNat:Int)=_
 rw[BitVec.toNat_and,BitVec.toNat_not,ofI,ofI,xL]
 unfold dJ
 have:uN b%65536=uN b:=Nat.mod_eq_of_lt (by unfold uN;omega)
 rw[this,show(2^16-1-uN b:Nat)=65535-uN b by omega]
theorem Uj:U (bP (x%65536) y)=U (bP x y):=by unfold U bP;congr 1;rw[jL,jL,Nat.mod_mod]
theorem Uk:U (bP x (y%65536))=U (bP x y):=by unfold U bP;congr 1;rw[jL,jL,Nat.mod_mod]
theorem ZT:U (sor (x%65536) y)=U (sor x y):=by unfold U sor;congr 1;rw[xM,xM,Nat.mod_mod]
theorem ZU:U (sor x (y%65536))=U (sor x y):=by unfold U sor;congr 1;rw[xM,xM,Nat.mod_mod]
theorem Ul:U (pQ (x%65536) y)=U (pQ x y):=by unfold U pQ;congr 1;rw[wu,wu,Nat.mod_mod]
theorem Um:U (pQ x (y%65536))=U (pQ x y):=by unfold U pQ;congr 1;rw[wu,wu,Nat.mod_mod]
theorem Un:U (dJ (x%65536) y)=U (dJ x y):=by unfold U dJ;congr 1;rw[jL,jL,Nat.mod_mod]
theorem Uo:U (dJ x (y%65536))=U (dJ x y):=by unfold U dJ;rw[Nat.mod_mod]
theorem H5(x n:Nat):IntKind.wrap .u16 (U x*2^min n (IntKind.bits .u16))=U (x*2^n):=by
 rw[show IntKind.bits .u16=16 from rfl]
 unfold U
 rw[show(((x%65536:Nat):Int)*2^min n 16)=((x%65536*2^min n 16:Nat):Int) by simp,xL]
 unfold U
 congr 1
 rcases Nat.lt_or_ge n 16 with h|h
 ·rw[Nat.min_eq_left (by omega),Nat.mod_mul_mod]
 ·rw[Nat.min_eq_right h]
  obtain⟨d,rfl⟩:∃d,n=16+d:=⟨n-16,by omega⟩
  rw[Nat.pow_add,←Nat.mul_assoc,show(2:Nat)^16=65536 by rfl,Nat.mul_mod_left,Nat.mul_right_comm,Nat.mul_mod_left]
theorem NU(n:Nat):IntKind.wrap .u16 (1*2^min n (IntKind.bits .u16))=U (2^n):=by
 have:=H5 1 n
 rw[Nat.one_mul] at this
 rw[←this];rfl
theorem Uq(x n:Nat):Int.fdiv (U x) (2^min n (IntKind.bits .u16))=U (x%65536/2^n):=by
 rw[show IntKind.bits .u16=16 from rfl]
 rw[Int.fdiv_eq_ediv_of_nonneg _ (Int.le_of_lt (Int.pow_pos (by decide)))]
 unfold U
 rw[show(2:Int)^min n 16=((2^min n 16:Nat):Int) by simp,←Int.natCast_ediv]
 congr 1
 have hx:x%65536<65536:=Nat.mod_lt _ (by decide)
 rcases Nat.lt_or_ge n 16 with h|h
 ·rw[Nat.min_eq_left (by omega),Nat.mod_eq_of_lt (Nat.lt_of_le_of_lt (Nat.div_le_self _ _) hx)]
 ·rw[Nat.min_eq_right h,Nat.div_eq_of_lt (by simpa using hx)]
  have:65536≤2^n:=by rw[show(65536:Nat)=2^16 by rfl];exact Nat.pow_le_pow_right (by decide) h
  rw[Nat.div_eq_of_lt (by omega)]
def bit(x n:Nat):Bool:=(x%65536).testBit n
theorem Ur(x n:Nat):U (bP (x%65536/2^n) 1)=if bit x n=true then 1 else 0:=by
 unfold bit U bP
 rw[Nat.testBit_eq_decide_div_mod_eq,Nat.and_one_is_mod]
 have h2:x%65536/2^n%2<2:=Nat.mod_lt _ (by decide)
 have h3:x%65536/2^n%2%65536=x%65536/2^n%2:=Nat.mod_eq_of_lt (by omega)
 rw[h3]
 by_cases h:x%65536/2^n%2=1
 ·simp[h]
 ·have:x%65536/2^n%2=0:=by omega
  simp[this]
theorem Us{c:Bool}:((if c=true then(1:Int) else 0)=1)=(c=true):=by cases c<;>simp
theorem Ut{c:Bool}:((if c=true then(1:Int) else 0)=0)=(c=false):=by cases c<;>simp
theorem NV(n:Nat):IntKind.wrap .u16 (U (2^n)-1)=U (2^n-1):=by
 have h:0<2^n:=Nat.two_pow_pos n
 rw[qE];unfold uN U;omega
theorem NW(x:Nat):IntKind.wrap .u16 (U x-1)=U (x+65535):=by rw[qE];unfold uN U;omega
theorem Uu(x:Nat):IntKind.wrap .u16 (0-U x)=U (65536-x%65536):=by rw[qE];unfold uN U;omega
theorem Uv(x y:Nat):IntKind.wrap .u16 (U x+U y)=U (x+y):=by rw[qE];unfold uN U;omega
theorem NY(x:Nat):IntKind.wrap .u16 (U x+1)=U (x+1):=by rw[qE];unfold uN U;omega
theorem w_U:IntKind.wrap .u16 (U x)=U x:=by rw[qE];unfold uN U;omega
theorem acz:IntKind.wrap .i64 (U x)=U x:=M8 (by have:=Uf (x:=x);have:=WN (x:=x);omega)
theorem acA:IntKind.wrap .u32 (U x)=U x:=WJ (by have:=Uf (x:=x);have:=WN (x:=x);omega)
theorem acB:(U x=U y)=(x%65536=y%65536):=by unfold U;exact propext ⟨fun h=>by omega,fun h=>by omega⟩
theorem U_le:(U x≤U y)=(x%65536≤y%65536):=by unfold U;exact propext ⟨fun h=>by omega,fun h=>by omega⟩
theorem U_lt:(U x<U y)=(x%65536<y%65536):=by unfold U;exact propext ⟨fun h=>by omega,fun h=>by omega⟩
theorem U_0:(U x=0)=(x%65536=0):=by unfold U;exact propext ⟨fun h=>by omega,fun h=>by omega⟩
theorem U_1:(U x=1)=(x%65536=1):=by unfold U;exact propext ⟨fun h=>by omega,fun h=>by omega⟩
theorem uN_0:uN 0=0:=rfl
theorem uN_1:uN 1=1:=rfl
theorem ZV:uN 255=255:=rfl
theorem NZ:uN 65535=65535:=rfl
theorem ah2:U 0=0:=rfl
theorem U_11:U 1=1:=rfl
theorem acC{st:St} {g:Nat}:st.op (.global g)=Es g:=rfl
attribute [push_cast] Ug ZR Uh Ui uN_U Uj Uk ZT ZU Ul Um Un Uo H5 NU Uq Ur Us Ut NV Uu Uv NY w_U acz acA acB U_le U_lt U_0 U_1 WO uN_0 uN_1 ZV NZ ah2 U_11 acC
end
section
variable {x y n:Nat} {a b:Int}
def V(x:Nat):Int:=((x%4294967296:Nat):Int)
def vN(a:Int):Nat:=(a%4294967296).toNat
theorem acD:V (x%4294967296)=V x:=by unfold V;simp
theorem vN_V:vN (V x)=x%4294967296:=by unfold vN V;omega
theorem ww:IntKind.wrap .u32 a=V (vN a):=by
 unfold V vN
 have:IntKind.wrap .u32 a=a%4294967296:=by simp[IntKind.wrap,IntKind.bits,IntKind.signed]
 rw[this];omega
theorem zw:(BitVec.ofInt 32 a).toNat=vN a:=by simp[vN,BitVec.toNat_ofInt]
theorem xN:IntKind.wrap .u32 ((x:Nat):Int)=V x:=by rw[ww];unfold vN V;omega
theorem oQ:(x&&&y)%4294967296=(x%4294967296)&&&(y%4294967296):=by rw[show(4294967296:Nat)=2^32 by rfl,Nat.and_mod_two_pow]
theorem rX:(x|||y)%4294967296=(x%4294967296)|||(y%4294967296):=by rw[show(4294967296:Nat)=2^32 by rfl,Nat.or_mod_two_pow]
theorem oU:(x ^^^ y)%4294967296=(x%4294967296) ^^^ (y%4294967296):=by rw[show(4294967296:Nat)=2^32 by rfl,Nat.xor_mod_two_pow]
theorem acE(a b:Int):IntKind.wrap .u32 ((BitVec.ofInt (IntKind.bits .u32) a&&&BitVec.ofInt (IntKind.bits .u32) b).toNat:Int)=V (bP (vN a) (vN b)):=by
 show IntKind.wrap .u32 ((BitVec.ofInt 32 a&&&BitVec.ofInt 32 b).toNat:Int)=_
 rw[BitVec.toNat_and,zw,zw,xN];rfl
theorem v_or(a b:Int):IntKind.wrap .u32 ((BitVec.ofInt (IntKind.bits .u32) a|||BitVec.ofInt (IntKind.bits .u32) b).toNat:Int)=V (sor (vN a) (vN b)):=by
 show IntKind.wrap .u32 ((BitVec.ofInt 32 a|||BitVec.ofInt 32 b).toNat:Int)=_
 rw[BitVec.toNat_or,zw,zw,xN];rfl
theorem acF(a b:Int):IntKind.wrap .u32 ((BitVec.ofInt (IntKind.bits .u32) a ^^^ BitVec.ofInt (IntKind.bits .u32) b).toNat:Int)=V (pQ (vN a) (vN b)):=by
 show IntKind.wrap .u32 ((BitVec.ofInt 32 a ^^^ BitVec.ofInt 32 b).toNat:Int)=_
 rw[BitVec.toNat_xor,zw,zw,xN];rfl
theorem Uw:V (bP (x%4294967296) y)=V (bP x y):=by unfold V bP;congr 1;rw[oQ,oQ,Nat.mod_mod]
theorem Ux:V (bP x (y%4294967296))=V (bP x y):=by unfold V bP;congr 1;rw[oQ,oQ,Nat.mod_mod]
theorem ZW:V (sor (x%4294967296) y)=V (sor x y):=by unfold V sor;congr 1;rw[rX,rX,Nat.mod_mod]
theorem ZX:V (sor x (y%4294967296))=V (sor x y):=by unfold V sor;congr 1;rw[rX,rX,Nat.mod_mod]
theorem Uy:V (pQ (x%4294967296) y)=V (pQ x y):=by unfold V pQ;congr 1;rw[oU,oU,Nat.mod_mod]
theorem Uz:V (pQ x (y%4294967296))=V (pQ x y):=by unfold V pQ;congr 1;rw[oU,oU,Nat.mod_mod]
theorem ZY(n:Nat):IntKind.wrap .u32 (1*2^min n (IntKind.bits .u32))=V (2^n):=by
 rw[show IntKind.bits .u32=32 from rfl,Int.one_mul]
 rw[show((2:Int)^min n 32)=((2^min n 32:Nat):Int) by simp,xN]
 unfold V
 congr 1
 rcases Nat.lt_or_ge n 32 with h|h
 ·rw[Nat.min_eq_left (by omega)]
 ·rw[Nat.min_eq_right h]
  obtain⟨d,rfl⟩:∃d,n=32+d:=⟨n-32,by omega⟩
  rw[Nat.pow_add,show(2:Nat)^32=4294967296 by rfl,Nat.mul_mod_right]
theorem acG(x n:Nat):Int.fdiv (V x) (2^min n (IntKind.bits .u32))=V (x%4294967296/2^n):=by
 rw[show IntKind.bits .u32=32 from rfl]
 rw[Int.fdiv_eq_ediv_of_nonneg _ (Int.le_of_lt (Int.pow_pos (by decide)))]
 unfold V
 rw[show(2:Int)^min n 32=((2^min n 32:Nat):Int) by simp,←Int.natCast_ediv]
 congr 1
 have hx:x%4294967296<4294967296:=Nat.mod_lt _ (by decide)
 rcases Nat.lt_or_ge n 32 with h|h
 ·rw[Nat.min_eq_left (by omega),Nat.mod_eq_of_lt (Nat.lt_of_le_of_lt (Nat.div_le_self _ _) hx)]
 ·rw[Nat.min_eq_right h,Nat.div_eq_of_lt (by simpa using hx)]
  have:4294967296≤2^n:=by rw[show(4294967296:Nat)=2^32 by rfl];exact Nat.pow_le_pow_right (by decide) h
  rw[Nat.div_eq_of_lt (by omega)]
def Ku(x n:Nat):Bool:=(x%4294967296).testBit n
theorem acH(x n:Nat):V (bP (x%4294967296/2^n) 1)=if Ku x n=true then 1 else 0:=by
 unfold Ku V bP
 rw[Nat.testBit_eq_decide_div_mod_eq,Nat.and_one_is_mod]
 have h2:x%4294967296/2^n%2<2:=Nat.mod_lt _ (by decide)
 have h3:x%4294967296/2^n%2%4294967296=x%4294967296/2^n%2:=Nat.mod_eq_of_lt (by omega)
 rw[h3]
 by_cases h:x%4294967296/2^n%2=1
 ·simp[h]
 ·have:x%4294967296/2^n%2=0:=by omega
  simp[this]
theorem ZZ(n:Nat):IntKind.wrap .u32 (V (2^n)-1)=V (2^n-1):=by
 have h:0<2^n:=Nat.two_pow_pos n
 rw[ww];unfold vN V;omega
def FE(x:Nat):Nat:=4294967296-x%4294967296
theorem acI(x:Nat):IntKind.wrap .u32 (0-V x)=V (FE x):=by rw[ww];unfold vN V FE;omega
theorem acJ(x y:Nat):IntKind.wrap .u32 (V x+V y)=V (x+y):=by rw[ww];unfold vN V;omega
def UA(x y:Nat):Nat:=x%4294967296/(y%4294967296)
theorem acK(x y:Nat):IntKind.wrap .u32 (Int.tdiv (V x) (V y))=V (UA x y):=by
 unfold V UA
 rw[←Int.ofNat_tdiv,xN];rfl
theorem acL:(V x=V y)=(x%4294967296=y%4294967296):=by unfold V;exact propext ⟨fun h=>by omega,fun h=>by omega⟩
theorem V_lt:(V x<V y)=(x%4294967296<y%4294967296):=by unfold V;exact propext ⟨fun h=>by omega,fun h=>by omega⟩
theorem V_0:(V x=0)=(x%4294967296=0):=by unfold V;exact propext ⟨fun h=>by omega,fun h=>by omega⟩
theorem vN_1:vN 1=1:=rfl
theorem V_00:V 0=0:=rfl
attribute [push_cast] acE v_or acF vN_V Uw Ux ZW ZX Uy Uz ZY acG acH ZZ acI acJ acK acL V_lt V_0 vN_1 V_00 acD
end
section
theorem Mid.mk{P:Program} {R:RLoop} {j nid:Nat} {st:St}(h:st.m=R.mR)(h2:AC P R.body (RQ R j) nid st):Mid P R j nid st:=⟨h,h2⟩
def yX(xs:List Nat)(j:Nat):Option Value:=if j<xs.length then some (.int .u16 (U (xs.getD j 0))) else none
theorem Ao{xs:List Nat} {j:Nat} {x:Value}(h:yX xs j=some x):j<xs.length∧x= .int .u16 (U (xs.getD j 0)):=by
 unfold yX at h
 split at h
 ·cases h;exact⟨‹_›,rfl⟩
 ·cases h
end
section
section
variable {P:Program} {nid:Nat} {st:St} {dst:Option Nat} {ty:TypeId} {pos:String} {af:Array Edge} {g:Option (Nat×Bool)} {K:Nat→Eff→Prop}
theorem OpT.drop{o:Oper} {x:AV} {id:Nat} {o0:aC}(ho:st.ob id=some o0)
 (h:∀(c:Ctx) (ρ:Rho) (D J:Nat→Prop) (a:Act) (w:World) (b s:Nat),Sim c ρ D J st a w→ρ id=some (b,s)→ObjRep w J ρ b s o0→¬J b→
   ∃w' v,(execOp a.eval o).run P w= .ok (.value v) w'∧w'.heap.size=w.heap.size∧w'.os=w.os∧w'.tape=w.tape∧w'.output=w.output∧
    (∀k,k≠b→w'.heap[k]? =w.heap[k]?)∧((∀u y,Rep w J ρ u y→Rep w' J ρ u y)→Rep w' J ρ v x)):OpT P o nid 0 st ⟨x,[(id,none)]⟩:=by
 intro c ρ D J a w hs hD _ K Q hK
 obtain⟨b,s,hρ,hob,_,hnJ⟩:=hs.obj id o0 ho
 obtain⟨w',v,hr,hsz,hos,htp,hout,hoth,hrep⟩:=h c ρ D J a w b s hs hρ hob hnJ
 have h1:=hrep (fun u y hu=>hu.mono (J:=J) (J':=J) (fun k hk _=>⟨hk,hoth k (fun e=>hnJ (e▸hk))⟩) (by omega) (fun _ _ h=>h))
 refine kE hr (hK v w' ρ J ⟨by omega,hos,htp,hout,?_,fun _ _ h=>h,fun _ _ h=> .inl h,fun _ h=>h,fun _ h=> .inl h,h1,?_,?_,fun h=>absurd h (kD kC)⟩)
 ·intro k hk hne _
  exact hoth k (fun e=>hne id o0 s (by simp[Eff.keys]) ho (e▸hρ))
 ·intro i o' hi
  simp only[aS] at hi
  split at hi<;>cases hi
 ·intro i i' o1 o2 b s1 s2 h1 h2 _ _
  simp only[aS] at h1
  split at h1<;>cases h1
def qh(s:ByteArray):List AV:=(Lib.strCells s).map ofV
theorem mg{s:ByteArray}:(qh s).length=s.size:=by unfold qh;rw[List.length_map,Lib.strCells_length]
def byL(s:ByteArray):List Int:=s.data.toList.map fun b=>(b.toNat:Int)
theorem VU{s:ByteArray}:(byL s).length=s.size:=by unfold byL;rw[List.length_map,Array.length_toList];rfl
theorem DX{s:ByteArray}:qh s=cI .u8 (byL s):=by unfold qh Lib.strCells byL cI;rw[List.map_map,List.map_map];rfl
theorem yU(t u:TypeId)(x y:Operand)(e:TypeId)(s:ByteArray)(he:iL P t=some e)(hs:siz P e=some 1)(hzs:iM P e=some [.int .u8 0])(hb:byt P e=some 1)(hu:qo P u=true)
 (hx:st.op x= .isl true [] 0) (hy:st.op y= .val (.string s)) (hm:0<s.size) (hbytes:s.size≤140737488355328):
 OpT P ⟨dst,.call ⟨.builtin .append,#[x,y],#[t,u]⟩,ty,pos,af,g⟩ nid 1 st ⟨.sl nid 0 s.size 1,[(nid,some (.cells (qh s) e))]⟩:= .alloc fun c ρ D J a w h=>by
 have e1:=h.op x;rw[hx] at e1
 have e2:=h.op y;rw[hy] at e2
 have e2:=aG e2
 obtain⟨i,z,hi,his,hz,hzc⟩:=jN hs hzs
 have hb':i.bytes=1:=by unfold byt at hb;simpa[hi] using hb
 generalize hv:a.eval x=v at e1
 have hv0:v= .slice none 0 0:=by
  generalize hxx:AV.isl true [] 0=xx at e1
  cases e1<;>simp at hxx
  rfl
 subst hv0
 have hr:=run_append_nil_string (P:=P) w t u ty e i z (aV he) (gZ hu) hi hz s hm (by omega) (by rw[hb'];omega)
 have e3:(s.data.map fun b=>Value.int .u8 b.toNat)=(Lib.strCells s).toArray:=by
  apply Array.ext'
  simp[Lib.strCells]
 rw[e3] at hr
 have hge:=grownCap_ge w s.size 0 e
 obtain⟨A,hA⟩:∃A,A=(Lib.strCells s).toArray++Builtin.zeroCells z.cells (grownCap w s.size 0 e-s.size):=⟨_,rfl⟩
 rw[←hA] at hr
 refine⟨.slice (some ⟨w.heap.size,0,none⟩) s.size (grownCap w s.size 0 e),w.drew.alloc (.cells A e),.cells A e,grownCap w s.size 0 e*1,?_,gP.drew w _,fun ρ' h1' h2'=>⟨.sl _ _ nid 0 s.size 1 _ h1' hge (by omega),A,(gP.drew w _).new,?_,?_,?_⟩⟩
 ·simp[execOp,resolve,invoke,builtin,hv,e2,hr]
 ·rw[hA]
  simp only[Array.size_append,List.size_toArray,size_zeroCells,Lib.strCells_length,hzc,List.length_singleton]
  omega
 ·rw[mg];omega
 ·rw[hA] at*
  exact(kG (J:=J) (ρ:=ρ') _ (jF (by decide) hzc _) (by rw[mg,Lib.strCells_length]) (Lib.strCells_oneCell s) (fun j hj=>by
   have hj':j<(Lib.strCells s).length:=by rw[Lib.strCells_length,←mg];exact hj
   have e5:(qh s)[j]=ofV ((Lib.strCells s).getD j undef):=by simp[qh,List.getD_eq_getElem?_getD,hj']
   rw[e5]
   exact mq _)).2
theorem DY{e:TypeId}(t u:TypeId)(x y:Operand) [he:dK P t e] [hs:fF P e 1] [hb:tq P e 1] [hz:jB P e [.int .u8 0]] [hu:BR P u]
 (h:aH (uP (st.op x)) fun p=>aH (xz (st.op y)) fun s=>p=(true,[],0)∧0<s.size∧s.size≤140737488355328∧K 1 ⟨.sl nid 0 s.size 1,[(nid,some (.cells (cI .u8 (byL s)) e))]⟩):
 AO P ⟨dst,.call ⟨.builtin .append,#[x,y],#[t,u]⟩,ty,pos,af,g⟩ nid st K:=by
 obtain⟨p,h1,s,h2,rfl,h3,h4,h5⟩:=h
 rw[←DX] at h5
 exact⟨_,_,yU t u x y e s he.out hs.out hz.out hb.out hu.out (adO h1) (q8 h2) h3 h4,h5⟩
class Er(P:Program)(t:TypeId)(e:outParam TypeId):Prop where out:P.underlying t=some (.pointer e)
class abI(P:Program)(t:TypeId):Prop where out:P.underlying t=some .unsafePointer
theorem DZ{e:TypeId} {n:Nat}(h:siz P e=some n):∃j,P.info? e=some j∧j.size=n:=by
 unfold siz at h
 cases hi:P.info? e with
 |none=>simp[hi] at h
 |some j=>exact⟨j,rfl,by simpa[hi] using h⟩
theorem GD{e:TypeId} {n:Nat}(s t:TypeId)(x:Operand) [hp:Er P s e] [hu:abI P t] [hz:fF P e n]
 (h:aH (Ag (st.op x)) fun p=>aH (xB (st.ob p.1)) fun q=>n≠0∧p.2<q.1.length∧K 0 ⟨.pt p.1 p.2,[]⟩):AO P ⟨dst,.convert s t x,ty,pos,af,g⟩ nid st K:=by
 obtain⟨⟨id,off⟩,h1,⟨cs,e'⟩,h2,h3,h4,h5⟩:=h
 refine⟨0,_,.pure fun c ρ D J a w hs=>?_,h5⟩
 have e1:=hs.op x
 rw[oJ h1] at e1
 obtain⟨b,k,hρ,⟨cv,hc,hcs,hle,_⟩,_⟩:=hs.obj _ _ (lu h2)
 obtain⟨j,hj,hjn⟩:=DZ hz.out
 generalize hv:a.eval x=v at e1
 cases e1 with
 |pt b' s' _ _ hp'=>
  dsimp only at hp' hρ
  rw[hp'] at hρ
  cases hρ
  refine⟨_,?_,.pt _ _ _ _ hp'⟩
  have hsh:w.shape? b=some (e',cv.size):=by unfold World.shape?;rw[hc]
  have:=Lib.run_to_unsafe (P:=P) w ⟨b,off,none⟩ hp.out hu.out hj (by rw[hjn];exact h3) hsh (by dsimp only at h4 hle⊢;omega)
  simp only[execOp,hv]
  simp[this]
theorem PX{e:TypeId} {n count:Nat}(h:P.cellsOf e=n)(h0:n≠0)(hc:1≤count):liesAt P P.depth e count 0 e 1=true:=by
 have hd:P.depth=(2*(P.types.size+Made.depth)+1)+1:=rfl
 rw[hd]
 simp only[liesAt,Bool.or_eq_true]
 left
 rw[hd]
 simp[rowAt,h,h0,hc,sameLayout]
class BU(P:Program)(e:TypeId)(n:outParam Nat):Prop where out:P.cellsOf e=n
theorem Br{e:TypeId} {n m:Nat}(s t:TypeId)(x:Operand) [hp:Er P t e] [hu:abI P s] [hz:fF P e n] [hm:BU P e m]
 (h:aH (Ag (st.op x)) fun p=>aH (xB (st.ob p.1)) fun q=>m≠0∧p.2=0∧q.2=e∧m≤q.1.length∧K 0 ⟨.pt p.1 0,[]⟩):AO P ⟨dst,.convert s t x,ty,pos,af,g⟩ nid st K:=by
 obtain⟨⟨id,off⟩,h1,⟨cs,e'⟩,h2,h3,h4,h5,h6,h7⟩:=h
 dsimp only at h4 h5 h6
 subst h4;subst h5
 refine⟨0,_,.pure fun c ρ D J a w hs=>?_,h7⟩
 have e1:=hs.op x
 rw[oJ h1] at e1
 obtain⟨b,k,hρ,⟨cv,hc,hcs,hle,_⟩,_⟩:=hs.obj _ _ (lu h2)
 obtain⟨j,hj,hjn⟩:=DZ hz.out
 generalize hv:a.eval x=v at e1
 cases e1 with
 |pt b' s' _ _ hp'=>
  dsimp only at hp' hρ
  rw[hp'] at hρ
  cases hρ
  refine⟨_,?_,.pt _ _ _ _ hp'⟩
  have hsh:w.shape? b=some (e',cv.size):=by unfold World.shape?;rw[hc]
  have hl:=PX hm.out h3 (count:=cv.size/P.cellsOf e') (by rw[hm.out];exact(Nat.one_le_div_iff (by omega)).2 (by dsimp only at hle;omega))
  have:=Lib.run_from_unsafe (P:=P) w ⟨b,0,none⟩ hu.out hp.out hj hsh hl
  simp only[execOp,hv]
  simp[this]
class Xn(P:Program)(f:FuncId):Prop where
 out:∃fn,P.funcs[f]? =some fn∧(fn.name== "runtime.NumGoroutine")=false∧fn.body.isNone=true∧Extern.findNext fn=none∧Extern.find fn=some Extern.AbiNoEscape.same
theorem abd{f:FuncId}(x:Operand)(tys:Array TypeId) [hf:Xn P f](h:K 0 ⟨st.op x,[]⟩):AO P ⟨dst,.call ⟨.value (.func f),#[x],tys⟩,ty,pos,af,g⟩ nid st K:=by
 refine⟨0,_,.pure fun c ρ D J a w hs=>?_,h⟩
 obtain⟨fn,h1,h2,h3,h4,h5⟩:=hf.out
 refine⟨a.eval x,?_,hs.op x⟩
 have:=run_callFunc_extern h1 h2 h3 h4 h5 #[a.eval x] w
 rw[Lib.run_noEscape] at this
 simp only[Result.andThen] at this
 simp[execOp,resolve,Act.eval,Deferred.ofValue,invoke] at this⊢
 simp[this]
theorem Bt(t:TypeId)(x:Operand)(h:aH (yM (st.op x)) fun p=>0<p.2.2.1∧K 0 ⟨.pt p.1 p.2.1,[]⟩):AO P ⟨dst,.call ⟨.builtin .unsafeSliceData,#[x],#[t]⟩,ty,pos,af,g⟩ nid st K:=by
 obtain⟨⟨id,off,n,es⟩,h1,h2,h3⟩:=h
 refine⟨0,_,.pure fun c ρ D J a w hs=>?_,h3⟩
 have e1:=hs.op x
 rw[mH h1] at e1
 dsimp only at e1 h2 h3
 generalize hv:a.eval x=v at e1
 cases e1 with
 |sl b s _ _ _ _ cap hp hc hss=>
  refine⟨.pointer (some ⟨b,off,none⟩),?_,.pt _ _ _ _ hp⟩
  have:=Lib.run_unsafeSliceData_row (P:=P) w #[t] ty ⟨b,off,none⟩ n cap (by omega)
  simp[execOp,resolve,invoke,builtin,hv,this]
theorem D5{e:TypeId}(s:ByteArray)(t it:TypeId)(x y:Operand) [hp:Er P t e] [hc:BU P e 1]
 (h:aH (Ag (st.op x)) fun p=>aH (xB (st.ob p.1)) fun q=>p.2=0∧q.2=e∧q.1=cI .u8 (byL s)∧st.op y= .val (.int .i64 s.size)∧0<s.size∧s.size≤140737488355328∧K 0 ⟨.val (.string s),[(p.1,none)]⟩):
 AO P ⟨dst,.call ⟨.builtin .unsafeString,#[x,y],#[t,it]⟩,ty,pos,af,g⟩ nid st K:=by
 obtain⟨⟨id,off⟩,h1,⟨cs,e'⟩,h2,h3,h4,h5,h6,h7,h8,h9⟩:=h
 dsimp only at h3 h4 h5 h9
 rw[←DX] at h5
 subst h3;subst h4;subst h5
 refine⟨0,_,OpT.drop (lu h2) (fun c ρ D J a w b k hs hρ ho hnJ=>?_),h9⟩
 obtain⟨cv,hcv,hcs,hle,hcell,hone⟩:=ho
 have e1:=hs.op x
 rw[oJ h1] at e1
 have e2:=hs.op y
 rw[h6] at e2
 have e2:=aG e2
 generalize hv:a.eval x=v at e1
 cases e1 with
 |pt b' s' _ _ hp'=>
  dsimp only at hp' hρ hle hcell
  rw[hp'] at hρ
  cases hρ
  have hsh:w.shape? b=some (e',cv.size):=by unfold World.shape?;rw[hcv]
  have hsz:s.data.toList.length=s.size:=by rw[Array.length_toList];rfl
  rw[mg] at hle
  have hr:=Lib.run_unsafeString_row (P:=P) w t it ty e' hp.out hc.out b cv.size hsh s.data.toList (fun h0=>by rw[h0] at hsz;simp at hsz;omega) (by omega) (by omega) (fun j x hx=>by
   have hj:j<s.data.toList.length:=(List.getElem?_eq_some_iff.1 hx).1
   have hj2:j<(qh s).length:=by rw[mg];omega
   obtain⟨_,hrep⟩:=hcell j hj2
   have e3:(qh s)[j]= .val (.int .u8 x.toNat):=by
    obtain⟨_,hx⟩:=List.getElem?_eq_some_iff.1 hx
    simp only[qh,Lib.strCells,List.getElem_map]
    rw[hx];rfl
   rw[e3] at hrep
   have:=aG hrep
   have ea:((⟨b,0,none⟩:Addr).add j)=⟨b,j,none⟩:=by simp[Addr.add_lit]
   rw[ea]
   simp only[World.cell?,hcv]
   have hj3:j<cv.size:=by omega
   rw[Array.getElem?_eq_getElem hj3]
   rw[Array.getD_eq_getD_getElem?,Array.getElem?_eq_getElem hj3] at this
   exact congrArg some this)
  refine⟨w.freeze ⟨b,0,none⟩ s.data.toList.length,.string s,?_,?_,?_,?_,?_,?_,fun _=> .val _⟩
  ·rw[hsz] at hr⊢
   simp[execOp,resolve,invoke,builtin,hv,e2,hr]
  all_goals unfold World.freeze;split<;>first|rfl|simp
  intro k hk
  rw[Array.getElem?_modify,if_neg (fun e=>hk e.symm)]
class TB2(P:Program)(t:TypeId):Prop where
 out:∃e,P.underlying t=some (.array 2 e)∧siz P e=some 1∧P.underlying e=some .bool
 gd:P.eqGuardType P.depth t=false
def PY:AV→Option (Bool×Bool)
 | .agg [.val (.bool a),.val (.bool b)]=>some (a,b)
 |_=>none
theorem abe{a b:Bool}:PY (.agg [.val (.bool a),.val (.bool b)])=some (a,b):=rfl
theorem Ja{x:AV} {p:Bool×Bool}(h:PY x=some p):x= .agg [.val (.bool p.1),.val (.bool p.2)]:=by
 unfold PY at h
 split at h
 ·cases h;rfl
 ·cases h
theorem PZ{w:World} {J:Nat→Prop} {ρ:Rho} {v:Value} {a b:Bool}(h:Rep w J ρ v (.agg [.val (.bool a),.val (.bool b)])):v= .agg #[.bool a,.bool b]:=by
 cases h with
 |agg vs _ hs h=>
  have h0:=aG (h 0 (by simp))
  have h1:=aG (h 1 (by simp))
  congr 1
  have hs2:vs.size=2:=by simpa using hs
  apply Array.ext
  ·simp[hs2]
  ·intro i hi _
   have:i=0∨i=1:=by omega
   rcases this with rfl|rfl
   ·simpa[Array.getD_eq_getD_getElem?,Array.getElem?_eq_getElem hi] using h0
   ·simpa[Array.getD_eq_getD_getElem?,Array.getElem?_eq_getElem hi] using h1
theorem P5{t:TypeId}(h:∃e,P.underlying t=some (.array 2 e)∧siz P e=some 1∧P.underlying e=some .bool)(a b c d:Bool)(w:World):
 (Op.equal t (.agg #[.bool a,.bool b]) (.agg #[.bool c,.bool d])).run P w= .ok (decide (a=c)&&decide (b=d)) w:=by
 obtain⟨e,hu,hz,hb⟩:=h
 show(Op.equalIn (9998+1+1) t _ _).run P w=_
 have ha:iX P e=some false:=by unfold iX;rw[hb];rfl
 have e0:∀x y:Bool,(part e #[.bool x,.bool y] 0).run P w= .ok (.bool x) w:=fun x y=>by simp[part,d9 ha]
 have e1:∀x y:Bool,(part e #[.bool x,.bool y] 1).run P w= .ok (.bool y) w:=fun x y=>by simp[part,d9 ha]
 have e2:∀(d:Nat) (x y:Bool),(Op.equalIn (d+1) e (.bool x) (.bool y)).run P w= .ok (x==y) w:=fun d x y=>by simp[Op.equalIn,run_underlying hb]
 rw[Op.equalIn]
 simp only[Sem.run_bind,run_underlying hu,Result.andThen_ok,cK hz,Std.Legacy.Range.forIn_eq_forIn_range',Std.Legacy.Range.size,Nat.sub_zero,Nat.add_sub_cancel,Nat.div_one]
 simp only[List.range',List.forIn_cons,List.forIn_nil,Nat.mul_one,Nat.zero_add,Sem.run_bind,e0,e1,Result.andThen_ok,e2]
 cases a<;>cases b<;>cases c<;>cases d<;>simp[e0,e1,e2]
theorem abf(t:TypeId)(x y:Operand)(t':TypeId) [ht:TB2 P t](h:aH (PY (st.op x)) fun p=>aH (PY (st.op y)) fun q=>K 0 ⟨.val (.bool (decide (p.1=q.1)&&decide (p.2=q.2))),[]⟩):AO P ⟨dst,.binOp .eql t x y t',ty,pos,af,g⟩ nid st K:=by
 obtain⟨p,h1,q,h2,h5⟩:=h
 refine⟨0,_,.pure fun c ρ D J a w hs=>?_,h5⟩
 have e1:=hs.op x;have e2:=hs.op y
 rw[Ja h1] at e1;rw[Ja h2] at e2
 refine⟨_,?_,.val _⟩
 simp only[execOp,PZ e1,PZ e2,Sem.run_bind,run_eqGuard_agg w _ t x y _ _ ht.gd,Result.andThen_ok,binOp,Op.equal]
 have:=P5 ht.out p.1 p.2 q.1 q.2 w
 unfold Op.equal at this
 simp[this]
end
attribute [push_cast] VU abe
end
