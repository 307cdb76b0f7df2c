/- Sym36 Sym37 Sym40 Sym35 Sym32 Sym33 Sym34. No condition. -/
import Derived.Test.YtcbginhpibfgaaaGreatDoorSymG20
import Derived.Laws.BytesArg
set_option linter.all false
namespace Go.Sy
section
def u8L:List AV→Option (List Int)
 |[]=>some []
 | .val (.int .u8 n)::l=>(u8L l).map (n:: ·)
 |_::_=>none
theorem VY:∀{cells:List AV} {ns:List Int},u8L cells=some ns→cells=ns.map fun n=>AV.val (.int .u8 n):=by
 intro cells
 induction cells with
 |nil=>intro ns h;simp[u8L] at h;subst h;rfl
 |cons x l ih=>
  intro ns h
  unfold u8L at h
  split at h
  ·rename_i he;cases he
  ·rename_i n l' he
   cases he
   cases hu:u8L l with
   |none=>rw[hu] at h;cases h
   |some ms=>
    rw[hu] at h
    simp at h
    subst h
    rw[ih hu];rfl
  ·cases h
theorem aht{l:List Int}:u8L (cI .u8 l)=some l:=by
 induction l with
 |nil=>rfl
 |cons x l ih=>
  show(u8L (cI .u8 l)).map (x:: ·)=_
  rw[ih];rfl
attribute [push_cast] aht
section
variable {P:Program} {Q:Exit→Nat→St→Prop} {nid:Nat} {st:St} {dst:Option Nat} {ty:TypeId} {pos:String} {af:Array Edge} {g:Option (Nat×Bool)} {K:Nat→Eff→Prop}
theorem dZ{e:TypeId}(s t:TypeId)(x:Operand) [he:d9 P s e] [hk:iW P e .u8] [ht:Ky P t]
 (h:aH (gI st (st.op x)) fun q=>aH (u8L q.1) fun ns=>q.1.length=q.2∧K 0 ⟨.val (.string (strOfNums ns)),[]⟩):AO P ⟨dst,.convert s t x,ty,pos,af,g⟩ nid st K:=by
 obtain⟨⟨cells,m⟩,h1,ns,h2,h3,h5⟩:=h
 refine⟨0,_,.pure fun c ρ D J a w hs=>?_,h5⟩
 have hsp:=VY h2
 dsimp only at h3 hsp
 have hu:=run_underlying (P:=P) (bi he.out)
 rcases vR hs (hs.op x) h1 (es:=1) (by simpa using h3) with⟨hv,hm,hc⟩|⟨ad,cp,news,hv,hmc,hnl,hnews,hone,hrep⟩
 ·have hns:ns=[]:=by rw[hsp] at hc;simpa using hc
  subst hns
  refine⟨.string (strOfNums []),?_,.val _⟩
  have:=run_convert_bytes_nil w (P:=P) s e (bi he.out) (fE hk.out) 0 0 t (jd ht.out)
  simp only[execOp,hv]
  simpa[this] using(by rfl:(ByteArray.empty)=strOfNums [])
 ·have hnl1:news.length=m:=by simpa using hnl
  have hn:news=ns.map (Value.int .u8):=by
   apply List.ext_getElem
   ·rw[hnl1,←h3,hsp];simp
   ·intro j g1 g2
    have hj:j<cells.length:=by omega
    have:=hrep j hj
    have e1:cells[j]= .val (.int .u8 (ns[j]'(by simpa using g2))):=by simp[hsp]
    rw[e1] at this
    have:=aN this
    rw[List.getD_eq_getElem?_getD,List.getElem?_eq_getElem g1] at this
    simpa using this
  have hl:=run_loadCells_list (P:=P) w ad news (fun j v hj=>hnews j v hj)
  rw[hnl1] at hl
  have h6:=run_convert_bytes_string (P:=P) w s t e (some ad) m cp (bi he.out) (fE hk.out) (jd ht.out)
  have h7:=run_bytesToString (P:=P) w ad m cp ns (by rw[hl,hn])
  refine⟨.string (strOfNums ns),?_,.val _⟩
  have e2:(⟨ByteArray.empty.data++(ns.map fun n=>UInt8.ofNat n.toNat).toArray⟩:ByteArray)=strOfNums ns:=by
   unfold strOfNums;simp[ByteArray.empty,ByteArray.emptyWithCapacity];rfl
  rw[foldl_push_bytes,e2] at h7
  simp only[execOp,hv]
  rw[←h6] at h7
  simp[h7]
end
end
section
section
variable {P:Program} {Q:Exit→Nat→St→Prop} {nid:Nat} {st:St} {dst:Option Nat} {ty:TypeId} {pos:String} {af:Array Edge} {g:Option (Nat×Bool)} {K:Nat→Eff→Prop}
theorem NM(e:TypeId)(zs:List Value)(hz:je P e=some zs)(h1:zs.all Value.oneCell'=true):
 OpT P ⟨dst,.alloc e,ty,pos,af,g⟩ nid 1 st ⟨.pt nid 0,[(nid,some (.full (zs.map ofV) e))]⟩:= .alloc fun c ρ D J a w h=>by
 obtain⟨z,hr,hc⟩:=nO (w:=w) hz
 refine⟨.pointer (some ⟨w.heap.size,0,none⟩),w.alloc (.cells zs.toArray e),.cells zs.toArray e,zs.length,?_,gW.alloc w _,fun ρ' h1' h2'=>⟨.pt _ _ nid 0 h1',zs.toArray,(gW.alloc w _).new,rfl,List.length_map _,(Hz (J:=J) (ρ:=ρ') zs h1).2⟩⟩
 simp[execOp,Instr.alloc,hr,newVar,hc,lC]
theorem Li{n:Nat} {e0:TypeId} {zs:List Value}(e:TypeId) [ha:Di P e n e0] [hz:jX P e zs](h:zs.all Value.oneCell'=true∧K 1 ⟨.pt nid 0,[(nid,some (.full (zs.map ofV) e))]⟩):AO P ⟨dst,.alloc e,ty,pos,af,g⟩ nid st K:=
 ⟨_,_,NM e zs hz.out h.1,h.2⟩
theorem NN(t:TypeId)(x y:Operand)(id off n:Nat)(cs vs:List AV)(e:TypeId)(hx:st.op x= .pt id off)(ho:st.ob id=some (.full cs e))(hy:(st.op y).parts=some vs)(hs:vs.all AV.scalar=true)
 (hz:siz P t=some n) (hn:vs.length=n) (hlt:off+n≤cs.length):
 OpT P ⟨dst,.store t x y,ty,pos,af,g⟩ nid 0 st ⟨.any,[(id,some (.full (spl cs off vs) e))]⟩:=OpT.modify ho fun c ρ D J a w b s h hρ hob hJ=>by
 obtain⟨arr,ha,hsz,hcl,hcr⟩:=hob
 obtain⟨h1,h2⟩:=sJ (h.op y) hy hs
 have hxv:=h.op x
 rw[hx] at hxv
 generalize hv:a.eval x=v at hxv
 cases hxv with
 |pt b' s' _ _ hρ'=>
  rw[hρ] at hρ';cases hρ'
  have hcr':CRep w J ρ arr cs:=⟨by omega,hcr⟩
  have hcells:∀v∈(a.eval y).cells.toList,v.oneCell'=true:=by
   intro u hu
   obtain⟨j,hj,rfl⟩:=List.getElem_of_mem hu
   have hj':j<vs.length:=by rw[←h1];simpa using hj
   have:=(h2 j hj').1
   simpa[Array.getD,h1,hj'] using this
  have hlen:(a.eval y).cells.toList.length=vs.length:=by simpa using h1
  have hst:=run_storeCells_at P b off e (a.eval y).cells.toList 0 arr w ha (by omega) hcells
  simp only[Nat.add_zero] at hst
  have hsp:=hcr'.splice (avs:=vs) (vs:=(a.eval y).cells.toList) (off:=off) hlen (fun j hj=>by
   have:=h2 j hj
   rwa [show(a.eval y).cells.toList.getD j undef=(a.eval y).cells.getD j undef by simp[List.getD_eq_getElem?_getD,Array.getD_eq_getD_getElem?]]) (by omega) (by omega)
  refine⟨.skip,w.setRow b (arr.toList.take off++(a.eval y).cells.toList++arr.toList.drop (off+(a.eval y).cells.toList.length)).toArray,undef,?_,.inr ⟨rfl,rfl⟩,?_,?_,?_,?_,?_,fun hi=>⟨.any _,_,setRow_heap w b arr _ e _ ha,?_,?_,?_⟩⟩
  ·simp only[execOp,hv,Instr.storeAt,Instr.sureAddr,storeVar,Sem.run_bind,Sem.run_pure,Result.andThen_ok,dw hz,h1,hn,ne_eq,not_true,if_false]
   rw[hst];rfl
  ·simp
  ·rfl
  ·rfl
  ·rfl
  ·intro k hk;exact setRow_other w b k _ hk
  ·rw[hsp.2];exact hsz
  ·show(spl cs off vs).length=s
   unfold spl
   rw[List.length_append,List.length_append,List.length_take,List.length_drop];omega
  ·exact(hsp.1.imp hi).2
theorem jE{n:Nat}(t:TypeId)(x y:Operand) [hz:gq P t n](h:aH (RN (st.op x)) fun p=>aH (yj (st.ob p.1)) fun q=>aH (st.op y).parts fun vs=>vs.all AV.scalar=true∧vs.length=n∧p.2+n≤q.1.length∧
 K 0 ⟨.any,[(p.1,some (.full (AJ q.1 p.2 vs) q.2))]⟩):AO P ⟨dst,.store t x y,ty,pos,af,g⟩ nid st K:=by
 obtain⟨p,h1,q,h2,vs,h3,h4,h5,h6,h7⟩:=h
 rw[HZ _ _ _ (by omega)] at h7
 exact⟨_,_,NN t x y _ _ _ _ vs _ (Jr h1) (ym h2) h3 h4 hz.out h5 h6,h7⟩
theorem NP(t e:TypeId)(x:Operand)(lo hi:Option Operand)(id n es:Nat)(l u:Int)(cs:List AV)(e':TypeId)(ht:DU P t=some (n,e))(hs:siz P e=some es)(hx:st.op x= .pt id 0)(ho:st.ob id=some (.full cs e'))(hcs:cs.length=n*es)(hl:bG st 0 lo=some l)(hu:bG st n hi=some u)
 (h1:0≤l) (h2:l≤u) (h3:u≤n) (h4:l<n):
 OpT P ⟨dst,.slice t x lo hi none,ty,pos,af,g⟩ nid 0 st ⟨.sl id (l.toNat*es) (u.toNat-l.toNat) es,[]⟩:= .pure fun c ρ D J a w h=>by
 have hr:=h.op x;rw[hx] at hr
 have hty:=ll ht
 obtain⟨b,s,q1,q2,q3,q4⟩:=h.obj id _ ho
 obtain⟨arr,ha,hsz,hcl,_⟩:=q2
 generalize hv:a.eval x=v at hr
 cases hr with
 |pt b' s' _ _ hρ=>
  rw[q1] at hρ;cases hρ
  have hb:=ig (P:=P) h false n n lo hi l u hl hu h1 h2 h3
  refine⟨.slice (some ⟨b,l.toNat*es,none⟩) (u.toNat-l.toNat) (n-l.toNat),?_,.sl b s id _ _ es (n-l.toNat) q1 (by omega) ?_⟩
  ·simp only[execOp,hv,Instr.sliceAt,Instr.sureAddr,Sem.run_bind,run_underlying hty,Result.andThen_ok,Option.map_none,hb,Sem.run_pure,dw hs]
   rw[if_neg (by omega)];simp[Addr.add_lit]
  ·rw[←Nat.add_mul,show l.toNat+(n-l.toNat)=n by omega];omega
theorem wy{n es:Nat} {e:TypeId}(t:TypeId)(x:Operand)(lo hi:Option Operand) [ht:Di P t n e] [hs:gq P e es](h:aH (RN (st.op x)) fun p=>aH (yj (st.ob p.1)) fun q=>aH (bG st 0 lo) fun l=>aH (bG st n hi) fun u=>p.2=0∧q.1.length=n*es∧(0≤l∧l≤u∧u≤n)∧l<n∧
 K 0 ⟨.sl p.1 (l.toNat*es) (u.toNat-l.toNat) es,[]⟩):AO P ⟨dst,.slice t x lo hi none,ty,pos,af,g⟩ nid st K:=by
 obtain⟨⟨id,off⟩,h1,q,h2,l,h3,u,h4,h5,h6,⟨h7,h8,h9⟩,h10,h11⟩:=h
 dsimp only at h5 h2 h11
 subst h5
 exact⟨_,_,NP t e x lo hi id n es l u q.1 q.2 ht.out hs.out (Jr h1) (ym h2) h6 h3 h4 h7 h8 h9 h10,h11⟩
theorem Ep(t:TypeId)(l c':Operand)(e:TypeId)(es by':Nat)(zs:List Value)(kl kc:IntKind)(n:Int)(he:jc P t=some e)(hs:siz P e=some es)(hzs:je P e=some zs)(hzl:zs.length=es)(h1:zs.all Value.oneCell'=true)
 (hb:byt P e=some by') (hl:st.op l= .val (.int kl 0)) (hc:st.op c'= .val (.int kc n)) (h0:0≤n) (hn:n≤9223372036854775807) (hbytes:(by':Int)*n≤281474976710656):
 OpT P ⟨dst,.makeSlice t l c',ty,pos,af,g⟩ nid 1 st ⟨.sl nid 0 0 es,[(nid,some (.cells [] e))]⟩:= .alloc fun c ρ D J a w h=>by
 have e1:=h.op l;have e2:=h.op c'
 rw[hl] at e1;rw[hc] at e2
 have e1:=aN e1;have e2:=aN e2
 obtain⟨i,z,hi,his,hz,hzc⟩:=lD hs hzs
 have hb':i.bytes=by':=by unfold byt at hb;simpa[hi] using hb
 have hr:=run_make (P:=P) w t e i z (bi he) hi hz kl kc 0 n (Int.le_refl _) h0 (by rw[hb'];exact hbytes) hn
 have hcr:=fun ρ':Rho=>sK (w:=w.alloc (.cells (madeCells z.cells (n.toNat*i.size)) e)) (J:=J) (ρ:=ρ') hzc h1 n.toNat
 refine⟨.slice (some ⟨w.heap.size,0,none⟩) 0 n.toNat,_,_,n.toNat*es,?_,gW.alloc w (.cells (madeCells z.cells (n.toNat*i.size)) e),fun ρ' h1' h2'=>⟨.sl _ _ nid 0 0 es n.toNat h1' (Nat.zero_le _) (by omega),madeCells z.cells (n.toNat*i.size),(gW.alloc w _).new,?_,Nat.zero_le _,fun j hj=>absurd hj (Nat.not_lt_zero j),?_⟩⟩
 ·simp[execOp,e1,e2,hr]
 ·rw[size_madeCells,his]
 ·have:=(hcr ρ').2.2
  rw[hzl,←his] at this
  exact this
theorem nY{e:TypeId} {es by':Nat} {zs:List Value}(t:TypeId)(l c:Operand) [he:d9 P t e] [hs:gq P e es] [hb:Az P e by'] [hz:jX P e zs]
 (h:aH (jQ (st.op l)) fun n=>aH (jQ (st.op c)) fun n'=>n=0∧zs.length=es∧zs.all Value.oneCell'=true∧0≤n'∧n'≤9223372036854775807∧(by':Int)*n'≤281474976710656∧
   K 1 ⟨.sl nid 0 0 es,[(nid,some (.cells [] e))]⟩):AO P ⟨dst,.makeSlice t l c,ty,pos,af,g⟩ nid st K:=by
 obtain⟨n,h1,n',h2,rfl,h3,h4,h5,h6,h7,h8⟩:=h
 obtain⟨k1,hk1⟩:=gP h1;obtain⟨k2,hk2⟩:=gP h2
 exact⟨_,_,Ep t l c e es by' zs k1 k2 n' he.out hs.out hz.out h3 h4 hb.out hk1 hk2 h5 h6 h7,h8⟩
end
theorem Sj{n:Nat} {cs:List AV} {e:TypeId}:Jj n (.full cs e)=∀x∈cs,bnd n x:=rfl
theorem Lj{cs:List AV} {e:TypeId}:lF (.full cs e)=∀x∈cs,noImm x:=rfl
attribute [push_cast] Sj Lj
end
section
abbrev Sk{P:Program} {f:FuncId} {a:List AV} {o o':List aD} {m:Nat} {r:AV}(_:PLift (ACall P f a o m r o')):FuncId:=f
theorem gD{p q:Prop}(k:q)(h:PLift q→p:=by(intro zz;simp-dsimp(disch:=try exact vD) only[push_cast,simprocAttr];(repeat refine aI ?_);exact zz.down)):p:=h ⟨k⟩
theorem aK{p q:Prop}(k:q)(h:PLift q→p:=by(intro zz;(first|refine ay rfl (fun K hK=>?_)|refine aj (fun K hK=>?_)|refine aA (fun K hK=>?_));(first|apply cO|apply aZ|apply df|apply aT|apply aW|apply bf|apply bu|apply gL|apply fK|apply bZ|apply fA|apply gJ|apply gK|apply eX|apply gm|apply fu|apply eG|apply nU|apply ji|apply iX|apply eZ|apply aX|apply fM|apply dK|apply ik|apply kw|apply jB|apply iH|apply jC|apply Ei|apply Eh|apply jg|apply j5|apply lL|apply jk|apply iq|apply dP|apply dm|apply bU|apply dY|apply dM|apply lJ|apply fU);simp-dsimp(disch:=try exact vD) only[push_cast,simprocAttr];(repeat refine aI ?_);(first|refine hK _ _ _ ?_|refine hK _ _ ?_);exact zz.down)):p:=h ⟨k⟩
theorem iy{p q:Prop}(k:q)(h:PLift q→p:=by(intro zz;(first|refine ay rfl (fun K hK=>?_)|refine aj (fun K hK=>?_)|refine aA (fun K hK=>?_));(first|apply sS|apply ni|apply gz|apply nV|apply iI);simp-dsimp(disch:=try exact vD) only[push_cast,simprocAttr];(repeat refine aI ?_);(first|refine hK _ _ _ ?_|refine hK _ _ ?_);exact zz.down)):p:=h ⟨k⟩
theorem iA{p q:Prop}(k:q)(h:PLift q→p:=by(intro zz;(first|refine ay rfl (fun K hK=>?_)|refine aj (fun K hK=>?_)|refine aA (fun K hK=>?_));(first|apply eO|apply jf);simp-dsimp(disch:=try exact vD) only[push_cast,simprocAttr];(repeat refine aI ?_);(first|refine hK _ _ _ ?_|refine hK _ _ ?_);exact zz.down)):p:=h ⟨k⟩
theorem iB{p q:Prop}(k:q)(h:PLift q→p:=by(intro zz;(first|refine ay rfl (fun K hK=>?_)|refine aj (fun K hK=>?_)|refine aA (fun K hK=>?_));(first|apply eH|apply lK);simp-dsimp(disch:=try exact vD) only[push_cast,simprocAttr];(repeat refine aI ?_);(first|refine hK _ _ _ ?_|refine hK _ _ ?_);exact zz.down)):p:=h ⟨k⟩
theorem az{p q cT:Prop}(c:cT)(k:q)(h:PLift cT→PLift q→p:=by(intro cc zz;(first|refine ay rfl (fun K hK=>?_)|refine aj (fun K hK=>?_)|refine aA (fun K hK=>?_));refine ah (f:=Sk cc) [] 0 false ?_;simp-dsimp(disch:=try exact vD) only[push_cast,simprocAttr];(repeat refine aI ?_);intro G hG;refine hG _ _ ?_;clear hG G;refine⟨_,_,cc.down,?_⟩;simp-dsimp(disch:=try exact vD) only[push_cast,simprocAttr];(repeat refine aI ?_);(first|refine hK _ _ _ ?_|refine hK _ _ ?_);exact zz.down)):p:=h ⟨c⟩ ⟨k⟩
theorem jP{p q:Prop}(k:q)(h:PLift q→p:=by(intro zz;simp-dsimp(disch:=try exact vD) only[push_cast,simprocAttr];(repeat refine aI ?_);intro G hG;refine hG _ _ ?_;exact zz.down)):p:=h ⟨k⟩
theorem aL{p q:Prop}(k:q)(h:PLift q→p:=by(intro zz;(first|refine aQ rfl rfl (fun K1 K2 h1 h2=>?_) rfl|refine aJ (fun K1 K2 h1 h2=>?_)|refine bL rfl rfl (fun K1 K2 h1 h2=>?_));simp-dsimp(disch:=try exact vD) only[push_cast,simprocAttr];(first|refine h1 ?_|refine h2 ?_);exact zz.down)):p:=h ⟨k⟩
theorem aM{p q r:Prop}(k1:q)(k2:r)(h:PLift q→PLift r→p:=by(intro z1 z2;(first|refine aQ rfl rfl (fun K1 K2 h1 h2=>?_) rfl|refine aJ (fun K1 K2 h1 h2=>?_)|refine bL rfl rfl (fun K1 K2 h1 h2=>?_));simp-dsimp(disch:=try exact vD) only[push_cast,simprocAttr];refine⟨fun hc=>?_,fun hc=>?_⟩;(refine h1 ?_;revert hc;exact z1.down);(refine h2 ?_;revert hc;exact z2.down))):p:=h ⟨k1⟩ ⟨k2⟩
theorem mO{p:Prop}(h:p:=by((try simp only[List.cons_append,List.nil_append]);refine Sub.mk2 ?_;(simp-dsimp(disch:=try exact vD) only[push_cast,simprocAttr]);(repeat refine aI ?_);(first|done|(first|exact vI|fail)))):p:=h
theorem gQ{p q:Prop}(k:q)(h:PLift q→p:=by(intro zz;simp-dsimp(disch:=try exact vD) only[push_cast,simprocAttr,zx1,zx2,zx3];(repeat refine aI ?_);exact zz.down)):p:=h ⟨k⟩
theorem bM{p q:Prop}(k:q)(h:PLift q→p:=by(intro zz;(first|refine ay rfl (fun K hK=>?_)|refine aj (fun K hK=>?_)|refine aA (fun K hK=>?_));(first|apply cO|apply aZ|apply df|apply aT|apply aW|apply bf|apply bu|apply gL|apply fK|apply bZ|apply fA|apply gJ|apply gK|apply eX|apply gm|apply fu|apply eG|apply nU|apply ji|apply iX|apply eZ|apply aX|apply fM|apply dK|apply ik|apply kw|apply jB|apply iH|apply jC|apply Ei|apply Eh|apply jg|apply j5|apply lL|apply jk|apply iq|apply dP|apply dm|apply bU|apply dY|apply dM|apply lJ|apply fU);simp-dsimp(disch:=try exact vD) only[push_cast,simprocAttr,zx1,zx2,zx3];(repeat refine aI ?_);(first|refine hK _ _ _ ?_|refine hK _ _ ?_);exact zz.down)):p:=h ⟨k⟩
theorem jT{p q:Prop}(k:q)(h:PLift q→p:=by(intro zz;(first|refine ay rfl (fun K hK=>?_)|refine aj (fun K hK=>?_)|refine aA (fun K hK=>?_));(first|apply sS|apply ni|apply gz|apply nV|apply iI);simp-dsimp(disch:=try exact vD) only[push_cast,simprocAttr,zx1,zx2,zx3];(repeat refine aI ?_);(first|refine hK _ _ _ ?_|refine hK _ _ ?_);exact zz.down)):p:=h ⟨k⟩
theorem jU{p q:Prop}(k:q)(h:PLift q→p:=by(intro zz;(first|refine ay rfl (fun K hK=>?_)|refine aj (fun K hK=>?_)|refine aA (fun K hK=>?_));(first|apply eO|apply jf);simp-dsimp(disch:=try exact vD) only[push_cast,simprocAttr,zx1,zx2,zx3];(repeat refine aI ?_);(first|refine hK _ _ _ ?_|refine hK _ _ ?_);exact zz.down)):p:=h ⟨k⟩
theorem jV{p q:Prop}(k:q)(h:PLift q→p:=by(intro zz;(first|refine ay rfl (fun K hK=>?_)|refine aj (fun K hK=>?_)|refine aA (fun K hK=>?_));(first|apply eH|apply lK);simp-dsimp(disch:=try exact vD) only[push_cast,simprocAttr,zx1,zx2,zx3];(repeat refine aI ?_);(first|refine hK _ _ _ ?_|refine hK _ _ ?_);exact zz.down)):p:=h ⟨k⟩
theorem bE{p q cT:Prop}(c:cT)(k:q)(h:PLift cT→PLift q→p:=by(intro cc zz;(first|refine ay rfl (fun K hK=>?_)|refine aj (fun K hK=>?_)|refine aA (fun K hK=>?_));refine ah (f:=Sk cc) [] 0 false ?_;simp-dsimp(disch:=try exact vD) only[push_cast,simprocAttr,zx1,zx2,zx3];(repeat refine aI ?_);intro G hG;refine hG _ _ ?_;clear hG G;refine⟨_,_,cc.down,?_⟩;simp-dsimp(disch:=try exact vD) only[push_cast,simprocAttr,zx1,zx2,zx3];(repeat refine aI ?_);(first|refine hK _ _ _ ?_|refine hK _ _ ?_);exact zz.down)):p:=h ⟨c⟩ ⟨k⟩
theorem l8{p q:Prop}(k:q)(h:PLift q→p:=by(intro zz;simp-dsimp(disch:=try exact vD) only[push_cast,simprocAttr,zx1,zx2,zx3];(repeat refine aI ?_);intro G hG;refine hG _ _ ?_;exact zz.down)):p:=h ⟨k⟩
theorem bO{p q:Prop}(k:q)(h:PLift q→p:=by(intro zz;(first|refine aQ rfl rfl (fun K1 K2 h1 h2=>?_) rfl|refine aJ (fun K1 K2 h1 h2=>?_)|refine bL rfl rfl (fun K1 K2 h1 h2=>?_));simp-dsimp(disch:=try exact vD) only[push_cast,simprocAttr,zx1,zx2,zx3];(first|refine h1 ?_|refine h2 ?_);exact zz.down)):p:=h ⟨k⟩
theorem bP{p q r:Prop}(k1:q)(k2:r)(h:PLift q→PLift r→p:=by(intro z1 z2;(first|refine aQ rfl rfl (fun K1 K2 h1 h2=>?_) rfl|refine aJ (fun K1 K2 h1 h2=>?_)|refine bL rfl rfl (fun K1 K2 h1 h2=>?_));simp-dsimp(disch:=try exact vD) only[push_cast,simprocAttr,zx1,zx2,zx3];refine⟨fun hc=>?_,fun hc=>?_⟩;(refine h1 ?_;revert hc;exact z1.down);(refine h2 ?_;revert hc;exact z2.down))):p:=h ⟨k1⟩ ⟨k2⟩
theorem eQ{p:Prop}(h:p:=by((try simp only[List.cons_append,List.nil_append]);refine Sub.mk2 ?_;(simp-dsimp(disch:=try exact vD) only[push_cast,simprocAttr,zx1,zx2,zx3]);(repeat refine aI ?_);(first|done|(first|exact vI|fail)))):p:=h
theorem Ll{p q:Prop}(k:q)(h:PLift q→p:=by(intro zz;simp-dsimp(disch:=try exact vD) only[push_cast,simprocAttr,zx1,zx2,zx3,zx4,zx5,zx6];(repeat refine aI ?_);exact zz.down)):p:=h ⟨k⟩
theorem kE{p q:Prop}(k:q)(h:PLift q→p:=by(intro zz;(first|refine ay rfl (fun K hK=>?_)|refine aj (fun K hK=>?_)|refine aA (fun K hK=>?_));(first|apply cO|apply aZ|apply df|apply aT|apply aW|apply bf|apply bu|apply gL|apply fK|apply bZ|apply fA|apply gJ|apply gK|apply eX|apply gm|apply fu|apply eG|apply nU|apply ji|apply iX|apply eZ|apply aX|apply fM|apply dK|apply ik|apply kw|apply jB|apply iH|apply jC|apply Ei|apply Eh|apply jg|apply j5|apply lL|apply jk|apply iq|apply dP|apply dm|apply bU|apply dY|apply dM|apply lJ|apply fU);simp-dsimp(disch:=try exact vD) only[push_cast,simprocAttr,zx1,zx2,zx3,zx4,zx5,zx6];(repeat refine aI ?_);(first|refine hK _ _ _ ?_|refine hK _ _ ?_);exact zz.down)):p:=h ⟨k⟩
theorem AX{p q:Prop}(k:q)(h:PLift q→p:=by(intro zz;(first|refine ay rfl (fun K hK=>?_)|refine aj (fun K hK=>?_)|refine aA (fun K hK=>?_));(first|apply sS|apply ni|apply gz|apply nV|apply iI);simp-dsimp(disch:=try exact vD) only[push_cast,simprocAttr,zx1,zx2,zx3,zx4,zx5,zx6];(repeat refine aI ?_);(first|refine hK _ _ _ ?_|refine hK _ _ ?_);exact zz.down)):p:=h ⟨k⟩
theorem AY{p q:Prop}(k:q)(h:PLift q→p:=by(intro zz;(first|refine ay rfl (fun K hK=>?_)|refine aj (fun K hK=>?_)|refine aA (fun K hK=>?_));(first|apply eO|apply jf);simp-dsimp(disch:=try exact vD) only[push_cast,simprocAttr,zx1,zx2,zx3,zx4,zx5,zx6];(repeat refine aI ?_);(first|refine hK _ _ _ ?_|refine hK _ _ ?_);exact zz.down)):p:=h ⟨k⟩
theorem AZ{p q:Prop}(k:q)(h:PLift q→p:=by(intro zz;(first|refine ay rfl (fun K hK=>?_)|refine aj (fun K hK=>?_)|refine aA (fun K hK=>?_));(first|apply eH|apply lK);simp-dsimp(disch:=try exact vD) only[push_cast,simprocAttr,zx1,zx2,zx3,zx4,zx5,zx6];(repeat refine aI ?_);(first|refine hK _ _ _ ?_|refine hK _ _ ?_);exact zz.down)):p:=h ⟨k⟩
theorem gG{p q cT:Prop}(c:cT)(k:q)(h:PLift cT→PLift q→p:=by(intro cc zz;(first|refine ay rfl (fun K hK=>?_)|refine aj (fun K hK=>?_)|refine aA (fun K hK=>?_));refine ah (f:=Sk cc) [] 0 false ?_;simp-dsimp(disch:=try exact vD) only[push_cast,simprocAttr,zx1,zx2,zx3,zx4,zx5,zx6];(repeat refine aI ?_);intro G hG;refine hG _ _ ?_;clear hG G;refine⟨_,_,cc.down,?_⟩;simp-dsimp(disch:=try exact vD) only[push_cast,simprocAttr,zx1,zx2,zx3,zx4,zx5,zx6];(repeat refine aI ?_);(first|refine hK _ _ _ ?_|refine hK _ _ ?_);exact zz.down)):p:=h ⟨c⟩ ⟨k⟩
theorem kF{p q:Prop}(k:q)(h:PLift q→p:=by(intro zz;(first|refine aQ rfl rfl (fun K1 K2 h1 h2=>?_) rfl|refine aJ (fun K1 K2 h1 h2=>?_)|refine bL rfl rfl (fun K1 K2 h1 h2=>?_));simp-dsimp(disch:=try exact vD) only[push_cast,simprocAttr,zx1,zx2,zx3,zx4,zx5,zx6];(first|refine h1 ?_|refine h2 ?_);exact zz.down)):p:=h ⟨k⟩
theorem kG{p q r:Prop}(k1:q)(k2:r)(h:PLift q→PLift r→p:=by(intro z1 z2;(first|refine aQ rfl rfl (fun K1 K2 h1 h2=>?_) rfl|refine aJ (fun K1 K2 h1 h2=>?_)|refine bL rfl rfl (fun K1 K2 h1 h2=>?_));simp-dsimp(disch:=try exact vD) only[push_cast,simprocAttr,zx1,zx2,zx3,zx4,zx5,zx6];refine⟨fun hc=>?_,fun hc=>?_⟩;(refine h1 ?_;revert hc;exact z1.down);(refine h2 ?_;revert hc;exact z2.down))):p:=h ⟨k1⟩ ⟨k2⟩
theorem gY{p:Prop}(h:p:=by((try simp only[List.cons_append,List.nil_append]);refine Sub.mk2 ?_;(simp-dsimp(disch:=try exact vD) only[push_cast,simprocAttr,zx1,zx2,zx3,zx4,zx5,zx6]);(repeat refine aI ?_);(first|done|(first|exact vI|fail)))):p:=h
theorem qV{p q:Prop}(k:q)(h:PLift q→p:=by(intro zz;simp-dsimp(disch:=try exact vD) only[push_cast,simprocAttr,zx1,zx2,zx3,zx4,zx5,zx6,zx7,zx8,zx9];(repeat refine aI ?_);exact zz.down)):p:=h ⟨k⟩
theorem uz{p q:Prop}(k:q)(h:PLift q→p:=by(intro zz;(first|refine ay rfl (fun K hK=>?_)|refine aj (fun K hK=>?_)|refine aA (fun K hK=>?_));(first|apply cO|apply aZ|apply df|apply aT|apply aW|apply bf|apply bu|apply gL|apply fK|apply bZ|apply fA|apply gJ|apply gK|apply eX|apply gm|apply fu|apply eG|apply nU|apply ji|apply iX|apply eZ|apply aX|apply fM|apply dK|apply ik|apply kw|apply jB|apply iH|apply jC|apply Ei|apply Eh|apply jg|apply j5|apply lL|apply jk|apply iq|apply dP|apply dm|apply bU|apply dY|apply dM|apply lJ|apply fU);simp-dsimp(disch:=try exact vD) only[push_cast,simprocAttr,zx1,zx2,zx3,zx4,zx5,zx6,zx7,zx8,zx9];(repeat refine aI ?_);(first|refine hK _ _ _ ?_|refine hK _ _ ?_);exact zz.down)):p:=h ⟨k⟩
theorem Ic{p q:Prop}(k:q)(h:PLift q→p:=by(intro zz;(first|refine ay rfl (fun K hK=>?_)|refine aj (fun K hK=>?_)|refine aA (fun K hK=>?_));(first|apply sS|apply ni|apply gz|apply nV|apply iI);simp-dsimp(disch:=try exact vD) only[push_cast,simprocAttr,zx1,zx2,zx3,zx4,zx5,zx6,zx7,zx8,zx9];(repeat refine aI ?_);(first|refine hK _ _ _ ?_|refine hK _ _ ?_);exact zz.down)):p:=h ⟨k⟩
theorem Ie{p q:Prop}(k:q)(h:PLift q→p:=by(intro zz;(first|refine ay rfl (fun K hK=>?_)|refine aj (fun K hK=>?_)|refine aA (fun K hK=>?_));(first|apply eO|apply jf);simp-dsimp(disch:=try exact vD) only[push_cast,simprocAttr,zx1,zx2,zx3,zx4,zx5,zx6,zx7,zx8,zx9];(repeat refine aI ?_);(first|refine hK _ _ _ ?_|refine hK _ _ ?_);exact zz.down)):p:=h ⟨k⟩
theorem Ig{p q:Prop}(k:q)(h:PLift q→p:=by(intro zz;(first|refine ay rfl (fun K hK=>?_)|refine aj (fun K hK=>?_)|refine aA (fun K hK=>?_));(first|apply eH|apply lK);simp-dsimp(disch:=try exact vD) only[push_cast,simprocAttr,zx1,zx2,zx3,zx4,zx5,zx6,zx7,zx8,zx9];(repeat refine aI ?_);(first|refine hK _ _ _ ?_|refine hK _ _ ?_);exact zz.down)):p:=h ⟨k⟩
theorem NQ{p q cT:Prop}(c:cT)(k:q)(h:PLift cT→PLift q→p:=by(intro cc zz;(first|refine ay rfl (fun K hK=>?_)|refine aj (fun K hK=>?_)|refine aA (fun K hK=>?_));refine ah (f:=Sk cc) [] 0 false ?_;simp-dsimp(disch:=try exact vD) only[push_cast,simprocAttr,zx1,zx2,zx3,zx4,zx5,zx6,zx7,zx8,zx9];(repeat refine aI ?_);intro G hG;refine hG _ _ ?_;clear hG G;refine⟨_,_,cc.down,?_⟩;simp-dsimp(disch:=try exact vD) only[push_cast,simprocAttr,zx1,zx2,zx3,zx4,zx5,zx6,zx7,zx8,zx9];(repeat refine aI ?_);(first|refine hK _ _ _ ?_|refine hK _ _ ?_);exact zz.down)):p:=h ⟨c⟩ ⟨k⟩
theorem JC{p q:Prop}(k:q)(h:PLift q→p:=by(intro zz;simp-dsimp(disch:=try exact vD) only[push_cast,simprocAttr,zx1,zx2,zx3,zx4,zx5,zx6,zx7,zx8,zx9];(repeat refine aI ?_);intro G hG;refine hG _ _ ?_;exact zz.down)):p:=h ⟨k⟩
theorem uA{p q:Prop}(k:q)(h:PLift q→p:=by(intro zz;(first|refine aQ rfl rfl (fun K1 K2 h1 h2=>?_) rfl|refine aJ (fun K1 K2 h1 h2=>?_)|refine bL rfl rfl (fun K1 K2 h1 h2=>?_));simp-dsimp(disch:=try exact vD) only[push_cast,simprocAttr,zx1,zx2,zx3,zx4,zx5,zx6,zx7,zx8,zx9];(first|refine h1 ?_|refine h2 ?_);exact zz.down)):p:=h ⟨k⟩
theorem uB{p q r:Prop}(k1:q)(k2:r)(h:PLift q→PLift r→p:=by(intro z1 z2;(first|refine aQ rfl rfl (fun K1 K2 h1 h2=>?_) rfl|refine aJ (fun K1 K2 h1 h2=>?_)|refine bL rfl rfl (fun K1 K2 h1 h2=>?_));simp-dsimp(disch:=try exact vD) only[push_cast,simprocAttr,zx1,zx2,zx3,zx4,zx5,zx6,zx7,zx8,zx9];refine⟨fun hc=>?_,fun hc=>?_⟩;(refine h1 ?_;revert hc;exact z1.down);(refine h2 ?_;revert hc;exact z2.down))):p:=h ⟨k1⟩ ⟨k2⟩
theorem kK{p:Prop}(h:p:=by((try simp only[List.cons_append,List.nil_append]);refine Sub.mk2 ?_;(simp-dsimp(disch:=try exact vD) only[push_cast,simprocAttr,zx1,zx2,zx3,zx4,zx5,zx6,zx7,zx8,zx9]);(repeat refine aI ?_);(first|done|(first|exact vI|fail)))):p:=h
theorem Ih{p q:Prop}(k:q)(h:PLift q→p:=by(intro zz;simp-dsimp(disch:=try exact vD) only[push_cast,simprocAttr,zx1,zx2,zx3,zx4,zx5,zx6,zx7,zx8,zx9,zx10,zx11,zx12];(repeat refine aI ?_);exact zz.down)):p:=h ⟨k⟩
theorem A7{p q:Prop}(k:q)(h:PLift q→p:=by(intro zz;(first|refine ay rfl (fun K hK=>?_)|refine aj (fun K hK=>?_)|refine aA (fun K hK=>?_));(first|apply cO|apply aZ|apply df|apply aT|apply aW|apply bf|apply bu|apply gL|apply fK|apply bZ|apply fA|apply gJ|apply gK|apply eX|apply gm|apply fu|apply eG|apply nU|apply ji|apply iX|apply eZ|apply aX|apply fM|apply dK|apply ik|apply kw|apply jB|apply iH|apply jC|apply Ei|apply Eh|apply jg|apply j5|apply lL|apply jk|apply iq|apply dP|apply dm|apply bU|apply dY|apply dM|apply lJ|apply fU);simp-dsimp(disch:=try exact vD) only[push_cast,simprocAttr,zx1,zx2,zx3,zx4,zx5,zx6,zx7,zx8,zx9,zx10,zx11,zx12];(repeat refine aI ?_);(first|refine hK _ _ _ ?_|refine hK _ _ ?_);exact zz.down)):p:=h ⟨k⟩
theorem NR{p q:Prop}(k:q)(h:PLift q→p:=by(intro zz;(first|refine ay rfl (fun K hK=>?_)|refine aj (fun K hK=>?_)|refine aA (fun K hK=>?_));(first|apply sS|apply ni|apply gz|apply nV|apply iI);simp-dsimp(disch:=try exact vD) only[push_cast,simprocAttr,zx1,zx2,zx3,zx4,zx5,zx6,zx7,zx8,zx9,zx10,zx11,zx12];(repeat refine aI ?_);(first|refine hK _ _ _ ?_|refine hK _ _ ?_);exact zz.down)):p:=h ⟨k⟩
theorem NS{p q:Prop}(k:q)(h:PLift q→p:=by(intro zz;(first|refine ay rfl (fun K hK=>?_)|refine aj (fun K hK=>?_)|refine aA (fun K hK=>?_));(first|apply eO|apply jf);simp-dsimp(disch:=try exact vD) only[push_cast,simprocAttr,zx1,zx2,zx3,zx4,zx5,zx6,zx7,zx8,zx9,zx10,zx11,zx12];(repeat refine aI ?_);(first|refine hK _ _ _ ?_|refine hK _ _ ?_);exact zz.down)):p:=h ⟨k⟩
theorem NT{p q:Prop}(k:q)(h:PLift q→p:=by(intro zz;(first|refine ay rfl (fun K hK=>?_)|refine aj (fun K hK=>?_)|refine aA (fun K hK=>?_));(first|apply eH|apply lK);simp-dsimp(disch:=try exact vD) only[push_cast,simprocAttr,zx1,zx2,zx3,zx4,zx5,zx6,zx7,zx8,zx9,zx10,zx11,zx12];(repeat refine aI ?_);(first|refine hK _ _ _ ?_|refine hK _ _ ?_);exact zz.down)):p:=h ⟨k⟩
theorem Er{p q cT:Prop}(c:cT)(k:q)(h:PLift cT→PLift q→p:=by(intro cc zz;(first|refine ay rfl (fun K hK=>?_)|refine aj (fun K hK=>?_)|refine aA (fun K hK=>?_));refine ah (f:=Sk cc) [] 0 false ?_;simp-dsimp(disch:=try exact vD) only[push_cast,simprocAttr,zx1,zx2,zx3,zx4,zx5,zx6,zx7,zx8,zx9,zx10,zx11,zx12];(repeat refine aI ?_);intro G hG;refine hG _ _ ?_;clear hG G;refine⟨_,_,cc.down,?_⟩;simp-dsimp(disch:=try exact vD) only[push_cast,simprocAttr,zx1,zx2,zx3,zx4,zx5,zx6,zx7,zx8,zx9,zx10,zx11,zx12];(repeat refine aI ?_);(first|refine hK _ _ _ ?_|refine hK _ _ ?_);exact zz.down)):p:=h ⟨c⟩ ⟨k⟩
theorem akw{p q:Prop}(k:q)(h:PLift q→p:=by(intro zz;simp-dsimp(disch:=try exact vD) only[push_cast,simprocAttr,zx1,zx2,zx3,zx4,zx5,zx6,zx7,zx8,zx9,zx10,zx11,zx12];(repeat refine aI ?_);intro G hG;refine hG _ _ ?_;exact zz.down)):p:=h ⟨k⟩
theorem A8{p q:Prop}(k:q)(h:PLift q→p:=by(intro zz;(first|refine aQ rfl rfl (fun K1 K2 h1 h2=>?_) rfl|refine aJ (fun K1 K2 h1 h2=>?_)|refine bL rfl rfl (fun K1 K2 h1 h2=>?_));simp-dsimp(disch:=try exact vD) only[push_cast,simprocAttr,zx1,zx2,zx3,zx4,zx5,zx6,zx7,zx8,zx9,zx10,zx11,zx12];(first|refine h1 ?_|refine h2 ?_);exact zz.down)):p:=h ⟨k⟩
theorem A9{p q r:Prop}(k1:q)(k2:r)(h:PLift q→PLift r→p:=by(intro z1 z2;(first|refine aQ rfl rfl (fun K1 K2 h1 h2=>?_) rfl|refine aJ (fun K1 K2 h1 h2=>?_)|refine bL rfl rfl (fun K1 K2 h1 h2=>?_));simp-dsimp(disch:=try exact vD) only[push_cast,simprocAttr,zx1,zx2,zx3,zx4,zx5,zx6,zx7,zx8,zx9,zx10,zx11,zx12];refine⟨fun hc=>?_,fun hc=>?_⟩;(refine h1 ?_;revert hc;exact z1.down);(refine h2 ?_;revert hc;exact z2.down))):p:=h ⟨k1⟩ ⟨k2⟩
theorem iP{p:Prop}(h:p:=by((try simp only[List.cons_append,List.nil_append]);refine Sub.mk2 ?_;(simp-dsimp(disch:=try exact vD) only[push_cast,simprocAttr,zx1,zx2,zx3,zx4,zx5,zx6,zx7,zx8,zx9,zx10,zx11,zx12]);(repeat refine aI ?_);(first|done|(first|exact vI|fail)))):p:=h
theorem akx{p q:Prop}(k:q)(h:PLift q→p:=by(intro zz;simp-dsimp(disch:=try exact vD) only[push_cast,simprocAttr,zx1,zx2,zx3,zx4,zx5,zx6,zx7,zx8,zx9,zx10,zx11,zx12,zx13,zx14,zx15,zx16];(repeat refine aI ?_);exact zz.down)):p:=h ⟨k⟩
theorem VZ{p q:Prop}(k:q)(h:PLift q→p:=by(intro zz;(first|refine ay rfl (fun K hK=>?_)|refine aj (fun K hK=>?_)|refine aA (fun K hK=>?_));(first|apply cO|apply aZ|apply df|apply aT|apply aW|apply bf|apply bu|apply gL|apply fK|apply bZ|apply fA|apply gJ|apply gK|apply eX|apply gm|apply fu|apply eG|apply nU|apply ji|apply iX|apply eZ|apply aX|apply fM|apply dK|apply ik|apply kw|apply jB|apply iH|apply jC|apply Ei|apply Eh|apply jg|apply j5|apply lL|apply jk|apply iq|apply dP|apply dm|apply bU|apply dY|apply dM|apply lJ|apply fU);simp-dsimp(disch:=try exact vD) only[push_cast,simprocAttr,zx1,zx2,zx3,zx4,zx5,zx6,zx7,zx8,zx9,zx10,zx11,zx12,zx13,zx14,zx15,zx16];(repeat refine aI ?_);(first|refine hK _ _ _ ?_|refine hK _ _ ?_);exact zz.down)):p:=h ⟨k⟩
theorem V3{p q cT:Prop}(c:cT)(k:q)(h:PLift cT→PLift q→p:=by(intro cc zz;(first|refine ay rfl (fun K hK=>?_)|refine aj (fun K hK=>?_)|refine aA (fun K hK=>?_));refine ah (f:=Sk cc) [] 0 false ?_;simp-dsimp(disch:=try exact vD) only[push_cast,simprocAttr,zx1,zx2,zx3,zx4,zx5,zx6,zx7,zx8,zx9,zx10,zx11,zx12,zx13,zx14,zx15,zx16];(repeat refine aI ?_);intro G hG;refine hG _ _ ?_;clear hG G;refine⟨_,_,cc.down,?_⟩;simp-dsimp(disch:=try exact vD) only[push_cast,simprocAttr,zx1,zx2,zx3,zx4,zx5,zx6,zx7,zx8,zx9,zx10,zx11,zx12,zx13,zx14,zx15,zx16];(repeat refine aI ?_);(first|refine hK _ _ _ ?_|refine hK _ _ ?_);exact zz.down)):p:=h ⟨c⟩ ⟨k⟩
theorem V4{p q:Prop}(k:q)(h:PLift q→p:=by(intro zz;(first|refine aQ rfl rfl (fun K1 K2 h1 h2=>?_) rfl|refine aJ (fun K1 K2 h1 h2=>?_)|refine bL rfl rfl (fun K1 K2 h1 h2=>?_));simp-dsimp(disch:=try exact vD) only[push_cast,simprocAttr,zx1,zx2,zx3,zx4,zx5,zx6,zx7,zx8,zx9,zx10,zx11,zx12,zx13,zx14,zx15,zx16];(first|refine h1 ?_|refine h2 ?_);exact zz.down)):p:=h ⟨k⟩
theorem V5{p q r:Prop}(k1:q)(k2:r)(h:PLift q→PLift r→p:=by(intro z1 z2;(first|refine aQ rfl rfl (fun K1 K2 h1 h2=>?_) rfl|refine aJ (fun K1 K2 h1 h2=>?_)|refine bL rfl rfl (fun K1 K2 h1 h2=>?_));simp-dsimp(disch:=try exact vD) only[push_cast,simprocAttr,zx1,zx2,zx3,zx4,zx5,zx6,zx7,zx8,zx9,zx10,zx11,zx12,zx13,zx14,zx15,zx16];refine⟨fun hc=>?_,fun hc=>?_⟩;(refine h1 ?_;revert hc;exact z1.down);(refine h2 ?_;revert hc;exact z2.down))):p:=h ⟨k1⟩ ⟨k2⟩
theorem Ba{p:Prop}(h:p:=by((try simp only[List.cons_append,List.nil_append]);refine Sub.mk2 ?_;(simp-dsimp(disch:=try exact vD) only[push_cast,simprocAttr,zx1,zx2,zx3,zx4,zx5,zx6,zx7,zx8,zx9,zx10,zx11,zx12,zx13,zx14,zx15,zx16]);(repeat refine aI ?_);(first|done|(first|exact vI|fail)))):p:=h
theorem V6{p q:Prop}(k:q)(h:PLift q→p:=by(intro zz;simp-dsimp(disch:=try exact vD) only[push_cast,simprocAttr,zx1,zx2,zx3,zx4,zx5,zx6,zx7,zx8,zx9,zx10,zx11,zx12,zx13,zx14,zx15,zx16,zx17,zx18,zx19,zx20];(repeat refine aI ?_);exact zz.down)):p:=h ⟨k⟩
theorem aeB{p q:Prop}(k:q)(h:PLift q→p:=by(intro zz;(first|refine ay rfl (fun K hK=>?_)|refine aj (fun K hK=>?_)|refine aA (fun K hK=>?_));(first|apply cO|apply aZ|apply df|apply aT|apply aW|apply bf|apply bu|apply gL|apply fK|apply bZ|apply fA|apply gJ|apply gK|apply eX|apply gm|apply fu|apply eG|apply nU|apply ji|apply iX|apply eZ|apply aX|apply fM|apply dK|apply ik|apply kw|apply jB|apply iH|apply jC|apply Ei|apply Eh|apply jg|apply j5|apply lL|apply jk|apply iq|apply dP|apply dm|apply bU|apply dY|apply dM|apply lJ|apply fU);simp-dsimp(disch:=try exact vD) only[push_cast,simprocAttr,zx1,zx2,zx3,zx4,zx5,zx6,zx7,zx8,zx9,zx10,zx11,zx12,zx13,zx14,zx15,zx16,zx17,zx18,zx19,zx20];(repeat refine aI ?_);(first|refine hK _ _ _ ?_|refine hK _ _ ?_);exact zz.down)):p:=h ⟨k⟩
theorem ahu{p q:Prop}(k:q)(h:PLift q→p:=by(intro zz;(first|refine ay rfl (fun K hK=>?_)|refine aj (fun K hK=>?_)|refine aA (fun K hK=>?_));(first|apply sS|apply ni|apply gz|apply nV|apply iI);simp-dsimp(disch:=try exact vD) only[push_cast,simprocAttr,zx1,zx2,zx3,zx4,zx5,zx6,zx7,zx8,zx9,zx10,zx11,zx12,zx13,zx14,zx15,zx16,zx17,zx18,zx19,zx20];(repeat refine aI ?_);(first|refine hK _ _ _ ?_|refine hK _ _ ?_);exact zz.down)):p:=h ⟨k⟩
theorem ahv{p q:Prop}(k:q)(h:PLift q→p:=by(intro zz;(first|refine ay rfl (fun K hK=>?_)|refine aj (fun K hK=>?_)|refine aA (fun K hK=>?_));(first|apply eO|apply jf);simp-dsimp(disch:=try exact vD) only[push_cast,simprocAttr,zx1,zx2,zx3,zx4,zx5,zx6,zx7,zx8,zx9,zx10,zx11,zx12,zx13,zx14,zx15,zx16,zx17,zx18,zx19,zx20];(repeat refine aI ?_);(first|refine hK _ _ _ ?_|refine hK _ _ ?_);exact zz.down)):p:=h ⟨k⟩
theorem ahw{p q:Prop}(k:q)(h:PLift q→p:=by(intro zz;(first|refine ay rfl (fun K hK=>?_)|refine aj (fun K hK=>?_)|refine aA (fun K hK=>?_));(first|apply eH|apply lK);simp-dsimp(disch:=try exact vD) only[push_cast,simprocAttr,zx1,zx2,zx3,zx4,zx5,zx6,zx7,zx8,zx9,zx10,zx11,zx12,zx13,zx14,zx15,zx16,zx17,zx18,zx19,zx20];(repeat refine aI ?_);(first|refine hK _ _ _ ?_|refine hK _ _ ?_);exact zz.down)):p:=h ⟨k⟩
theorem aky{p q:Prop}(k:q)(h:PLift q→p:=by(intro zz;simp-dsimp(disch:=try exact vD) only[push_cast,simprocAttr,zx1,zx2,zx3,zx4,zx5,zx6,zx7,zx8,zx9,zx10,zx11,zx12,zx13,zx14,zx15,zx16,zx17,zx18,zx19,zx20];(repeat refine aI ?_);intro G hG;refine hG _ _ ?_;exact zz.down)):p:=h ⟨k⟩
theorem aeC{p q:Prop}(k:q)(h:PLift q→p:=by(intro zz;(first|refine aQ rfl rfl (fun K1 K2 h1 h2=>?_) rfl|refine aJ (fun K1 K2 h1 h2=>?_)|refine bL rfl rfl (fun K1 K2 h1 h2=>?_));simp-dsimp(disch:=try exact vD) only[push_cast,simprocAttr,zx1,zx2,zx3,zx4,zx5,zx6,zx7,zx8,zx9,zx10,zx11,zx12,zx13,zx14,zx15,zx16,zx17,zx18,zx19,zx20];(first|refine h1 ?_|refine h2 ?_);exact zz.down)):p:=h ⟨k⟩
theorem aeD{p q r:Prop}(k1:q)(k2:r)(h:PLift q→PLift r→p:=by(intro z1 z2;(first|refine aQ rfl rfl (fun K1 K2 h1 h2=>?_) rfl|refine aJ (fun K1 K2 h1 h2=>?_)|refine bL rfl rfl (fun K1 K2 h1 h2=>?_));simp-dsimp(disch:=try exact vD) only[push_cast,simprocAttr,zx1,zx2,zx3,zx4,zx5,zx6,zx7,zx8,zx9,zx10,zx11,zx12,zx13,zx14,zx15,zx16,zx17,zx18,zx19,zx20];refine⟨fun hc=>?_,fun hc=>?_⟩;(refine h1 ?_;revert hc;exact z1.down);(refine h2 ?_;revert hc;exact z2.down))):p:=h ⟨k1⟩ ⟨k2⟩
theorem wB{p:Prop}(h:p:=by((try simp only[List.cons_append,List.nil_append]);refine Sub.mk2 ?_;(simp-dsimp(disch:=try exact vD) only[push_cast,simprocAttr,zx1,zx2,zx3,zx4,zx5,zx6,zx7,zx8,zx9,zx10,zx11,zx12,zx13,zx14,zx15,zx16,zx17,zx18,zx19,zx20]);(repeat refine aI ?_);(first|done|(first|exact vI|fail)))):p:=h
theorem zqO{p:Prop}(h:p:=by(first|omega|(dsimp only;omega)|(simp;done)|(simp;omega))):p:=h
theorem zqN{p q:Prop}(k:q)(h:PLift q→p:=by(intro zz;(first|refine dG ?_|refine aF ?_|refine dH ?_|refine aR ?_|refine bX ?_|refine bz ?_|refine aS ?_|refine bY ?_|refine bA ?_|refine aY rfl ?_|refine bB ?_|refine bW ?_|refine bV ?_|refine dF ?_);exact zz.down)):p:=h ⟨k⟩
theorem zqD{p q:Prop}(k:q)(h:PLift q→p:=by(intro zz;(first|apply jl|((first|refine dW (by kernel_rfl) (fun K hK=>?_)|refine gy (by kernel_rfl) (fun K hK=>?_));simp only[↓Go.Sy.dz,↓Go.Sy.dA,↓Go.Sy.dU,↓Go.Sy.dD,↓Go.Sy.dV,↓Go.Sy.cZ,↓Go.Sy.dE,push_cast,Nat.reduceLeDiff,Nat.reduceSub,Nat.reduceBEq,Nat.reduceEqDiff,Nat.reduceAdd,Nat.reduceLT,↓reduceIte,reduceCtorEq];refine hK _ _ _ ?_));exact zz.down)):p:=h ⟨k⟩
theorem zqS{p q:Prop}(k:q)(h:PLift q→p:=by(intro zz;simp-dsimp(disch:=try exact vD) only[push_cast,simprocAttr];exact zz.down)):p:=h ⟨k⟩
theorem zqI{p:Prop}(h:p:=by(first|exact .inr rfl|exact .inl rfl)):p:=h
def zqdm:Nat:=0
theorem aC:zqdm=0:=rfl
theorem zqM{p:Prop}(h:p:=by(exfalso;first|omega|contradiction)):p:=h
theorem zqF{p:Prop}(h:p:=by((repeat refine aI ?_);first|done|exact vI)):p:=h
theorem zqR{P:Program} {Q:Exit→Nat→St→Prop} {nid n m:Nat} {env:List (Nat×AV)} {objs:List (Nat×Option aD)} {l:List Oper}(id:Nat)(sds:List Sd)(h:DGo P l.toArray nid ⟨n,m,env,objs⟩ (fun its=>Q .normal (dR nid its) (bv (fun _=>true) 0 its ⟨n,m,env,objs⟩)) [] (l.zip sds))(hm:P.follows .mixedOrders=true:=by kernel_rfl)(hl:sds.length=l.length:=by kernel_rfl)(hB:D9 (l.zip sds) n=true:=by kernel_rfl)(hlt:vW nid objs=true:=by kernel_rfl):AC P (.region id l.toArray true) Q nid ⟨n,m,env,objs⟩:=aV hm sds hl hB hlt h
theorem ak{P:Program} {f:FuncId} {fn:Func} {code:Code} {args:List AV} {objs:List aD} {m N:Nat} {r:AV} {objs':List aD} {q:Prop}(hf:P.funcs[f]? =some fn)(hN:fn.ntmps=N)(hb:fn.body=some code)(k:q)(h:PLift q→AC P code (fun e _ st=>Ends P fn objs m r objs' e st) objs.length (ou N m args objs):=by(intro zz;simp only[ou,idx,List.length,List.map_cons,List.map_nil,List.append_nil,List.cons_append,List.nil_append,Nat.reduceAdd,Nat.zero_add,List.length_cons,List.length_nil];exact zz.down))(hn:args.length≤N:=by simp)(hm:m≤objs.length:=by simp):ACall P f args objs m r objs':=by subst hN;exact ACall.enter hf hb hn hm (h ⟨k⟩)
end
section
open Go.ChangeShapes Go.WideShapes Go.ChangeAt Go.RowKit
theorem iJ{H:Type} {enc:TypeId×Value→H} {C:Checked} {os:Os} {f:FuncId} {fn:Func} {s:ChangeSpec} {tb:TypeId} {X:World→Array Value→Prop}
 (own:ownKnob C.prog.godebug=none) (started:os.Started) (noInit:C.prog.inits.idxOf? f=none) (hfn:C.prog.funcs[f]? =some fn)
 (witness:∃(w:World) (tape:Tape) (i:Input),w.os=os∧(w.forCall tape i).Shaped C.prog∧i.vars=[]∧Input.okWide C.prog (w.forCall tape i) .any w.heap.size f i∧
   ((s.pre enc C.prog fn [] false (w.forCall tape i).memory i.args∧X (w.forCall tape i).memory i.args)∧sizedMet enc C.prog fn (OpenSpec.ofChange s) false (w.forCall tape i).memory i.args)∧Assume.holds {} C.prog (lone (Frame.enter C.prog f i.args .normal) [] (w.forCall tape i)))
 (K:Kids C.prog (· <C.prog.types.size)) (hz:∀t e,t<C.prog.types.size→C.prog.underlying t=some (.slice e)→0<C.prog.cellsOf e) (hts:fn.params.toList.all (fun t=>decide (t<C.prog.types.size))=true)
 (hvars:s.vars=[]) (hres:fn.resultTypes= #[tb]) (hbool:C.prog.underlying tb=some .bool)
 (hspec:∀ds:List (DataW H),ds.length=fn.params.toList.length→s.fn H ds=⟨[.lit (.bool true)],ds,[]⟩)
 (law:∀(W:World) (base:Nat) (args:Array Value) (ds:List (DataW H)) (p:List MemPlace),X W.memory args→(∀(j:Nat) t v,fn.params[j]? =some t→args[j]? =some v→Value.okWide C.prog W .any base t v)→
   DataW.TrodAll enc C.prog W 0 (fun _=>true) true fn.params.toList args.toList ds p→(∀k∈DataW.weightsEach C.prog fn.params.toList ds,k≤reachBytes)→
   Calls C.prog f args W fun e W'=>e= .returned (.bool true)∧More W W'):
 ReturnsInHanded {} C os f .any (fun w args=>(s.pre enc C.prog fn [] false w args∧X w args)∧sizedMet enc C.prog fn (OpenSpec.ofChange s) false w args) (s.post enc C.prog fn false true false false):=by
 refine returnsInHanded_of_calls own started noInit witness ?_
 intro w tape i _ _ _ hok hpre _
 obtain⟨_,_,_,fn',hfn',_,_,_,_,hval⟩:=hok
 have e:fn'=fn:=Option.some.inj (hfn'.symm.trans hfn)
 subst e
 obtain⟨⟨⟨ds,gs,before,hw,_⟩,hX⟩,hsz⟩:=hpre
 have hW:=DataW.Whole.of_heap (w':=w.forCall tape i) (by rfl) hw
 have hwt:=hsz.weights hw
 have hW':=hW
 obtain⟨p,q,hA,hV,rfl,_,_⟩:=hW'
 rw[hvars] at hV
 obtain⟨rfl,rfl⟩:=trodVars_none hV
 have hlen:ds.length=fn'.params.toList.length:=by
  have key:∀{ts:List TypeId} {vs:List Value} {ds:List (DataW H)} {ps:List MemPlace},DataW.TrodAll enc C.prog (w.forCall tape i) 0 (fun _=>true) true ts vs ds ps→ds.length=ts.length:=by
   intro ts
   induction ts with
   |nil=>intro vs ds ps h;obtain⟨_,rfl,_⟩:=trodAll_nil h;rfl
   |cons t ts ih=>intro vs ds ps h;obtain⟨v,vs1,d,ds1,a,b,_,rfl,_,_,h2⟩:=trodAll_cons h;simp[ih h2]
  exact key hA
 refine(law (w.forCall tape i) w.heap.size i.args ds p hX hval hA (fun k hk=>?_)).mono fun e W'=>?_
 ·have:=List.all_eq_true.1 hwt k
  refine of_decide_eq_true (this ?_)
  have app:∀(ts us:List TypeId) (l:List (DataW H)),k∈DataW.weightsEach C.prog ts l→k∈DataW.weightsEach C.prog (ts++us) l:=by
   intro ts
   induction ts with
   |nil=>intro us l h;simp[DataW.weightsEach] at h
   |cons t ts ih=>
    intro us l h
    cases l with
    |nil=>simp[DataW.weightsEach] at h
    |cons d l=>
     rw[List.cons_append,DataW.weightsEach] at*
     rcases List.mem_append.1 h with h|h
     ·exact List.mem_append_left _ h
     ·exact List.mem_append_right _ (ih us l h)
  rw[List.append_nil]
  exact app _ _ _ hk
 ·rintro⟨rfl,hm⟩
  show s.post enc C.prog fn' false true false false (w.forCall tape i).blind i.args (.bool true) W'.blind
  refine ChangeSpec.post_blind (Vy (pa:=p) (pv:=[]) hW (fun b sp hd=>?_) (fun sp hsp=>?_) (fun sp hsp=>?_) hm)
  ·rw[List.append_nil,hspec ds hlen,hres]
   exact trodAll_cons_mk (shut_bool hbool _) trodAll_mk0
  ·rw[List.append_nil,hspec ds hlen]
   rw[List.append_nil] at hsp
   refine DataW.TrodAll.respare K hz (fun t ht=>of_decide_eq_true (List.all_eq_true.1 hts t ht)) (TrodAll.carry hm (fun x hx=>hW.lt x (List.mem_append_left _ hx)) hA) hsp
  ·rw[List.append_nil,hspec ds hlen,hvars];exact rfl
end
section
variable {x y n:Nat} {a b:Int}
def U(x:Nat):Int:=((x%65536:Nat):Int)
def uN(a:Int):Nat:=(a%65536).toNat
theorem aeF:U x<65536:=by unfold U;omega
theorem U_nn:0≤U x:=by unfold U;omega
theorem akz:U (x%65536)=U x:=by unfold U;simp
theorem Lp(h:x<65536):U x=x:=by unfold U;rw[Nat.mod_eq_of_lt h]
theorem uN_U:uN (U x)=x%65536:=by unfold uN U;omega
theorem yu:IntKind.wrap .u16 a=U (uN a):=by
 unfold U uN
 have:IntKind.wrap .u16 a=a%65536:=by simp[IntKind.wrap,IntKind.bits,IntKind.signed]
 rw[this];omega
theorem ofI:(BitVec.ofInt 16 a).toNat=uN a:=by simp[uN,BitVec.toNat_ofInt]
theorem Et:IntKind.wrap .u16 ((x:Nat):Int)=U x:=by rw[yu];unfold uN U;omega
theorem sW:(x&&&y)%65536=(x%65536)&&&(y%65536):=by
 rw[show(65536:Nat)=2^16 by rfl,Nat.and_mod_two_pow]
theorem JE:(x|||y)%65536=(x%65536)|||(y%65536):=by
 rw[show(65536:Nat)=2^16 by rfl,Nat.or_mod_two_pow]
theorem Dn:(x ^^^ y)%65536=(x%65536) ^^^ (y%65536):=by
 rw[show(65536:Nat)=2^16 by rfl,Nat.xor_mod_two_pow]
def nZ(x y:Nat):Nat:=x&&&y
def sor(x y:Nat):Nat:=x|||y
def wD(x y:Nat):Nat:=x ^^^ y
def yw(x y:Nat):Nat:=x&&&(65535-y%65536)
theorem abI(a b:Int):IntKind.wrap .u16 ((BitVec.ofInt (IntKind.bits .u16) a&&&BitVec.ofInt (IntKind.bits .u16) b).toNat:Int)=U (nZ (uN a) (uN b)):=by
 show IntKind.wrap .u16 ((BitVec.ofInt 16 a&&&BitVec.ofInt 16 b).toNat:Int)=_
 rw[BitVec.toNat_and,ofI,ofI,Et];rfl
theorem ahz(a b:Int):IntKind.wrap .u16 ((BitVec.ofInt (IntKind.bits .u16) a|||BitVec.ofInt (IntKind.bits .u16) b).toNat:Int)=U (sor (uN a) (uN b)):=by
 show IntKind.wrap .u16 ((BitVec.ofInt 16 a|||BitVec.ofInt 16 b).toNat:Int)=_
 rw[BitVec.toNat_or,ofI,ofI,Et];rfl
theorem abJ(a b:Int):IntKind.wrap .u16 ((BitVec.ofInt (IntKind.bits .u16) a ^^^ BitVec.ofInt (IntKind.bits .u16) b).toNat:Int)=U (wD (uN a) (uN b)):=by
 show IntKind.wrap .u16 ((BitVec.ofInt 16 a ^^^ BitVec.ofInt 16 b).toNat:Int)=_
 rw[BitVec.toNat_xor,ofI,ofI,Et];rfl
theorem abK(a b:Int):IntKind.wrap .u16 ((BitVec.ofInt (IntKind.bits .u16) a&&& ~~~ BitVec.ofInt (IntKind.bits .u16) b).toNat:Int)=U (yw (uN a) (uN b)):=by
 show IntKind.wrap .u16 ((BitVec.ofInt 16 a&&& ~~~ BitVec.ofInt 16 b).toNat:Int)=_
 rw[BitVec.toNat_and,BitVec.toNat_not,ofI,ofI,Et]
 unfold yw
 have:uN b%65536=uN b:=Nat.mod_eq_of_lt (by unfold uN;omega)
 rw[this,show(2^16-1-uN b:Nat)=65535-uN b by omega]
theorem abL:U (nZ (x%65536) y)=U (nZ x y):=by unfold U nZ;congr 1;rw[sW,sW,Nat.mod_mod]
theorem abM:U (nZ x (y%65536))=U (nZ x y):=by unfold U nZ;congr 1;rw[sW,sW,Nat.mod_mod]
theorem ahA:U (sor (x%65536) y)=U (sor x y):=by unfold U sor;congr 1;rw[JE,JE,Nat.mod_mod]
theorem ahB:U (sor x (y%65536))=U (sor x y):=by unfold U sor;congr 1;rw[JE,JE,Nat.mod_mod]
theorem abN:U (wD (x%65536) y)=U (wD x y):=by unfold U wD;congr 1;rw[Dn,Dn,Nat.mod_mod]
theorem abO:U (wD x (y%65536))=U (wD x y):=by unfold U wD;congr 1;rw[Dn,Dn,Nat.mod_mod]
theorem abP:U (yw (x%65536) y)=U (yw x y):=by unfold U yw;congr 1;rw[sW,sW,Nat.mod_mod]
theorem abQ:U (yw x (y%65536))=U (yw x y):=by unfold U yw;rw[Nat.mod_mod]
theorem P5(x n:Nat):IntKind.wrap .u16 (U x*2^min n (IntKind.bits .u16))=U (x*2^n):=by
 rw[show IntKind.bits .u16=16 from rfl]
 unfold U
 rw[show(((x%65536:Nat):Int)*2^min n 16)=((x%65536*2^min n 16:Nat):Int) by simp,Et]
 unfold U
 congr 1
 rcases Nat.lt_or_ge n 16 with h|h
 ·rw[Nat.min_eq_left (by omega),Nat.mod_mul_mod]
 ·rw[Nat.min_eq_right h]
  obtain⟨d,rfl⟩:∃d,n=16+d:=⟨n-16,by omega⟩
  rw[Nat.pow_add,←Nat.mul_assoc,show(2:Nat)^16=65536 by rfl,Nat.mul_mod_left,Nat.mul_right_comm,Nat.mul_mod_left]
theorem V8(n:Nat):IntKind.wrap .u16 (1*2^min n (IntKind.bits .u16))=U (2^n):=by
 have:=P5 1 n
 rw[Nat.one_mul] at this
 rw[←this];rfl
theorem abR(x n:Nat):Int.fdiv (U x) (2^min n (IntKind.bits .u16))=U (x%65536/2^n):=by
 rw[show IntKind.bits .u16=16 from rfl]
 rw[Int.fdiv_eq_ediv_of_nonneg _ (Int.le_of_lt (Int.pow_pos (by decide)))]
 unfold U
 rw[show(2:Int)^min n 16=((2^min n 16:Nat):Int) by simp,←Int.natCast_ediv]
 congr 1
 have hx:x%65536<65536:=Nat.mod_lt _ (by decide)
 rcases Nat.lt_or_ge n 16 with h|h
 ·rw[Nat.min_eq_left (by omega),Nat.mod_eq_of_lt (Nat.lt_of_le_of_lt (Nat.div_le_self _ _) hx)]
 ·rw[Nat.min_eq_right h,Nat.div_eq_of_lt (by simpa using hx)]
  have:65536≤2^n:=by rw[show(65536:Nat)=2^16 by rfl];exact Nat.pow_le_pow_right (by decide) h
  rw[Nat.div_eq_of_lt (by omega)]
def bit(x n:Nat):Bool:=(x%65536).testBit n
theorem abS(x n:Nat):U (nZ (x%65536/2^n) 1)=if bit x n=true then 1 else 0:=by
 unfold bit U nZ
 rw[Nat.testBit_eq_decide_div_mod_eq,Nat.and_one_is_mod]
 have h2:x%65536/2^n%2<2:=Nat.mod_lt _ (by decide)
 have h3:x%65536/2^n%2%65536=x%65536/2^n%2:=Nat.mod_eq_of_lt (by omega)
 rw[h3]
 by_cases h:x%65536/2^n%2=1
 ·simp[h]
 ·have:x%65536/2^n%2=0:=by omega
  simp[this]
theorem abT{c:Bool}:((if c=true then(1:Int) else 0)=1)=(c=true):=by cases c<;>simp
theorem abU{c:Bool}:((if c=true then(1:Int) else 0)=0)=(c=false):=by cases c<;>simp
theorem V9(n:Nat):IntKind.wrap .u16 (U (2^n)-1)=U (2^n-1):=by
 have h:0<2^n:=Nat.two_pow_pos n
 rw[yu];unfold uN U;omega
theorem abV(x:Nat):IntKind.wrap .u16 (0-U x)=U (65536-x%65536):=by rw[yu];unfold uN U;omega
theorem abW(x y:Nat):IntKind.wrap .u16 (U x+U y)=U (x+y):=by rw[yu];unfold uN U;omega
theorem Wd(x:Nat):IntKind.wrap .u16 (U x+1)=U (x+1):=by rw[yu];unfold uN U;omega
theorem w_U:IntKind.wrap .u16 (U x)=U x:=by rw[yu];unfold uN U;omega
theorem akA:IntKind.wrap .i64 (U x)=U x:=K8 (by have:=U_nn (x:=x);have:=aeF (x:=x);omega)
theorem akB:IntKind.wrap .u32 (U x)=U x:=aez (by have:=U_nn (x:=x);have:=aeF (x:=x);omega)
theorem akC:(U x=U y)=(x%65536=y%65536):=by unfold U;exact propext ⟨fun h=>by omega,fun h=>by omega⟩
theorem U_le:(U x≤U y)=(x%65536≤y%65536):=by unfold U;exact propext ⟨fun h=>by omega,fun h=>by omega⟩
theorem U_lt:(U x<U y)=(x%65536<y%65536):=by unfold U;exact propext ⟨fun h=>by omega,fun h=>by omega⟩
theorem U_0:(U x=0)=(x%65536=0):=by unfold U;exact propext ⟨fun h=>by omega,fun h=>by omega⟩
theorem U_1:(U x=1)=(x%65536=1):=by unfold U;exact propext ⟨fun h=>by omega,fun h=>by omega⟩
theorem uN_0:uN 0=0:=rfl
theorem uN_1:uN 1=1:=rfl
theorem ahC:uN 255=255:=rfl
theorem We:uN 65535=65535:=rfl
theorem U_00:U 0=0:=rfl
theorem U_11:U 1=1:=rfl
theorem akD{st:St} {g:Nat}:st.op (.global g)=Re g:=rfl
attribute [push_cast] abI ahz abJ abK uN_U abL abM ahA ahB abN abO abP abQ P5 V8 abR abS abT abU V9 abV abW Wd w_U akA akB akC U_le U_lt U_0 U_1 akz uN_0 uN_1 ahC We U_00 U_11 akD
end
section
variable {x y n:Nat} {a b:Int}
def V(x:Nat):Int:=((x%4294967296:Nat):Int)
def vN(a:Int):Nat:=(a%4294967296).toNat
theorem akE:V (x%4294967296)=V x:=by unfold V;simp
theorem vN_V:vN (V x)=x%4294967296:=by unfold vN V;omega
theorem Dp:IntKind.wrap .u32 a=V (vN a):=by
 unfold V vN
 have:IntKind.wrap .u32 a=a%4294967296:=by simp[IntKind.wrap,IntKind.bits,IntKind.signed]
 rw[this];omega
theorem Ij:(BitVec.ofInt 32 a).toNat=vN a:=by simp[vN,BitVec.toNat_ofInt]
theorem Eu:IntKind.wrap .u32 ((x:Nat):Int)=V x:=by rw[Dp];unfold vN V;omega
theorem sZ:(x&&&y)%4294967296=(x%4294967296)&&&(y%4294967296):=by rw[show(4294967296:Nat)=2^32 by rfl,Nat.and_mod_two_pow]
theorem wE:(x|||y)%4294967296=(x%4294967296)|||(y%4294967296):=by rw[show(4294967296:Nat)=2^32 by rfl,Nat.or_mod_two_pow]
theorem tq:(x ^^^ y)%4294967296=(x%4294967296) ^^^ (y%4294967296):=by rw[show(4294967296:Nat)=2^32 by rfl,Nat.xor_mod_two_pow]
theorem akF(a b:Int):IntKind.wrap .u32 ((BitVec.ofInt (IntKind.bits .u32) a&&&BitVec.ofInt (IntKind.bits .u32) b).toNat:Int)=V (nZ (vN a) (vN b)):=by
 show IntKind.wrap .u32 ((BitVec.ofInt 32 a&&&BitVec.ofInt 32 b).toNat:Int)=_
 rw[BitVec.toNat_and,Ij,Ij,Eu];rfl
theorem v_or(a b:Int):IntKind.wrap .u32 ((BitVec.ofInt (IntKind.bits .u32) a|||BitVec.ofInt (IntKind.bits .u32) b).toNat:Int)=V (sor (vN a) (vN b)):=by
 show IntKind.wrap .u32 ((BitVec.ofInt 32 a|||BitVec.ofInt 32 b).toNat:Int)=_
 rw[BitVec.toNat_or,Ij,Ij,Eu];rfl
theorem akG(a b:Int):IntKind.wrap .u32 ((BitVec.ofInt (IntKind.bits .u32) a ^^^ BitVec.ofInt (IntKind.bits .u32) b).toNat:Int)=V (wD (vN a) (vN b)):=by
 show IntKind.wrap .u32 ((BitVec.ofInt 32 a ^^^ BitVec.ofInt 32 b).toNat:Int)=_
 rw[BitVec.toNat_xor,Ij,Ij,Eu];rfl
theorem abX:V (nZ (x%4294967296) y)=V (nZ x y):=by unfold V nZ;congr 1;rw[sZ,sZ,Nat.mod_mod]
theorem abY:V (nZ x (y%4294967296))=V (nZ x y):=by unfold V nZ;congr 1;rw[sZ,sZ,Nat.mod_mod]
theorem ahD:V (sor (x%4294967296) y)=V (sor x y):=by unfold V sor;congr 1;rw[wE,wE,Nat.mod_mod]
theorem ahE:V (sor x (y%4294967296))=V (sor x y):=by unfold V sor;congr 1;rw[wE,wE,Nat.mod_mod]
theorem abZ:V (wD (x%4294967296) y)=V (wD x y):=by unfold V wD;congr 1;rw[tq,tq,Nat.mod_mod]
theorem ab0:V (wD x (y%4294967296))=V (wD x y):=by unfold V wD;congr 1;rw[tq,tq,Nat.mod_mod]
theorem ahF(n:Nat):IntKind.wrap .u32 (1*2^min n (IntKind.bits .u32))=V (2^n):=by
 rw[show IntKind.bits .u32=32 from rfl,Int.one_mul]
 rw[show((2:Int)^min n 32)=((2^min n 32:Nat):Int) by simp,Eu]
 unfold V
 congr 1
 rcases Nat.lt_or_ge n 32 with h|h
 ·rw[Nat.min_eq_left (by omega)]
 ·rw[Nat.min_eq_right h]
  obtain⟨d,rfl⟩:∃d,n=32+d:=⟨n-32,by omega⟩
  rw[Nat.pow_add,show(2:Nat)^32=4294967296 by rfl,Nat.mul_mod_right]
theorem akH(x n:Nat):Int.fdiv (V x) (2^min n (IntKind.bits .u32))=V (x%4294967296/2^n):=by
 rw[show IntKind.bits .u32=32 from rfl]
 rw[Int.fdiv_eq_ediv_of_nonneg _ (Int.le_of_lt (Int.pow_pos (by decide)))]
 unfold V
 rw[show(2:Int)^min n 32=((2^min n 32:Nat):Int) by simp,←Int.natCast_ediv]
 congr 1
 have hx:x%4294967296<4294967296:=Nat.mod_lt _ (by decide)
 rcases Nat.lt_or_ge n 32 with h|h
 ·rw[Nat.min_eq_left (by omega),Nat.mod_eq_of_lt (Nat.lt_of_le_of_lt (Nat.div_le_self _ _) hx)]
 ·rw[Nat.min_eq_right h,Nat.div_eq_of_lt (by simpa using hx)]
  have:4294967296≤2^n:=by rw[show(4294967296:Nat)=2^32 by rfl];exact Nat.pow_le_pow_right (by decide) h
  rw[Nat.div_eq_of_lt (by omega)]
def ahG(x n:Nat):Bool:=(x%4294967296).testBit n
theorem akI(x n:Nat):V (nZ (x%4294967296/2^n) 1)=if ahG x n=true then 1 else 0:=by
 unfold ahG V nZ
 rw[Nat.testBit_eq_decide_div_mod_eq,Nat.and_one_is_mod]
 have h2:x%4294967296/2^n%2<2:=Nat.mod_lt _ (by decide)
 have h3:x%4294967296/2^n%2%4294967296=x%4294967296/2^n%2:=Nat.mod_eq_of_lt (by omega)
 rw[h3]
 by_cases h:x%4294967296/2^n%2=1
 ·simp[h]
 ·have:x%4294967296/2^n%2=0:=by omega
  simp[this]
theorem ahH(n:Nat):IntKind.wrap .u32 (V (2^n)-1)=V (2^n-1):=by
 have h:0<2^n:=Nat.two_pow_pos n
 rw[Dp];unfold vN V;omega
def vneg(x:Nat):Nat:=4294967296-x%4294967296
theorem akJ(x:Nat):IntKind.wrap .u32 (0-V x)=V (vneg x):=by rw[Dp];unfold vN V vneg;omega
theorem akK(x y:Nat):IntKind.wrap .u32 (V x+V y)=V (x+y):=by rw[Dp];unfold vN V;omega
def vquo(x y:Nat):Nat:=x%4294967296/(y%4294967296)
theorem akL(x y:Nat):IntKind.wrap .u32 (Int.tdiv (V x) (V y))=V (vquo x y):=by
 unfold V vquo
 rw[←Int.ofNat_tdiv,Eu];rfl
theorem akM:(V x=V y)=(x%4294967296=y%4294967296):=by unfold V;exact propext ⟨fun h=>by omega,fun h=>by omega⟩
theorem V_lt:(V x<V y)=(x%4294967296<y%4294967296):=by unfold V;exact propext ⟨fun h=>by omega,fun h=>by omega⟩
theorem V_0:(V x=0)=(x%4294967296=0):=by unfold V;exact propext ⟨fun h=>by omega,fun h=>by omega⟩
theorem vN_1:vN 1=1:=rfl
theorem V_00:V 0=0:=rfl
attribute [push_cast] akF v_or akG vN_V abX abY ahD ahE abZ ab0 ahF akH akI ahH akJ akK akL akM V_lt V_0 vN_1 V_00 akE
end
section
theorem Mid.mk{P:Program} {R:RLoop} {j nid:Nat} {st:St}(h:st.m=R.mR)(h2:AC P R.body (RQ R j) nid st):Mid P R j nid st:=⟨h,h2⟩
end
