/- Sym20 Sym22 Sym23 Sym24 Sym25 Sym26 Sym27 Sym28 Sym36 Sym37 Sym41. No condition. -/
import Derived.Test.YtgmpdplpodemaaaGreatDoorSymG15
import Derived.Lib.AppendZeros
import Derived.Laws.BytesArg
import Derived.Lib.Builder
import Derived.Lib.AppendStr
import Derived.Lib.UnsafeStr
import Derived.Laws.Externs
set_option linter.all false
namespace Go.Sy
section
section
variable {P:Program} {Q:Exit->Nat->St->Prop} {nid:Nat} {st:St} {dst:Option Nat} {ty:TypeId} {pos:String} {af:Array Edge} {g:Option (Nat×Bool)} {K:Nat->Eff->Prop}
theorem BC{w:World} {J:Nat->Prop} {ρ:Rho} {z:Array Value} {zs:List Value}(hz:z=zs.toArray)(h1:zs.all Value.oneCell'=true)(n:Nat):
 ∀j (hj:j<(eO zs n).length),Rep w J ρ ((Builtin.zeroCells z n).getD j undef) (eO zs n)[j]:=by
 intro j hj
 have hcr:=qK (w:=w) (J:=J) (ρ:=ρ) hz h1 n
 have:=(hcr.2.1 j hj).2
 have hjm:j<n*zs.length:=by rw[gX] at hj;exact hj
 simpa[madeCells,Builtin.zeroCells,hz,Array.getD_eq_getD_getElem?,hjm] using this
theorem fI{e:TypeId} {es by':Nat} {zs:List Value} {kn:IntKind}(t tn:TypeId)(x y:Operand) [he:dW P t e] [hsz:gJ P e es] [hb:vC P e by'] [hz:jY P e zs] [htn:nI P tn kn]
 (h:aH (wO (st.op x)) λp=>aH (jK (st.op y)) λk=>p=(true,[],0)/\zs.length=es/\zs.all Value.oneCell'=true/\0<es/\0<k/\k<=9223372036854775807/\k.toNat*by'<=281474976710656/\K 1 ⟨.sl nid 0 k.toNat es,[(nid,some (.cells (eO zs k.toNat) e))]⟩):
 AO P ⟨dst,.call ⟨.builtin .append,#[x,y],#[t,tn]⟩,ty,pos,af,g⟩ nid st K:=by
 obtain⟨p,h1,k,h2,rfl,h3,h4,h5,h6,h7,h8,h9⟩:=h
 refine⟨1,_,.alloc λc ρ D J a w hs=>?_,h9⟩
 obtain⟨i,z,hi,his,hzi,hzc⟩:=kU hsz.out hz.out
 have hb':i.bytes=by':=by have:=hb.out;unfold byt at this;simpa[hi] using this
 have e1:=hs.op x;rw[pu h1] at e1
 obtain⟨kk,hk⟩:=iB h2
 have e2:=hs.op y;rw[hk] at e2
 have e2:=aG e2
 have hv0:a.eval x= .slice none 0 0:=by
  generalize hxx:AV.isl true [] 0=xx at e1
  generalize a.eval x=v at e1
  cases e1<;>simp at hxx
  rfl
 obtain⟨n,rfl⟩:∃n:Nat,k=n:=⟨k.toNat,omgz⟩
 simp only[Int.toNat_natCast] at h8⊢
 have hr:=Lib.run_append_nil_zeros (P:=P) w t tn ty e i z kk kn (bg he.out) (gG htn.out) hi hzi n omgz omgz h7 (by rw[hb'];exact h8)
 have hge:=grownCap_ge w n 0 e
 obtain⟨A,hA⟩:∃A,A=Builtin.zeroCells z.cells n++Builtin.zeroCells z.cells (grownCap w n 0 e-n):=⟨_,rfl⟩
 rw[<-hA] at hr
 refine⟨.slice (some ⟨w.heap.size,0,none⟩) n (grownCap w n 0 e),w.drew.alloc (.cells A e),.cells A e,grownCap w n 0 e*es,?_,iF.drew w _,λρ' h1' h2'=>⟨.sl _ _ nid 0 n es _ h1' hge omgz,A,(iF.drew w _).new,?_,?_,?_⟩⟩
 ·simp[execOp,resolve,invoke,builtin,hv0,e2,hr]
 ·rw[hA]
  simp only[Array.size_append,size_zeroCells,hzc,List.size_toArray,h3,<-Nat.add_mul]
  congr 1;omega
 ·rw[gX,h3];exact Nat.mul_le_mul_right _ hge
 ·have:=(l6 (w:=w.drew.alloc (.cells A e)) (J:=J) (ρ:=ρ') (vs:=(Builtin.zeroCells z.cells n).toList) (avs:=eO zs n) (Builtin.zeroCells z.cells (grownCap w n 0 e-n)) (kD h4 hzc _)
   (by simp[size_zeroCells,hzc,gX]) (λu hu=>by
     have:=kD h4 hzc n
     rw[Array.all_eq_true_iff_forall_mem] at this
     exact this u (by simpa using hu)) (λj hj=>by
     have:=BC (w:=w.drew.alloc (.cells A e)) (J:=J) (ρ:=ρ') hzc h4 n j hj
     simpa[List.getD_eq_getElem?_getD,Array.getD_eq_getD_getElem?] using this)).2
  simp only[Array.toArray_toList] at this
  rw[hA] at*
  exact this
def vO:Option aC->Option (List AV×TypeId)
 |some (.full cs e)=>some (cs,e)
 |_=>none
theorem Qe{cs:List AV} {e:TypeId}:vO (some (.full cs e))=some (cs,e):=rfl
theorem vP{o:Option aC} {p:List AV×TypeId}(h:vO o=some p):o=some (.full p.1 p.2):=by
 unfold vO at h
 split at h
 ·cases h;rfl
 ·cases h
theorem gB{e:TypeId} {es by':Nat} {zs:List Value} {kn:IntKind}(t tn:TypeId)(x y:Operand) [he:dW P t e] [hsz:gJ P e es] [hb:vC P e by'] [hz:jY P e zs] [htn:nI P tn kn]
 (h:aH (A7 (st.op x)) λp=>aH (vO (st.ob p.1)) λo=>aH (jK (st.op y)) λk=>p.2.2.2=es/\o.2=e/\zs.length=es/\zs.all Value.oneCell'=true/\0<es/\0<k/\p.2.1+p.2.2.1*es<=o.1.length/\o.1.length<p.2.1+(p.2.2.1+k.toNat)*es/\
   (p.2.2.1+k.toNat)*by'<=140737488355328/\p.2.2.1+k.toNat<=9223372036854775807/\K 1 ⟨.sl nid 0 (p.2.2.1+k.toNat) es,[(nid,some (.cells ((o.1.drop p.2.1).take (p.2.2.1*es)++eO zs k.toNat) e))]⟩):
 AO P ⟨dst,.call ⟨.builtin .append,#[x,y],#[t,tn]⟩,ty,pos,af,g⟩ nid st K:=by
 obtain⟨⟨id,off,len,es'⟩,h1,⟨cs,e'⟩,h2,k,hk0,h3,h4,h5,h6,h7,h8,h9,h10,h11,h12,h13⟩:=h
 dsimp only at h2 h3 h4 h9 h10 h11 h12 h13
 subst h3;subst h4
 have hx:=ow h1;dsimp only at hx
 have ho:=vP h2;dsimp only at ho
 refine⟨1,_,.alloc λc ρ D J a w hs=>?_,h13⟩
 obtain⟨i,z,hi,his,hzi,hzc⟩:=kU hsz.out hz.out
 have hb':i.bytes=by':=by have:=hb.out;unfold byt at this;simpa[hi] using this
 have e1:=hs.op x;rw[hx] at e1
 obtain⟨kk,hk⟩:=iB hk0
 have e2:=hs.op y;rw[hk] at e2
 have e2:=aG e2
 obtain⟨n,rfl⟩:∃n:Nat,k=n:=⟨k.toNat,omgz⟩
 simp only[Int.toNat_natCast] at h10 h11 h12⊢
 obtain⟨b,s,k1,k2,_⟩:=hs.obj _ _ ho
 have k2':=k2.unfull
 obtain⟨arr,g1,g2,g3,_⟩:=k2
 obtain⟨f,hf⟩:=iA k2'
 generalize hv:a.eval x=v at e1
 cases e1 with
 |sl b' s' _ _ _ _ cap hρ hc hs'=>
  rw[k1] at hρ;cases hρ
  have hcap:¬(len+n<=cap):=by
   intro hle
   have:(len+n)*es'<=cap*es':=Nat.mul_le_mul_right _ hle
   omega
  have hnw:IntKind.i64.wrap (n:Int)=n:=PW omgz
  have hge:=grownCap_ge w (len+n) cap e'
  have hne:n≠0:=by omega
  have h63':¬(9223372036854775807<((len:Int)+(n:Int))):=by omega
  have hfits:¬(281474976710656<Builtin.nextslicecap (len+n) cap*i.bytes):=by
   have:=growslice_fits (need:=len+n) (old:=cap) (bytes:=i.bytes) omgz (by rw[hb'];exact h11)
   omega
  have h48i:¬(281474976710656<(n:Int)*(i.bytes:Int)):=by
   have h:n*i.bytes<=(len+n)*i.bytes:=Nat.mul_le_mul_right _ omgz
   rw[hb'] at h⊢
   rw[<-Int.natCast_mul]
   omega
  have hneg:¬((n:Int)<0):=by omega
  have hns:¬(n*i.size=0):=Nat.mul_ne_zero hne omgz
  have hol:((List.range (len*es')).map λj=>f (off+j)).length=len*i.size:=by simp[his]
  have hfo:=run_firstCells_some (P:=P) w.drew i.size len ⟨b,off,none⟩ len cap ((List.range (len*es')).map λj=>f (off+j)) hol (λj v hj=>by
   obtain⟨hlt,rfl⟩:=List.getElem?_eq_some_iff.1 hj
   have hj':j<len*es':=by simpa using hlt
   rw[Addr.add_lit]
   have:=(hf (off+j) omgz).1
   simpa using this)
  have hcn:¬(len+n<=cap):=hcap
  have hr:(Builtin.append_ #[t,tn] ty #[.slice (some ⟨b,off,none⟩) len cap,.int kk n]).run P w= .ok (.slice (some ⟨w.heap.size,0,none⟩) (len+n) (grownCap w (len+n) cap e'))
   (w.drew.alloc (.cells (((List.range (len*es')).map λj=>f (off+j)).toArray++Builtin.zeroCells z.cells n++Builtin.zeroCells z.cells (grownCap w (len+n) cap e'-(len+n))) e')):=by
   simp[Builtin.append_,run_underlying (bg he.out),run_underlying (gG htn.out),sizeOf,typeInfo,zeroValue,hi,hzi,asInt,asIntOf,hnw,hne,hneg,hns,hcn,h63',hfits,h48i,Question.forced,hfo,newRow,grownCap]
  obtain⟨A,hA⟩:∃A,A=((List.range (len*es')).map λj=>f (off+j)).toArray++Builtin.zeroCells z.cells n++Builtin.zeroCells z.cells (grownCap w (len+n) cap e'-(len+n)):=⟨_,rfl⟩
  rw[<-hA] at hr
  refine⟨.slice (some ⟨w.heap.size,0,none⟩) (len+n) (grownCap w (len+n) cap e'),w.drew.alloc (.cells A e'),.cells A e',grownCap w (len+n) cap e'*es',?_,iF.drew w _,λρ' h1' h2'=>⟨.sl _ _ nid 0 (len+n) es' _ h1' hge omgz,A,(iF.drew w _).new,?_,?_,?_⟩⟩
  ·simp[execOp,resolve,invoke,builtin,hv,e2,hr]
  ·rw[hA]
   simp only[Array.size_append,List.size_toArray,List.length_map,List.length_range,size_zeroCells,hzc,h5,<-Nat.add_mul]
   congr 1;omega
  ·rw[List.length_append,gX,h5,List.length_take,List.length_drop,Nat.min_eq_left omgz,<-Nat.add_mul];exact Nat.mul_le_mul_right _ hge
  ·have hz1:=kD h6 hzc n
   rw[Array.all_eq_true_iff_forall_mem] at hz1
   have:=(l6 (w:=w.drew.alloc (.cells A e')) (J:=J) (ρ:=ρ') (vs:=(List.range (len*es')).map (λj=>f (off+j))++(Builtin.zeroCells z.cells n).toList) (avs:=(cs.drop off).take (len*es')++eO zs n) (Builtin.zeroCells z.cells (grownCap w (len+n) cap e'-(len+n))) (kD h6 hzc _)
    (by rw[List.length_append,List.length_append,List.length_map,List.length_range,List.length_take,List.length_drop,Nat.min_eq_left omgz];simp[size_zeroCells,hzc,gX]) (λu hu=>by
      rcases List.mem_append.1 hu with hu|hu
      ·obtain⟨j,hj,rfl⟩:=List.mem_map.1 hu
       have hj':j<len*es':=by simpa using hj
       exact(hf (off+j) omgz).2.1
      ·exact hz1 u (by simpa using hu)) (λj hj=>by
      have htl:((cs.drop off).take (len*es')).length=len*es':=by rw[List.length_take,List.length_drop];omega
      by_cases hjl:j<len*es'
      ·rw[List.getElem_append_left omgz]
       have e3:((List.range (len*es')).map (λj=>f (off+j))++(Builtin.zeroCells z.cells n).toList).getD j undef=f (off+j):=by
        rw[List.getD_eq_getElem?_getD,List.getElem?_append_left (by simpa using hjl)];simp[hjl]
       rw[e3]
       have:=(hf (off+j) omgz).2.2
       have:=this.grew (iF.drew w (.cells A e')) h2'
       simpa using this
      ·rw[List.getElem_append_right omgz]
       have e3:((List.range (len*es')).map (λj=>f (off+j))++(Builtin.zeroCells z.cells n).toList).getD j undef=(Builtin.zeroCells z.cells n).getD (j-len*es') undef:=by
        rw[List.getD_eq_getElem?_getD,List.getElem?_append_right (by simp;omega)];simp[Array.getD_eq_getD_getElem?]
       rw[e3]
       have hjz:j-len*es'<(eO zs n).length:=by rw[List.length_append,htl] at hj;omega
       have:=BC (w:=w.drew.alloc (.cells A e')) (J:=J) (ρ:=ρ') hzc h6 n (j-len*es') hjz
       simpa[htl] using this)).2
   have e4:((List.range (len*es')).map (λj=>f (off+j))++(Builtin.zeroCells z.cells n).toList).toArray=((List.range (len*es')).map λj=>f (off+j)).toArray++Builtin.zeroCells z.cells n:=by
    apply Array.ext';simp
   rw[e4] at this
   rw[hA] at*
   exact this
theorem jM{e:TypeId} {es:Nat}(t:TypeId)(x:Operand)(lo hi:Option Operand) [ht:dW P t e] [hsz:gJ P e es](h:aH (A7 (st.op x)) λp=>aH (za (st.ob p.1)) λo=>aH (bv st 0 lo) λl=>aH (bv st p.2.2.1 hi) λu=>p.2.2.2=es/\0<es/\(0<=l/\l<=u)/\p.2.1+u.toNat*es<=o.1.length/\
 (l<u\/l=0)/\K 0 ⟨.sl p.1 (p.2.1+l.toNat*es) (u.toNat-l.toNat) es,[]⟩):AO P ⟨dst,.slice t x lo hi none,ty,pos,af,g⟩ nid st K:=by
 obtain⟨⟨id,off,len,es'⟩,h1,⟨cs,e'⟩,h2,l,hl,u,hu,h3,h4,⟨h5,h6⟩,h7,h8,h9⟩:=h
 dsimp only at h2 h3 h4 h7 hu h9
 subst h3
 have hx:=ow h1;dsimp only at hx
 have ho:=mU h2;dsimp only at ho
 refine⟨0,_,.pure λc ρ D J a w hs=>?_,h9⟩
 have hr:=hs.op x;rw[hx] at hr
 have hty:=bg ht.out
 obtain⟨b,s,k1,⟨arr,k2,k3,k4,k5,k6⟩,k7,k8⟩:=hs.obj _ _ ho
 generalize hv:a.eval x=v at hr
 cases hr with
 |sl b' s' _ _ _ _ cap hρ hc hs'=>
  rw[k1] at hρ;cases hρ
  have hcap:u.toNat<=cap:=by
   have:u.toNat*es'<=cap*es':=by omega
   exact Nat.le_of_mul_le_mul_right this h4
  have hb:=iM (P:=P) hs true len cap lo hi l u hl hu h5 h6 omgz
  refine⟨.slice (some ⟨b,off+l.toNat*es',none⟩) (u.toNat-l.toNat) (cap-l.toNat),?_,.sl b s id _ _ es' (cap-l.toNat) k1 omgz ?_⟩
  ·simp only[execOp,hv,Instr.sliceAt,Sem.run_bind,run_underlying hty,Result.andThen_ok,Instr.slice,Option.map_none,hb,Sem.run_pure,dx hsz.out]
   by_cases hcl:cap=l.toNat
   ·have:l.toNat=0:=by omega
    rw[if_pos hcl,this];simp
   ·rw[if_neg hcl];simp[Addr.add_lit]
  ·rw[Nat.add_assoc,<-Nat.add_mul,show l.toNat+(cap-l.toNat)=cap by omega];exact hs'
theorem d9{e:TypeId} {es:Nat}(t:TypeId)(x y:Operand) [he:dW P t e] [hsz:gJ P e es]
 (h:aH (wO (st.op x)) λp=>aH (gY st (st.op y)) λq=>p=(true,[],0)/\q.1=[]/\q.2=0/\K 0 ⟨.isl true [] 0,[]⟩):AO P ⟨dst,.call ⟨.builtin .append,#[x,y],#[t,t]⟩,ty,pos,af,g⟩ nid st K:=by
 obtain⟨p,h1,⟨cells,m⟩,h2,rfl,h3,h4,h5⟩:=h
 dsimp only at h3 h4
 subst h3;subst h4
 refine⟨0,_,.pure λc ρ D J a w hs=>?_,h5⟩
 have e1:=hs.op x;rw[pu h1] at e1
 obtain⟨i,hi,his⟩:∃i,P.info? e=some i/\i.size=es:=by
  have:=hsz.out
  unfold siz at this
  cases hi:P.info? e with
  |none=>simp[hi] at this
  |some i=>exact⟨i,rfl,by simpa[hi] using this⟩
 have hv0:a.eval x= .slice none 0 0:=by
  generalize hxx:AV.isl true [] 0=xx at e1
  generalize a.eval x=v at e1
  cases e1<;>simp at hxx
  rfl
 refine⟨.slice none 0 0,?_,.inil⟩
 rcases tV hs (hs.op y) h2 (show([]:List AV).length=0*es by simp) with⟨hy0,_,_⟩|⟨ad,cp,news,hyv,hmc,hnl,hnews,hone,hrep⟩
 ·simp[execOp,resolve,invoke,builtin,hv0,hy0,Builtin.append_,run_underlying (bg he.out),sizeOf,typeInfo,hi,Builtin.lenOf,Builtin.firstCells,storeCells]
 ·simp[execOp,resolve,invoke,builtin,hv0,hyv,Builtin.append_,run_underlying (bg he.out),sizeOf,typeInfo,hi,Builtin.lenOf,Builtin.firstCells,storeCells,loadCells,loadCellsFrom]
end
attribute [push_cast] Qe M4 P9 Qc Qd aen aeo Bool.and_eq_true Bool.and_eq_false_iff Bool.or_eq_true Bool.or_eq_false_iff e_fn
end
section
def AV.plain:AV->Bool
 | .val _| .isl _ _ _| .ipt _ _=>true
 |_=>false
class aa(α:Type)(w:outParam Nat) where
 cells:α->List AV
 len:∀a,(cells a).length=w
 sc:∀a,(cells a).all AV.scalar=true
 pl:∀a,(cells a).all AV.plain=true
def cR{α:Type} {w:Nat} [aa α w](l:List α):List AV:=l.flatMap aa.cells
theorem kF(τ:Nat->Nat):∀(x:AV),bnd 0 x->ren τ x=x
 | .val v,_=>by simp[ren]
 | .isl z cs n,_=>by simp[ren]
 | .ipt cs n,_=>by simp[ren]
 | .any,_=>by simp[ren]
 | .sl id _ _ _,h=>by simp[bnd] at h
 | .pt id _,h=>by simp[bnd] at h
 | .mp id,h=>by simp[bnd] at h
 | .yl id,h=>by simp[bnd] at h
 | .agg cs,h=>by
   simp only[bnd] at h
   simp only[ren,AV.agg.injEq]
   exact(List.map_congr_left (λx hx=>kF τ x (h x hx))).trans (List.map_id' cs)
 | .tup cs,h=>by
   simp only[bnd] at h
   simp only[ren,AV.tup.injEq]
   exact(List.map_congr_left (λx hx=>kF τ x (h x hx))).trans (List.map_id' cs)
 | .fn f cs,h=>by
   simp only[bnd] at h
   simp only[ren,AV.fn.injEq,true_and]
   exact(List.map_congr_left (λx hx=>kF τ x (h x hx))).trans (List.map_id' cs)
theorem kG(id:Nat)(cs:List AV):∀(x:AV),bnd 0 x->bP id cs x=x
 | .val v,_=>by simp[bP]
 | .isl z cs n,_=>by simp[bP]
 | .ipt cs n,_=>by simp[bP]
 | .any,_=>by simp[bP]
 | .sl id _ _ _,h=>by simp[bnd] at h
 | .pt id _,h=>by simp[bnd] at h
 | .mp id,h=>by simp[bnd] at h
 | .yl id,h=>by simp[bnd] at h
 | .agg l,h=>by
   simp only[bnd] at h
   simp only[bP,AV.agg.injEq]
   exact(List.map_congr_left (λx hx=>kG id cs x (h x hx))).trans (List.map_id' l)
 | .tup l,h=>by
   simp only[bnd] at h
   simp only[bP,AV.tup.injEq]
   exact(List.map_congr_left (λx hx=>kG id cs x (h x hx))).trans (List.map_id' l)
 | .fn f l,h=>by
   simp only[bnd] at h
   simp only[bP,AV.fn.injEq,true_and]
   exact(List.map_congr_left (λx hx=>kG id cs x (h x hx))).trans (List.map_id' l)
theorem kH(n:Nat):∀(x:AV),bnd 0 x->bnd n x
 | .val v,_=>by simp[bnd]
 | .isl z cs n,_=>by simp[bnd]
 | .ipt cs n,_=>by simp[bnd]
 | .any,_=>by simp[bnd]
 | .sl id _ _ _,h=>by simp[bnd] at h
 | .pt id _,h=>by simp[bnd] at h
 | .mp id,h=>by simp[bnd] at h
 | .yl id,h=>by simp[bnd] at h
 | .agg l,h=>by simp only[bnd] at h⊢;exact λx hx=>kH n x (h x hx)
 | .tup l,h=>by simp only[bnd] at h⊢;exact λx hx=>kH n x (h x hx)
 | .fn f l,h=>by simp only[bnd] at h⊢;exact λx hx=>kH n x (h x hx)
theorem vQ{st:St} {σ:List Nat} {fz:Bool} {n:Nat}(h:0<n):∀(x:AV),x.plain=true->toA st σ fz n x=x
 | .val v,_=>uq h
 | .isl z cs n,_=>Kb h
 | .ipt cs n,_=>Kc h
 | .any,h| .sl _ _ _ _,h| .pt _ _,h| .mp _,h| .yl _,h| .agg _,h| .tup _,h| .fn _ _,h=>by simp[AV.plain] at h
theorem vR{st:St} {σ:List Nat} {n:Nat}(h:0<n):∀(x:AV),x.plain=true->dfz st σ n x=x
 | .val v,_=>uo h
 | .isl z cs n,_=>J9 h
 | .ipt cs n,_=>Ka h
 | .any,h| .sl _ _ _ _,h| .pt _ _,h| .mp _,h| .yl _,h| .agg _,h| .tup _,h| .fn _ _,h=>by simp[AV.plain] at h
theorem qP:∀(x:AV),x.plain=true->bnd 0 x
 | .val v,_=>by simp[bnd]
 | .isl z cs n,_=>by simp[bnd]
 | .ipt cs n,_=>by simp[bnd]
 | .any,h| .sl _ _ _ _,h| .pt _ _,h| .mp _,h| .yl _,h| .agg _,h| .tup _,h| .fn _ _,h=>by simp[AV.plain] at h
theorem aa.cl{α:Type} {w:Nat} [C:aa α w](a:α)(x:AV)(hx:x∈aa.cells a):bnd 0 x:=qP x (List.all_eq_true.1 (C.pl a) x hx)
section
variable {α:Type} {w:Nat} [C:aa α w] [Inhabited α]{l m:List α} {j k i:Nat}
theorem kP{a:α}:cR (a::l)=aa.cells a++cR l:=by simp[cR]
theorem CL:cR ([]:List α)=[]:=rfl
theorem dF:(cR l).length=l.length*w:=by
 induction l with
 |nil=>simp[cR]
 |cons a l ih=>rw[kP,List.length_append,ih,C.len,List.length_cons,Nat.add_mul];omega
theorem vS:cR l++cR m=cR (l++m):=by simp[cR]
theorem pO{a:α}:cR l++aa.cells a=cR (l++[a]):=by simp[cR]
theorem xB:(cR l).drop (k*w)=cR (l.drop k):=by
 induction l generalizing k with
 |nil=>simp[cR]
 |cons a l ih=>
  cases k with
  |zero=>simp
  |succ k=>rw[kP,List.drop_append,C.len,List.drop_eq_nil_of_le (by rw[C.len,Nat.add_mul];omega),List.nil_append,show(k+1)*w-w=k*w by rw[Nat.add_mul];omega,ih,List.drop_succ_cons]
theorem xC:(cR l).take (k*w)=cR (l.take k):=by
 induction l generalizing k with
 |nil=>simp[cR]
 |cons a l ih=>
  cases k with
  |zero=>simp[cR]
  |succ k=>rw[kP,List.take_append,C.len,List.take_of_length_le (by rw[C.len,Nat.add_mul];omega),show(k+1)*w-w=k*w by rw[Nat.add_mul];omega,ih,List.take_succ_cons,kP]
theorem Qf:(cR l).drop w=cR (l.drop 1):=by have:=xB (l:=l) (k:=1);rwa [Nat.one_mul] at this
theorem E5(h:0<l.length):(cR l).take w=aa.cells (l.getD 0 default):=by
 cases l with
 |nil=>simp at h
 |cons a l=>rw[kP,List.take_append,C.len,List.take_of_length_le (by rw[C.len];exact Nat.le_refl _)];simp
theorem Kg(h:j<l.length):((cR l).drop (j*w)).take w=aa.cells (l.getD j default):=by
 rw[xB,E5 (by simp;omega)]
 simp[List.getD_eq_getElem?_getD]
theorem Ih(h:j<l.length)(hi:i<w):(cR l)[j*w+i]? =(aa.cells (l.getD j default))[i]? :=by
 rw[<-Kg h,List.getElem?_take,if_pos hi,List.getElem?_drop]
theorem Xd(h:j<l.length)(hi:0<w):(cR l)[j*w]? =(aa.cells (l.getD j default))[0]? :=Ih h hi
theorem dP(hi:i<w)(h:0<l.length):(cR l)[i]? =(aa.cells (l.getD 0 default))[i]? :=by
 have:=Ih h hi;rwa [Nat.zero_mul,Nat.zero_add] at this
theorem aiC(hi:0<w)(h:0<l.length):(cR l)[0]? =(aa.cells (l.getD 0 default))[0]? :=dP hi h
theorem aiD(hi:1<w)(h:0<l.length):(cR l)[1]? =(aa.cells (l.getD 0 default))[1]? :=dP hi h
theorem aiE(hi:2<w)(h:0<l.length):(cR l)[2]? =(aa.cells (l.getD 0 default))[2]? :=dP hi h
theorem aiF(hi:3<w)(h:0<l.length):(cR l)[3]? =(aa.cells (l.getD 0 default))[3]? :=dP hi h
theorem aiG(hi:4<w)(h:0<l.length):(cR l)[4]? =(aa.cells (l.getD 0 default))[4]? :=dP hi h
theorem aiH(hi:5<w)(h:0<l.length):(cR l)[5]? =(aa.cells (l.getD 0 default))[5]? :=dP hi h
theorem aiI(hi:6<w)(h:0<l.length):(cR l)[6]? =(aa.cells (l.getD 0 default))[6]? :=dP hi h
theorem aiJ(hi:7<w)(h:0<l.length):(cR l)[7]? =(aa.cells (l.getD 0 default))[7]? :=dP hi h
theorem aiK(hi:8<w)(h:0<l.length):(cR l)[8]? =(aa.cells (l.getD 0 default))[8]? :=dP hi h
theorem aiL(hi:9<w)(h:0<l.length):(cR l)[9]? =(aa.cells (l.getD 0 default))[9]? :=dP hi h
theorem aep(hi:10<w)(h:0<l.length):(cR l)[10]? =(aa.cells (l.getD 0 default))[10]? :=dP hi h
theorem aeq(hi:11<w)(h:0<l.length):(cR l)[11]? =(aa.cells (l.getD 0 default))[11]? :=dP hi h
theorem aer(hi:12<w)(h:0<l.length):(cR l)[12]? =(aa.cells (l.getD 0 default))[12]? :=dP hi h
theorem aes(hi:13<w)(h:0<l.length):(cR l)[13]? =(aa.cells (l.getD 0 default))[13]? :=dP hi h
theorem aet(hi:14<w)(h:0<l.length):(cR l)[14]? =(aa.cells (l.getD 0 default))[14]? :=dP hi h
theorem aeu(hi:15<w)(h:0<l.length):(cR l)[15]? =(aa.cells (l.getD 0 default))[15]? :=dP hi h
theorem aev(hi:16<w)(h:0<l.length):(cR l)[16]? =(aa.cells (l.getD 0 default))[16]? :=dP hi h
theorem aew(hi:17<w)(h:0<l.length):(cR l)[17]? =(aa.cells (l.getD 0 default))[17]? :=dP hi h
theorem aex(hi:18<w)(h:0<l.length):(cR l)[18]? =(aa.cells (l.getD 0 default))[18]? :=dP hi h
theorem aey(hi:19<w)(h:0<l.length):(cR l)[19]? =(aa.cells (l.getD 0 default))[19]? :=dP hi h
theorem aez(hi:20<w)(h:0<l.length):(cR l)[20]? =(aa.cells (l.getD 0 default))[20]? :=dP hi h
theorem aeA(hi:21<w)(h:0<l.length):(cR l)[21]? =(aa.cells (l.getD 0 default))[21]? :=dP hi h
theorem aeB(hi:22<w)(h:0<l.length):(cR l)[22]? =(aa.cells (l.getD 0 default))[22]? :=dP hi h
theorem aeC(hi:23<w)(h:0<l.length):(cR l)[23]? =(aa.cells (l.getD 0 default))[23]? :=dP hi h
theorem aeD(τ:Nat->Nat):(cR l).map (ren τ)=cR l:=by
 refine(List.map_congr_left (λx hx=>kF τ x ?_)).trans (List.map_id' _)
 obtain⟨a,_,ha⟩:=List.mem_flatMap.1 hx
 exact aa.cl a x ha
theorem aeE(id:Nat)(cs:List AV):(cR l).map (bP id cs)=cR l:=by
 refine(List.map_congr_left (λx hx=>kG id cs x ?_)).trans (List.map_id' _)
 obtain⟨a,_,ha⟩:=List.mem_flatMap.1 hx
 exact aa.cl a x ha
theorem aeF{st:St} {σ:List Nat} {fz:Bool} {n:Nat}(h:0<n):(cR l).map (toA st σ fz n)=cR l:=by
 refine(List.map_congr_left (λx hx=>?_)).trans (List.map_id' _)
 obtain⟨a,_,ha⟩:=List.mem_flatMap.1 hx
 exact vQ h x (List.all_eq_true.1 (C.pl a) x ha)
theorem aeG{st:St} {σ:List Nat} {n:Nat}(h:0<n):(cR l).map (dfz st σ n)=cR l:=by
 refine(List.map_congr_left (λx hx=>?_)).trans (List.map_id' _)
 obtain⟨a,_,ha⟩:=List.mem_flatMap.1 hx
 exact vR h x (List.all_eq_true.1 (C.pl a) x ha)
theorem Qg(n:Nat):(∀x∈cR l,bnd n x)=True:=by
 refine eq_true (λx hx=>kH n x ?_)
 obtain⟨a,_,ha⟩:=List.mem_flatMap.1 hx
 exact aa.cl a x ha
theorem aeH:(cR l).all AV.scalar=true:=by
 rw[List.all_eq_true]
 intro x hx
 obtain⟨a,_,ha⟩:=List.mem_flatMap.1 hx
 exact List.all_eq_true.1 (C.sc a) x ha
theorem zi{a:α}:cR [a]=aa.cells a:=by simp[cR]
def uu(l:List α)(k:Nat)(m:List α):List α:=l.take k++(m++l.drop (k+m.length))
theorem Kh:spl (cR l) (k*w) (cR m)=cR (uu l k m):=by
 unfold spl uu
 rw[dF,<-Nat.add_mul,xC,xB,vS,vS]
theorem Qh{a:α}:spl (cR l) (k*w) (aa.cells a)=cR (uu l k [a]):=by
 have:=Kh (l:=l) (k:=k) (m:=[a])
 rwa [show cR [a]=aa.cells a by simp[cR]] at this
theorem Qi{a:α}(h:k<l.length):uu l k [a]=l.set k a:=by
 unfold uu;rw[List.set_eq_take_append_cons_drop,if_pos h];rfl
theorem aeI{a:α} {n:Nat} {zs:List Value}(h:zs.map ofV=aa.cells a):eO zs n=cR (List.replicate n a):=by
 unfold eO cR
 rw[h]
 induction n with
 |zero=>rfl
 |succ n ih=>simp[List.replicate_succ,ih]
theorem Xe{a:α} {v:AV}(h:j<l.length)(hi:i<w)(ha:(aa.cells (l.getD j default)).set i v=aa.cells a):(cR l).set (j*w+i) v=cR (l.set j a):=by
 induction l generalizing j with
 |nil=>simp at h
 |cons b l ih=>
  cases j with
  |zero=>
   simp only[List.getD_cons_zero] at ha
   rw[Nat.zero_mul,Nat.zero_add,kP,List.set_append,if_pos (by rw[C.len];exact hi),ha,List.set_cons_zero,kP]
  |succ j=>
   rw[kP,List.set_append,if_neg (by rw[C.len,Nat.add_mul];omega),C.len,show(j+1)*w+i-w=j*w+i by rw[Nat.add_mul];omega,ih (by simpa using h) (by simpa using ha),List.set_cons_succ,kP]
theorem M9{d:α}:(l.drop k).getD i d=l.getD (k+i) d:=by simp[List.getD_eq_getElem?_getD]
end
theorem Qj{α:Type} {l m:List α} {k:Nat}(h:k+m.length<=l.length):(uu l k m).length=l.length:=by
 unfold uu;simp;omega
theorem E8{α:Type} {l m:List α} {k:Nat}:(uu l k m).length=min k l.length+(m.length+(l.length-(k+m.length))):=by
 unfold uu;simp
theorem Na{α:Type} {l m:List α} {k j:Nat}(h:j<=k)(hk:k<=l.length):(uu l k m).take j=l.take j:=by
 unfold uu
 rw[List.take_append,List.take_take,Nat.min_eq_left h,List.length_take,show j-min k l.length=0 by omega,List.take_zero,List.append_nil]
theorem Ii{α:Type} {l m:List α} {k j:Nat}(hk:k<=l.length)(h:j=k+m.length):(uu l k m).take j=l.take k++m:=by
 subst h
 unfold uu
 rw[List.take_append,List.take_take,List.length_take,Nat.min_eq_right omgz,Nat.min_eq_left hk,show k+m.length-k=m.length by omega,List.take_append,List.take_length,Nat.sub_self,List.take_zero,List.append_nil]
theorem tn_1{a b c:Nat}(h:c<=b):((a:Int)+((b:Int)-(c:Int))).toNat=a+(b-c):=by omega
theorem tn_2{b c:Nat}:((b:Int)-(c:Int)).toNat=b-c:=by omega
theorem tn_3{a b:Nat}:((a:Int)+(b:Int)).toNat=a+b:=by omega
theorem tn_4{a:Nat}:((a:Int)+1).toNat=a+1:=by omega
theorem tn_5{a:Nat}:((a:Int)-1).toNat=a-1:=by omega
theorem tn_6{a b:Nat}:((a:Int)+(b:Int)+1).toNat=a+b+1:=by omega
theorem tn_7{a b c:Nat}(h:c<=a+b):((a:Int)+(b:Int)-(c:Int)).toNat=a+b-c:=by omega
theorem tn_8{a c:Nat}(h:c<=a+1):((a:Int)+1-(c:Int)).toNat=a+1-c:=by omega
theorem ax_1{a b:Int}:a+(b-a)=b:=by omega
theorem ax_2{a b:Nat}(h:a<=b):a+(b-a)=b:=by omega
theorem ax_3{a:Nat} {α:Type} {x:α}:List.replicate (a-a) x=[]:=by simp
theorem ax_4{a b:Nat}(h:a<=b):min a b=a:=Nat.min_eq_left h
theorem ax_5{a b:Nat}(h:b<=a):min a b=b:=Nat.min_eq_right h
theorem aeJ{zs:List Value}:eO zs 1=zs.map ofV++eO zs 0:=rfl
theorem aeK{zs:List Value}:eO zs 2=zs.map ofV++eO zs 1:=rfl
theorem aeL{zs:List Value}:eO zs 3=zs.map ofV++eO zs 2:=rfl
theorem aeM{zs:List Value}:eO zs 4=zs.map ofV++eO zs 3:=rfl
theorem aeN{zs:List Value}:eO zs 5=zs.map ofV++eO zs 4:=rfl
theorem aeO{zs:List Value}:eO zs 6=zs.map ofV++eO zs 5:=rfl
theorem aeP{zs:List Value}:eO zs 7=zs.map ofV++eO zs 6:=rfl
theorem aeQ{zs:List Value}:eO zs 8=zs.map ofV++eO zs 7:=rfl
theorem aeR{zs:List Value}:eO zs 9=zs.map ofV++eO zs 8:=rfl
theorem Xf{zs:List Value}:eO zs 10=zs.map ofV++eO zs 9:=rfl
theorem Xg{zs:List Value}:eO zs 11=zs.map ofV++eO zs 10:=rfl
theorem Xh{zs:List Value}:eO zs 12=zs.map ofV++eO zs 11:=rfl
theorem Nb{zs:List Value}:eO zs 0=[]:=rfl
def AV.isVal:AV->Bool
 | .val _=>true
 |_=>false
class CellsV(α:Type){w:Nat} [aa α w]:Prop where nv:∀a:α,(aa.cells a).all AV.isVal=true
theorem Qk{α:Type} {w:Nat} [aa α w] [C:CellsV α](l:List α):(∀x∈cR l,noImm x)=True:=by
 refine eq_true (λx hx=>?_)
 obtain⟨a,_,ha⟩:=List.mem_flatMap.1 hx
 have:=List.all_eq_true.1 (C.nv a) x ha
 cases x<;>simp[AV.isVal] at this
 simp[noImm]
theorem Xi{α:Type} {cs:List α} {off:Nat}:spl cs off []=cs:=by unfold spl;simp
attribute [push_cast] Qk zi dF vS xB xC Qf E5 Ih Xd aiC aiD aiE aiF aiG aiH aiI aiJ aiK aiL aep aeq aer aes aet aeu aev aew aex aey aez aeA aeB aeC aeD aeE aeF aeG Qg aeH CL Kh M9 Xi
attribute [push_cast] aeJ aeK aeL aeM aeN aeO aeP aeQ aeR Xf Xg Xh
attribute [push_cast] ax_1 ax_2 ax_3 ax_4 ax_5 tn_1 tn_2 tn_3 tn_4 tn_5 tn_6 tn_7 tn_8 Nb Qj Na Ii
attribute [push_cast] Kg
attribute [push_cast] List.length_drop List.length_take Nat.sub_zero Int.sub_zero
end
section
attribute [push_cast] Int.toNat_natCast
def vB(n:Nat):List Value:=List.replicate n (.bool false)
def fB(n:Nat):List Bool:=List.replicate n false
theorem aeS{n:Nat}:(vB n).map ofV=cB (fB n):=by simp[vB,fB,cB,ofV]
theorem aeT{n:Nat}:(vB n).length=n:=by simp[vB]
theorem aeU{n:Nat}:(fB n).length=n:=by simp[fB]
theorem aeV{n:Nat}:(vB n).all Value.oneCell'=true:=by simp[vB,Value.oneCell']
attribute [push_cast] aeS aeT aeU aeV
def qQ(P:Program):Nat->List Field->Option (List (Option IntKind))
 |_,[]=>some []
 |i,f::fs=>match qQ P (i+1) fs with
  |some ks=>if f.offset=i/\f.name≠ "_" then(match nJ P f.type with
   |some k=>some (some k::ks)
   |none=>if si P f.type then some (none::ks) else none) else none
  |none=>none
def ab4(P:Program)(t:TypeId):Option (List (Option IntKind)):=match P.underlying t with
 |some (.struct fs)=>if P.stoodInHeld t then none else qQ P 0 fs.toList
 |_=>none
class TMix(P:Program)(t:TypeId)(ks:outParam (List (Option IntKind))):Prop where
 out:ab4 P t=some ks
 gd:P.eqGuardType P.depth t=false
def okM:List (Option IntKind)->List AV->Bool
 |[],[]=>true
 |some k::ks,.val (.int k' _)::l=>k==k'&&okM ks l
 |none::ks,.val (.string _)::l=>okM ks l
 |_,_=>false
theorem aiM:okM [] []=true:=rfl
theorem Ql{k k':IntKind} {n:Int} {ks:List (Option IntKind)} {l:List AV}:okM (some k::ks) (.val (.int k' n)::l)=(k==k'&&okM ks l):=rfl
theorem Qm{s:ByteArray} {ks:List (Option IntKind)} {l:List AV}:okM (none::ks) (.val (.string s)::l)=okM ks l:=rfl
theorem Qn{P:Program} {w:World} {t:TypeId}(h:si P t=true){cs:Array Value} {i:Nat} {v:Value}(hv:cs[i]? =some v):(part t cs i).run P w= .ok v w:=by
 have ha:jy P t=some false:=by unfold jy;rw[iL h];rfl
 obtain⟨hlt,rfl⟩:=Array.getElem?_eq_some_iff.1 hv
 simp[part,fq ha,hlt]
theorem Ba{P:Program} {d:Nat} {xs:Array Value}:∀(fs:List Field) (i:Nat) (ks:List (Option IntKind)) (cs:List AV) (w:World),qQ P i fs=some ks->okM ks cs=true->
 (∀j v,cs[j]? =some (.val v)->xs[i+j]? =some v)->(Op.eqFields (d+1) xs xs fs).run P w= .ok true w:=by
 intro fs
 induction fs with
 |nil=>intro i ks cs w _ _ _;simp[Op.eqFields]
 |cons f fs ih=>
  intro i ks cs w h hc hx
  unfold qQ at h
  split at h
  ·rename_i ks' hks
   split at h
   ·rename_i hcn
    split at h
    ·rename_i k hk
     cases h
     match cs,hc,hx with
     | .val (.int k' n)::cs,hc,hx=>
       rw[Ql,Bool.and_eq_true] at hc
       have hkk:k=k':=by have:=hc.1;cases k<;>cases k'<;>first|rfl|cases this
       subst hkk
       have e1:=pK (w:=w) hk (hx 0 _ rfl)
       simp only[Nat.add_zero] at e1
       have e3:=ih (i+1) ks' cs w hks hc.2 (λj v h2=>by have:=hx (j+1) v (by simpa using h2);rwa [show i+(j+1)=i+1+j by omega] at this)
       have e4:(Op.equalIn (d+1) f.type (.int k n) (.int k n)).run P w= .ok (n==n) w:=run_equalIn_int w d f.type k k n n (gG hk)
       simp only[Op.eqFields,if_pos hcn.2,Sem.run_bind,hcn.1,e1,Result.andThen_ok,e4]
       simp[e3]
    ·split at h
     ·rename_i hs
      cases h
      match cs,hc,hx with
      | .val (.string s)::cs,hc,hx=>
        rw[Qm] at hc
        have e1:=Qn (w:=w) hs (hx 0 _ rfl)
        simp only[Nat.add_zero] at e1
        have e3:=ih (i+1) ks' cs w hks hc (λj v h2=>by have:=hx (j+1) v (by simpa using h2);rwa [show i+(j+1)=i+1+j by omega] at this)
        have e4:(Op.equalIn (d+1) f.type (.string s) (.string s)).run P w= .ok (s.toList==s.toList) w:=run_equalIn_string w d f.type s s (iL hs)
        simp only[Op.eqFields,if_pos hcn.2,Sem.run_bind,hcn.1,e1,Result.andThen_ok,e4]
        simp[e3]
     ·cases h
   ·cases h
  ·cases h
section
variable {P:Program} {Q:Exit->Nat->St->Prop} {nid:Nat} {st:St} {dst:Option Nat} {ty:TypeId} {pos:String} {af:Array Edge} {g:Option (Nat×Bool)} {K:Nat->Eff->Prop}
theorem bF{ks:List (Option IntKind)}(t:TypeId)(x y:Operand)(t':TypeId) [ht:TMix P t ks](h:aH (y9 (st.op x)) λcs=>aH (y9 (st.op y)) λds=>okM ks cs=true/\cs=ds/\K 0 ⟨.val (.bool false),[]⟩):
 AO P ⟨dst,.binOp .neq t x y t',ty,pos,af,g⟩ nid st K:=by
 obtain⟨cs,h1,ds,h2,h3,rfl,h5⟩:=h
 refine⟨0,_,.pure λc ρ D J a w hs=>?_,h5⟩
 have e1:=hs.op x;have e2:=hs.op y
 rw[uk h1] at e1;rw[uk h2] at e2
 have key:∀(ks:List (Option IntKind)) (cs:List AV),okM ks cs=true->∀j (h:j<cs.length),∃v,cs[j]= .val v:=by
  intro ks
  induction ks with
  |nil=>intro cs h j hj;cases cs with|nil=>simp at hj|cons a l=>cases h
  |cons k ks ih=>
   intro cs h j hj
   match k,cs,h with
   |some k,.val (.int k' n)::cs,h=>
    rw[Ql,Bool.and_eq_true] at h
    cases j with
    |zero=>exact⟨_,rfl⟩
    |succ j=>exact ih cs h.2 j (by simpa using hj)
   |none,.val (.string s)::cs,h=>
    rw[Qm] at h
    cases j with
    |zero=>exact⟨_,rfl⟩
    |succ j=>exact ih cs h j (by simpa using hj)
 have same:∀{u v:Value},Rep w J ρ u (.agg cs)->Rep w J ρ v (.agg cs)->∃vs:Array Value,u= .agg vs/\v= .agg vs/\∀(j:Nat) (x:Value),cs[j]? =some (AV.val x)->vs[j]? =some x:=by
  intro u v hu hv
  cases hu with
  |agg vs _ hs1 g1=>
   cases hv with
   |agg us _ hs2 g2=>
    have val:∀(vs:Array Value),vs.size=cs.length->(∀j (h:j<cs.length),Rep w J ρ (vs.getD j undef) cs[j])->∀(j:Nat) (x:Value),cs[j]? =some (AV.val x)->vs[j]? =some x:=by
     intro vs hs g j x hj
     obtain⟨hlt,he⟩:=List.getElem?_eq_some_iff.1 hj
     have:=g j hlt
     rw[he] at this
     have e:=aG this
     have hj':j<vs.size:=by rw[hs];exact hlt
     rw[Array.getElem?_eq_getElem hj',<-e]
     simp[Array.getD,hj']
    have h1:=val vs hs1 g1
    have h2:=val us hs2 g2
    refine⟨vs,rfl,?_,h1⟩
    congr 1
    apply Array.ext_getElem?
    intro j
    by_cases hj:j<cs.length
    ·obtain⟨x,hx⟩:=key ks cs h3 j hj
     have hx':cs[j]? =some (.val x):=by rw[List.getElem?_eq_getElem hj,hx]
     rw[h1 j x hx',h2 j x hx']
    ·rw[Array.getElem?_eq_none omgz,Array.getElem?_eq_none omgz]
 obtain⟨vs,k1,k2,k3⟩:=same e1 e2
 refine⟨_,?_,.val _⟩
 have heq:(Op.equalIn (9998+1+1) t (.agg vs) (.agg vs)).run P w= .ok true w:=by
  have ho:=ht.out
  unfold ab4 at ho
  split at ho
  ·rename_i fs hu
   split at ho
   ·cases ho
   ·rename_i hst
    have hst':P.stoodInHeld t=false:=by simpa using hst
    have hf:P.fieldsOf t=fs:=by unfold Program.fieldsOf;rw[hu]
    rw[run_equalIn_struct w (9998+1) t _ _ (by rw[hf];exact hu) hst',hf]
    exact Ba fs.toList 0 ks cs w ho h3 (λj v hj=>by rw[Nat.zero_add];exact k3 j v hj)
  ·cases ho
 have heq':(Op.equalIn Op.maxDepth t (.agg vs) (.agg vs)).run P w= .ok true w:=heq
 simp only[execOp,k1,k2,Sem.run_bind,run_eqGuard_agg w _ t x y _ _ ht.gd,Result.andThen_ok,binOp,Op.equal]
 simp[heq']
end
attribute [push_cast] aiM Ql Qm
section
variable {P:Program} {Q:Exit->Nat->St->Prop} {nid:Nat} {st:St} {dst:Option Nat} {ty:TypeId} {pos:String} {af:Array Edge} {g:Option (Nat×Bool)} {K:Nat->Eff->Prop}
theorem CO(t:TypeId)(ps:Array (Nat×Operand))(zs:List Value)(n:Nat)(e:TypeId)(es:Nat)(out:List AV)(hz:jg P t=some zs)(ha:yK P t=some (n,e))(hs:siz P e=some es)
 (hf:kC (λi=>some (i*es,es)) (zs.map ofV) (ps.toList.map λp=>(p.1,st.op p.2))=some out):OpT P ⟨dst,.build t ps,ty,pos,af,g⟩ nid 0 st ⟨.agg out,[]⟩:= .pure λc ρ D J a w h=>by
 obtain⟨z,hr,hc⟩:=oh (w:=w) hz
 have hu:=lT ha
 have h0:VRep w J ρ z.cells (zs.map ofV):=by
  rw[hc]
  refine⟨by simp,λj hj=>?_⟩
  have hj':j<zs.length:=by simpa using hj
  simpa[Array.getD,hj'] using og zs[j]
 obtain⟨c',hfill,hv⟩:=yL (w:=w) (J:=J) (ρ:=ρ) (λi=>some (i*es,es)) (ps.toList.map λp=>(p.1,st.op p.2)) (ps.toList.map λp=>(p.1,a.eval p.2)) z.cells _ out h0 hf (by simp) (λj hj=>by
  have hj':j<ps.toList.length:=by simpa using hj
  have:=h.op ps.toList[j].2
  simpa[List.getD_eq_getElem?_getD,List.getElem?_map,List.getElem?_eq_getElem hj'] using this)
 refine⟨.agg c',?_,.agg _ _ hv.1 hv.2⟩
 simp only[execOp,Instr.build,Sem.run_bind,hr,Result.andThen_ok,run_underlying hu,dx hs]
 have e1:(Array.map (λx=>(x.1,a.eval x.2)) ps).toList=List.map (λp=>(p.1,a.eval p.2)) ps.toList:=by simp
 simp[e1,hfill]
theorem gH{zs:List Value} {n es:Nat} {e:TypeId}(t:TypeId)(ps:Array (Nat×Operand)) [hz:jY P t zs] [ha:vz P t n e] [hs:gJ P e es]
 (h:aH (kC (λi=>some (i*es,es)) (zs.map ofV) (ps.toList.map λp=>(p.1,st.op p.2))) λout=>K 0 ⟨.agg out,[]⟩):AO P ⟨dst,.build t ps,ty,pos,af,g⟩ nid st K:=by
 obtain⟨out,h1,h2⟩:=h
 exact⟨_,_,CO t ps zs n e es out hz.out ha.out hs.out h1,h2⟩
end
theorem Qo{ag:Bool} {n:Nat} {l:List (List Int×AV)} {τ:Nat->Nat}:rD τ (.map ag n l)= .map ag n (l.map λx=>(x.1,ren τ x.2)):=rfl
theorem Qp{ag:Bool} {n id:Nat} {cs:List AV} {l:List (List Int×AV)}:w9 id cs (.map ag n l)= .map ag n (l.map λx=>(x.1,bP id cs x.2)):=rfl
attribute [push_cast] Qo Qp
theorem lnz:(∀{α:Type} {a:α} {l:List α},(a::l).length=l.length+1)/\(∀{α:Type},([]:List α).length=0)/\(∀l,(cS l).length=l.length)/\(∀l,(cB l).length=l.length)/\(∀k l,(cI k l).length=l.length)/\
 (∀{α:Type} {n:Nat} {a:α},(List.replicate n a).length=n)/\(∀{α β:Type} {f:α->β} {l:List α},(l.map f).length=l.length)/\(∀{α:Type} {l m:List α},(l++m).length=l.length+m.length)/\
 (∀{α:Type} {l:List α} {i:Nat} {a:α},(l.set i a).length=l.length)/\(∀{α:Type} {l:List α} {i:Nat},(l.take i).length=min i l.length)/\(∀{α:Type} {l:List α} {i:Nat},(l.drop i).length=l.length-i)/\
 (∀{α:Type} {l m:List α} {k:Nat},(uu l k m).length=min k l.length+(m.length+(l.length-(k+m.length)))):=
 ⟨rfl,rfl,PR,PS,λ_=>H5,List.length_replicate,List.length_map _,List.length_append,List.length_set,List.length_take,List.length_drop,E8⟩
theorem vI{a:Prop}(h:a:=by(first|omega|assumption|((try clear hK);first|(simp;done)|(simp;omega)|(simp_all;done)|((try simp);split<;>first|omega|(simp_all;done)|(simp_all;omega))))):a:=h
theorem aI{a b:Prop}(k:b)(h:a:=by(first|omega|assumption|((try clear hK);first|(simp;done)|(simp;omega)|(simp_all;done)|((try simp);split<;>first|omega|(simp_all;done)|(simp_all;omega))))):a/\b:=⟨h,k⟩
theorem vD{a:Prop}(h:a:=by first|omega|assumption|(simp only[lnz];done)|(simp only[lnz];omega)):a:=h
end
section
variable {x y j:Nat}
theorem aeW(h:x<65536):IntKind.u16.wrap (x:Int)=x:=ab2 omgz
theorem u_of(h:x<65536):BitVec.ofInt 16 (x:Int)=BitVec.ofNat 16 x:=by
 simp[BitVec.ofInt_natCast]
theorem aiN(hx:x<65536)(hy:y<65536):IntKind.wrap .u16 ((BitVec.ofInt (IntKind.bits .u16) (x:Int)&&&BitVec.ofInt (IntKind.bits .u16) (y:Int)).toNat:Int)=((x&&&y:Nat):Int):=by
 show IntKind.wrap .u16 ((BitVec.ofInt 16 (x:Int)&&&BitVec.ofInt 16 (y:Int)).toNat:Int)=_
 rw[u_of hx,u_of hy,BitVec.toNat_and,BitVec.toNat_ofNat,BitVec.toNat_ofNat,Nat.mod_eq_of_lt (by simpa using hx),Nat.mod_eq_of_lt (by simpa using hy)]
 exact aeW (Nat.lt_of_le_of_lt Nat.and_le_left hx)
def Xj(x y:Nat):Nat:=x&&&(65535-y%65536)
theorem aiO(h:j<=16):Int.fdiv (x:Int) (2^min j (IntKind.bits .u16))=((x>>>j:Nat):Int):=by
 rw[show IntKind.bits .u16=16 from rfl,Nat.min_eq_left h,Nat.shiftRight_eq_div_pow]
 rw[Int.fdiv_eq_ediv_of_nonneg _ (Int.le_of_lt (Int.pow_pos (by decide)))]
 rw[show(2:Int)^j=((2^j:Nat):Int) by simp]
 rfl
theorem Ki:((x>>>j&&&1:Nat):Int)=1↔x.testBit j=true:=by
 rw[Nat.testBit,Nat.and_comm 1]
 have:x>>>j&&&1<2:=Nat.lt_of_le_of_lt Nat.and_le_right (by decide)
 simp only[bne_iff_ne,ne_eq]
 omega
theorem Qq(hx:x<65536):(Xj x y).testBit j=(x.testBit j&& !y.testBit j):=by
 unfold Xj
 rw[Nat.testBit_and]
 by_cases hj:j<16
 ·have e:65535-y%65536=2^16-(y%65536+1):=by omega
  rw[e,Nat.testBit_two_pow_sub_succ (by have:=Nat.mod_lt y (show 65536>0 by decide);simpa using this)]
  have:(y%65536).testBit j=y.testBit j:=by
   rw[show(65536:Nat)=2^16 by rfl,Nat.testBit_mod_two_pow];simp[hj]
  rw[this];simp[hj]
 ·have:x.testBit j=false:=Nat.testBit_lt_two_pow (Nat.lt_of_lt_of_le hx (by
   rw[show(65536:Nat)=2^16 by rfl];exact Nat.pow_le_pow_right (by decide) omgz))
  simp[this]
end
section
section
variable {P:Program} {Q:Exit->Nat->St->Prop} {nid:Nat}
theorem bS{r:Nat} {ops:Array Oper} {d:Bool} {n m:Nat} {env:List (Nat×AV)} {objs:List (Nat×Option aC)}(id:Nat)
 (h:∃cs e,(aQ objs id).join=some (.cells cs e)/\(∀x∈cs,bnd 0 x)/\∀K:List (Nat×AV)->List (Nat×Option aC)->Prop,(∀env' objs',AC P (.region r ops d) Q nid ⟨n,m,env',objs'⟩->K env' objs')->
   K (env.map λp=>(p.1,bP id cs p.2)) ((id,none)::objs.map λp=>(p.1,p.2.map (w9 id cs)))):AC P (.region r ops d) Q nid ⟨n,m,env,objs⟩:=Pq id h
theorem bT{r:Nat} {ops:Array Oper} {d:Bool} {y:Code} {n m:Nat} {env:List (Nat×AV)} {objs:List (Nat×Option aC)}(id:Nat)
 (h:∃cs e,(aQ objs id).join=some (.cells cs e)/\(∀x∈cs,bnd 0 x)/\∀K:List (Nat×AV)->List (Nat×Option aC)->Prop,(∀env' objs',AC P (.seq (.region r ops d) y) Q nid ⟨n,m,env',objs'⟩->K env' objs')->
   K (env.map λp=>(p.1,bP id cs p.2)) ((id,none)::objs.map λp=>(p.1,p.2.map (w9 id cs)))):AC P (.seq (.region r ops d) y) Q nid ⟨n,m,env,objs⟩:=Pq id h
end
attribute [push_cast] Option.map_none
theorem Xk{α:Type} {p:Prop} [Decidable p]{x y:α}(h:¬p):sel (!decide p) x y=x:=by rw[decide_eq_false h];rfl
theorem Xl{α:Type} {p:Prop} [Decidable p]{x y:α}(h:p):sel (!decide p) x y=y:=by rw[decide_eq_true h];rfl
theorem aiP{st:St} {f:Nat}:st.op (.func f)= .fn f []:=rfl
attribute [push_cast] Xk Xl aiP
theorem Qr{vs:List AV}:∀{cs:List AV} {off:Nat},off+vs.length<=cs.length->lD cs off vs=spl cs off vs:=by
 induction vs with
 |nil=>intro cs off _;simp[lD,spl]
 |cons v vs ih=>
  intro cs off h
  rw[List.length_cons] at h
  rw[lD,ih (by rw[List.length_set];omega)]
  have e:cs.set off v=cs.take off++v::cs.drop (off+1):=by rw[List.set_eq_take_append_cons_drop,if_pos omgz]
  unfold spl
  have hl:(cs.take off).length=off:=by rw[List.length_take];omega
  have h1:(cs.take off).take (off+1)=cs.take off:=List.take_of_length_le omgz
  have h2:(cs.take off).drop (off+1+vs.length)=[]:=List.drop_eq_nil_of_le omgz
  rw[e,List.take_append,List.drop_append,hl,h1,h2,show off+1-off=1 by omega,show off+1+vs.length-off=vs.length+1 by omega,List.nil_append,List.drop_succ_cons,List.drop_drop,List.length_cons,show off+1+vs.length=off+(vs.length+1) by omega]
  simp
section
variable {α:Type} {w:Nat} [C:aa α w]{a:α} {l:List α}
theorem aeX:(aa.cells a).length=w:=C.len a
theorem aeY:(aa.cells a).all AV.scalar=true:=C.sc a
theorem aeZ(τ:Nat->Nat):(aa.cells a).map (ren τ)=aa.cells a:=(List.map_congr_left (λx hx=>kF τ x (aa.cl a x hx))).trans (List.map_id' _)
theorem Qs(id:Nat)(cs:List AV):(aa.cells a).map (bP id cs)=aa.cells a:=(List.map_congr_left (λx hx=>kG id cs x (aa.cl a x hx))).trans (List.map_id' _)
theorem ae0{st:St} {σ:List Nat} {fz:Bool} {n:Nat}(h:0<n):(aa.cells a).map (toA st σ fz n)=aa.cells a:=(List.map_congr_left (λx hx=>vQ h x (List.all_eq_true.1 (C.pl a) x hx))).trans (List.map_id' _)
theorem ae1{st:St} {σ:List Nat} {n:Nat}(h:0<n):(aa.cells a).map (dfz st σ n)=aa.cells a:=(List.map_congr_left (λx hx=>vR h x (List.all_eq_true.1 (C.pl a) x hx))).trans (List.map_id' _)
theorem Qt(n:Nat):(∀x∈aa.cells a,bnd n x)=True:=eq_true (λx hx=>kH n x (aa.cl a x hx))
theorem Xn:(aa.cells a).take w=aa.cells a:=List.take_of_length_le (by rw[C.len];exact Nat.le_refl _)
theorem ae2{cs:List AV}(h:cs.length=w):spl cs 0 (aa.cells a)=aa.cells a:=nO (by rw[C.len,h])
theorem ae3{cs:List AV} {off:Nat}(h:w≠1):wL cs off (aa.cells a)=spl cs off (aa.cells a):=by
 have hl:=C.len a
 generalize aa.cells a=vs at hl
 match vs,hl with
 |[],_=>rfl
 |[v],hl=>exact absurd hl.symm h
 |_::_::_,_=>rfl
theorem Xo{cs:List AV}(h:cs.length=w):lD cs 0 (aa.cells a)=aa.cells a:=by
 rw[Qr (by rw[C.len];omega),nO (by rw[C.len,h])]
theorem Xp [Inhabited α]:cR l++aa.cells a=cR (l++[a]):=pO
end
attribute [push_cast] aeX aeY aeZ Qs ae0 ae1 Qt Xn ae2 ae3 Xo Xp
end
section
theorem ACall.own{P:Program} {f:FuncId} {args args':List AV} {cs:List AV} {e:TypeId} {r:AV} {objs':List aC}(hc:∀x∈cs,bnd 0 x)(he:args'=args.map (bP 0 cs))(hb:∀x∈args',bnd 0 x)
 (h:ACall P f args' [] 0 r objs') (ht:trs objs'=[]:=by rfl):ACall P f args [.cells cs e] 0 r objs':=by
 subst he
 intro w A I ρ vs hsz hrep hA hI hobj hdom hinj _ hlaid
 obtain⟨b,s,k1,k2,k3⟩:=hobj 0 (by simp)
 simp only[List.getElem_cons_zero] at k3
 obtain⟨u,hu⟩:=iA k3
 let A':Nat->Prop:=λb'=>A b'\/b'=b
 have hJ:∀b,A b->A' b:=λ_ h=> .inl h
 have mono:∀{ρ:Rho} {v:Value} {x:AV},Rep w A ρ v x->Rep w A' ρ v x:=λh=>h.mono (λb hb _=>⟨hJ b hb,rfl⟩) (Nat.le_refl _) (λ_ _ h=>h)
 have rep:∀{v:Value} {x:AV},Rep w A ρ v x->Rep w A' ρ v (bP 0 cs x):=λh=>
  Rep.frz (u:=u) hJ (.inr rfl) k1 k3.lt (λj hj=>(hu j hj).2.1) (λj hj=>(hu j hj).1) (λj hj=>mono ((hu j hj).2.2.closed (hc _ (List.getElem_mem hj)))) h
 refine(h w A' (λb'=>I b'/\b'≠b) (λ_=>none) vs (by simpa using hsz) (λj hj=>?_) (λb' hb'=>?_) (λb' hb'=>hI b' hb'.1) (λj hj=>by simp at hj) (λj p hp=>by cases hp) (λi j b s s' h1 _=>by cases h1) (Hid.none (λ_ _ _=>by simp)) (hlaid.mono (λb h _=>⟨.inl h,rfl⟩) (Nat.le_refl _))).mono ?_
 ·have hj':j<args.length:=by simpa using hj
  have:=(rep (hrep j hj')).closed (ρ':=λ_=>none) (hb _ (by simpa using List.mem_map.2 ⟨_,List.getElem_mem hj',rfl⟩))
  simpa using this
 ·rcases hb' with hb'|hb'
  ·exact⟨(hA b' hb').1,λhn=>(hA b' hb').2 hn.1⟩
  ·subst hb';exact⟨hI _ k2,λhn=>hn.2 rfl⟩
 ·rintro ex w' ⟨v,ρ',J',h1,h2,h3,h4,h5,h6,h7,h8,_⟩
  refine⟨v,ρ',J',h1,h2,λb' hb'=>?_,?_,λj hj=>by omega,h6,λj hj=>?_,h8,Hid.none λid H j k=>?_⟩
  ·obtain⟨g1,g2⟩:=h3 b' hb'
   refine⟨g1,?_⟩
   rcases g2 with(g2|g2)|g2|g2
   ·exact .inl g2
   ·subst g2;exact .inr (.inl k2)
   ·exact .inr (.inl g2.1)
   ·exact .inr (.inr g2)
  ·exact⟨h4.size,h4.os,h4.tape,h4.output,λb' hb' hn=>h4.block b' hb' (λhh=>hn hh.1)⟩
  ·obtain⟨b',s',g1,g2,g3,g4⟩:=h7 j hj
   exact⟨b',s',g1,g2,g3.imp (λh=>h.1) id,g4⟩
  ·obtain⟨hlt,e⟩:=List.getElem?_eq_some_iff.1 k
   have:H∈trs objs':=mO.2 ⟨j,e▸List.getElem_mem hlt⟩
   rw[ht] at this;cases this
end
section
class vw(α:Type) where
 c:α->AV
 sc:∀a,(c a).scalar=true
 pl:∀a,(c a).plain=true
def cX{α:Type} [vw α](l:List α):List AV:=l.map vw.c
section
variable {α:Type} [C:vw α]{l m:List α} {a:α} {i n:Nat}
theorem zo:(cX l).length=l.length:=by simp[cX]
theorem ae4:(cX l)[i]? =l[i]?.map vw.c:=by simp[cX]
theorem Ij:cX l++cX m=cX (l++m):=by simp[cX]
theorem Xq:(cX l).take n=cX (l.take n):=by simp[cX,List.map_take]
theorem Xr:(cX l).drop n=cX (l.drop n):=by simp[cX,List.map_drop]
theorem ae5(τ:Nat->Nat):(cX l).map (ren τ)=cX l:=(List.map_congr_left (λx hx=>by
 obtain⟨a,_,rfl⟩:=List.mem_map.1 hx;exact kF τ _ (qP _ (C.pl a)))).trans (List.map_id' _)
theorem ae6(id:Nat)(cs:List AV):(cX l).map (bP id cs)=cX l:=(List.map_congr_left (λx hx=>by
 obtain⟨a,_,rfl⟩:=List.mem_map.1 hx;exact kG id cs _ (qP _ (C.pl a)))).trans (List.map_id' _)
theorem ae7{st:St} {σ:List Nat} {fz:Bool} {n:Nat}(h:0<n):(cX l).map (toA st σ fz n)=cX l:=(List.map_congr_left (λx hx=>by
 obtain⟨a,_,rfl⟩:=List.mem_map.1 hx;exact vQ h _ (C.pl a))).trans (List.map_id' _)
theorem ae8{st:St} {σ:List Nat} {n:Nat}(h:0<n):(cX l).map (dfz st σ n)=cX l:=(List.map_congr_left (λx hx=>by
 obtain⟨a,_,rfl⟩:=List.mem_map.1 hx;exact vR h _ (C.pl a))).trans (List.map_id' _)
theorem Ik(n:Nat):(∀x∈cX l,bnd n x)=True:=eq_true (λx hx=>by
 obtain⟨a,_,rfl⟩:=List.mem_map.1 hx;exact kH n _ (qP _ (C.pl a)))
theorem ae9:(cX l).all AV.scalar=true:=by
 rw[List.all_eq_true]
 intro x hx
 obtain⟨a,_,rfl⟩:=List.mem_map.1 hx
 exact C.sc a
theorem CP:cX ([]:List α)=[]:=rfl
theorem Xt:cX l++[vw.c a]=cX (l++[a]):=by simp[cX]
end
attribute [push_cast] zo ae4 Ij Xq Xr ae5 ae6 ae7 ae8 Ik ae9 CP Xt
end
section
variable {s i:Nat}
def sN(s i:Nat):Int:=((s>>>i:Nat):Int)
def bN(s i:Nat):Int:=((s>>>i&&&1:Nat):Int)
theorem aiQ(h:i<=16):Int.fdiv (s:Int) (2^min i (IntKind.bits .u16))=sN s i:=aiO h
theorem afa(hs:s<65536):s>>>i<65536:=Nat.lt_of_le_of_lt (by rw[Nat.shiftRight_eq_div_pow];exact Nat.div_le_self _ _) hs
theorem afb(hs:s<65536):IntKind.wrap .u16 ((BitVec.ofInt (IntKind.bits .u16) (sN s i)&&&BitVec.ofInt (IntKind.bits .u16) (1:Int)).toNat:Int)=bN s i:=aiN (y:=1) (afa hs) omgz
theorem bN_1:(bN s i=1)=(s.testBit i=true):=propext Ki
theorem bN_0:(bN s i=0)=(s.testBit i=false):=by
 have this:=Ki (x:=s) (j:=i)
 have h2:s>>>i&&&1<2:=Nat.lt_of_le_of_lt Nat.and_le_right (by decide)
 unfold bN
 refine propext ⟨λh=>?_,λh=>?_⟩
 ·cases e:s.testBit i with
  |false=>rfl
  |true=>have:=this.2 e;omega
 ·have h3:¬((s>>>i&&&1:Nat):Int)=1:=λhh=>by rw[this.1 hh] at h;cases h
  omega
theorem afc{b:Bool}:decide (b=true)=b:=by cases b<;>rfl
theorem afd{b:Bool}:decide (b=false)= !b:=by cases b<;>rfl
attribute [push_cast] aiQ afb bN_1 bN_0 MO afc afd
end
section
def u8L:List AV->Option (List Int)
 |[]=>some []
 | .val (.int .u8 n)::l=>(u8L l).map (n:: ·)
 |_::_=>none
theorem Qv:∀{cells:List AV} {ns:List Int},u8L cells=some ns->cells=ns.map λn=>AV.val (.int .u8 n):=by
 intro cells
 induction cells with
 |nil=>intro ns h;simp[u8L] at h;subst h;rfl
 |cons x l ih=>
  intro ns h
  unfold u8L at h
  split at h
  ·rename_i he;cases he
  ·rename_i n l' he
   cases he
   cases hu:u8L l with
   |none=>rw[hu] at h;cases h
   |some ms=>
    rw[hu] at h
    simp at h
    subst h
    rw[ih hu];rfl
  ·cases h
theorem aff{l:List Int}:u8L (cI .u8 l)=some l:=by
 induction l with
 |nil=>rfl
 |cons x l ih=>
  show(u8L (cI .u8 l)).map (x:: ·)=_
  rw[ih];rfl
attribute [push_cast] aff
section
variable {P:Program} {Q:Exit->Nat->St->Prop} {nid:Nat} {st:St} {dst:Option Nat} {ty:TypeId} {pos:String} {af:Array Edge} {g:Option (Nat×Bool)} {K:Nat->Eff->Prop}
theorem dN{e:TypeId}(s t:TypeId)(x:Operand) [he:dW P s e] [hk:nI P e .u8] [ht:Eo P t]
 (h:aH (gY st (st.op x)) λq=>aH (u8L q.1) λns=>q.1.length=q.2/\K 0 ⟨.val (.string (strOfNums ns)),[]⟩):AO P ⟨dst,.convert s t x,ty,pos,af,g⟩ nid st K:=by
 obtain⟨⟨cells,m⟩,h1,ns,h2,h3,h5⟩:=h
 refine⟨0,_,.pure λc ρ D J a w hs=>?_,h5⟩
 have hsp:=Qv h2
 dsimp only at h3 hsp
 have hu:=run_underlying (P:=P) (bg he.out)
 rcases tV hs (hs.op x) h1 (es:=1) (by simpa using h3) with⟨hv,hm,hc⟩|⟨ad,cp,news,hv,hmc,hnl,hnews,hone,hrep⟩
 ·have hns:ns=[]:=by rw[hsp] at hc;simpa using hc
  subst hns
  refine⟨.string (strOfNums []),?_,.val _⟩
  have:=run_convert_bytes_nil w (P:=P) s e (bg he.out) (gG hk.out) 0 0 t (iL ht.out)
  simp only[execOp,hv]
  simpa[this] using(by rfl:(ByteArray.empty)=strOfNums [])
 ·have hnl1:news.length=m:=by simpa using hnl
  have hn:news=ns.map (Value.int .u8):=by
   apply List.ext_getElem
   ·rw[hnl1,<-h3,hsp];simp
   ·intro j g1 g2
    have hj:j<cells.length:=by omega
    have:=hrep j hj
    have e1:cells[j]= .val (.int .u8 (ns[j]'(by simpa using g2))):=by simp[hsp]
    rw[e1] at this
    have:=aG this
    rw[List.getD_eq_getElem?_getD,List.getElem?_eq_getElem g1] at this
    simpa using this
  have hl:=run_loadCells_list (P:=P) w ad news (λj v hj=>hnews j v hj)
  rw[hnl1] at hl
  have h6:=run_convert_bytes_string (P:=P) w s t e (some ad) m cp (bg he.out) (gG hk.out) (iL ht.out)
  have h7:=run_bytesToString (P:=P) w ad m cp ns (by rw[hl,hn])
  refine⟨.string (strOfNums ns),?_,.val _⟩
  have e2:(⟨ByteArray.empty.data++(ns.map λn=>UInt8.ofNat n.toNat).toArray⟩:ByteArray)=strOfNums ns:=by
   unfold strOfNums;simp[ByteArray.empty,ByteArray.emptyWithCapacity];rfl
  rw[foldl_push_bytes,e2] at h7
  simp only[execOp,hv]
  rw[<-h6] at h7
  simp[h7]
end
end
section
section
variable {P:Program} {Q:Exit->Nat->St->Prop} {nid:Nat} {st:St} {dst:Option Nat} {ty:TypeId} {pos:String} {af:Array Edge} {g:Option (Nat×Bool)} {K:Nat->Eff->Prop}
theorem Il(e:TypeId)(zs:List Value)(hz:jg P e=some zs)(h1:zs.all Value.oneCell'=true):
 OpT P ⟨dst,.alloc e,ty,pos,af,g⟩ nid 1 st ⟨.pt nid 0,[(nid,some (.full (zs.map ofV) e))]⟩:= .alloc λc ρ D J a w h=>by
 obtain⟨z,hr,hc⟩:=oh (w:=w) hz
 refine⟨.pointer (some ⟨w.heap.size,0,none⟩),w.alloc (.cells zs.toArray e),.cells zs.toArray e,zs.length,?_,iF.alloc w _,λρ' h1' h2'=>⟨.pt _ _ nid 0 h1',zs.toArray,(iF.alloc w _).new,rfl,List.length_map _,(Br (J:=J) (ρ:=ρ') zs h1).2⟩⟩
 simp[execOp,Instr.alloc,hr,newVar,hc,l5]
theorem Fa{n:Nat} {e0:TypeId} {zs:List Value}(e:TypeId) [ha:vz P e n e0] [hz:jY P e zs](h:zs.all Value.oneCell'=true/\K 1 ⟨.pt nid 0,[(nid,some (.full (zs.map ofV) e))]⟩):AO P ⟨dst,.alloc e,ty,pos,af,g⟩ nid st K:=
 ⟨_,_,Il e zs hz.out h.1,h.2⟩
theorem Im(t:TypeId)(x y:Operand)(id off n:Nat)(cs vs:List AV)(e:TypeId)(hx:st.op x= .pt id off)(ho:st.ob id=some (.full cs e))(hy:(st.op y).parts=some vs)(hs:vs.all AV.scalar=true)
 (hz:siz P t=some n) (hn:vs.length=n) (hlt:off+n<=cs.length):
 OpT P ⟨dst,.store t x y,ty,pos,af,g⟩ nid 0 st ⟨.any,[(id,some (.full (spl cs off vs) e))]⟩:=OpT.modify ho λc ρ D J a w b s h hρ hob hJ=>by
 obtain⟨arr,ha,hsz,hcl,hcr⟩:=hob
 obtain⟨h1,h2⟩:=qJ (h.op y) hy hs
 have hxv:=h.op x
 rw[hx] at hxv
 generalize hv:a.eval x=v at hxv
 cases hxv with
 |pt b' s' _ _ hρ'=>
  rw[hρ] at hρ';cases hρ'
  have hcr':CRep w J ρ arr cs:=⟨omgz,hcr⟩
  have hcells:∀v∈(a.eval y).cells.toList,v.oneCell'=true:=by
   intro u hu
   obtain⟨j,hj,rfl⟩:=List.getElem_of_mem hu
   have hj':j<vs.length:=by rw[<-h1];simpa using hj
   have:=(h2 j hj').1
   simpa[Array.getD,h1,hj'] using this
  have hlen:(a.eval y).cells.toList.length=vs.length:=by simpa using h1
  have hst:=run_storeCells_at P b off e (a.eval y).cells.toList 0 arr w ha omgz hcells
  simp only[Nat.add_zero] at hst
  have hsp:=hcr'.splice (avs:=vs) (vs:=(a.eval y).cells.toList) (off:=off) hlen (λj hj=>by
   have:=h2 j hj
   rwa [show(a.eval y).cells.toList.getD j undef=(a.eval y).cells.getD j undef by simp[List.getD_eq_getElem?_getD,Array.getD_eq_getD_getElem?]]) omgz omgz
  refine⟨.skip,w.setRow b (arr.toList.take off++(a.eval y).cells.toList++arr.toList.drop (off+(a.eval y).cells.toList.length)).toArray,undef,?_,.inr ⟨rfl,rfl⟩,?_,?_,?_,?_,?_,λhi=>⟨.any _,_,setRow_heap w b arr _ e _ ha,?_,?_,?_⟩⟩
  ·simp only[execOp,hv,Instr.storeAt,Instr.sureAddr,storeVar,Sem.run_bind,Sem.run_pure,Result.andThen_ok,dx hz,h1,hn,ne_eq,not_true,if_false]
   rw[hst];rfl
  ·simp
  ·rfl
  ·rfl
  ·rfl
  ·intro k hk;exact setRow_other w b k _ hk
  ·rw[hsp.2];exact hsz
  ·show(spl cs off vs).length=s
   unfold spl
   rw[List.length_append,List.length_append,List.length_take,List.length_drop];omega
  ·exact(hsp.1.imp hi).2
theorem jN{n:Nat}(t:TypeId)(x y:Operand) [hz:gJ P t n](h:aH (CJ (st.op x)) λp=>aH (vO (st.ob p.1)) λq=>aH (st.op y).parts λvs=>vs.all AV.scalar=true/\vs.length=n/\p.2+n<=q.1.length/\
 K 0 ⟨.any,[(p.1,some (.full (wL q.1 p.2 vs) q.2))]⟩):AO P ⟨dst,.store t x y,ty,pos,af,g⟩ nid st K:=by
 obtain⟨p,h1,q,h2,vs,h3,h4,h5,h6,h7⟩:=h
 rw[Bv _ _ _ omgz] at h7
 exact⟨_,_,Im t x y _ _ _ _ vs _ (qN h1) (vP h2) h3 h4 hz.out h5 h6,h7⟩
theorem Io(t e:TypeId)(x:Operand)(lo hi:Option Operand)(id n es:Nat)(l u:Int)(cs:List AV)(e':TypeId)(ht:yK P t=some (n,e))(hs:siz P e=some es)(hx:st.op x= .pt id 0)(ho:st.ob id=some (.full cs e'))(hcs:cs.length=n*es)(hl:bv st 0 lo=some l)(hu:bv st n hi=some u)
 (h1:0<=l) (h2:l<=u) (h3:u<=n) (h4:l<n):
 OpT P ⟨dst,.slice t x lo hi none,ty,pos,af,g⟩ nid 0 st ⟨.sl id (l.toNat*es) (u.toNat-l.toNat) es,[]⟩:= .pure λc ρ D J a w h=>by
 have hr:=h.op x;rw[hx] at hr
 have hty:=lT ht
 obtain⟨b,s,q1,q2,q3,q4⟩:=h.obj id _ ho
 obtain⟨arr,ha,hsz,hcl,_⟩:=q2
 generalize hv:a.eval x=v at hr
 cases hr with
 |pt b' s' _ _ hρ=>
  rw[q1] at hρ;cases hρ
  have hb:=iM (P:=P) h false n n lo hi l u hl hu h1 h2 h3
  refine⟨.slice (some ⟨b,l.toNat*es,none⟩) (u.toNat-l.toNat) (n-l.toNat),?_,.sl b s id _ _ es (n-l.toNat) q1 omgz ?_⟩
  ·simp only[execOp,hv,Instr.sliceAt,Instr.sureAddr,Sem.run_bind,run_underlying hty,Result.andThen_ok,Option.map_none,hb,Sem.run_pure,dx hs]
   rw[if_neg omgz];simp[Addr.add_lit]
  ·rw[<-Nat.add_mul,show l.toNat+(n-l.toNat)=n by omega];omega
theorem uw{n es:Nat} {e:TypeId}(t:TypeId)(x:Operand)(lo hi:Option Operand) [ht:vz P t n e] [hs:gJ P e es](h:aH (CJ (st.op x)) λp=>aH (vO (st.ob p.1)) λq=>aH (bv st 0 lo) λl=>aH (bv st n hi) λu=>p.2=0/\q.1.length=n*es/\(0<=l/\l<=u/\u<=n)/\l<n/\
 K 0 ⟨.sl p.1 (l.toNat*es) (u.toNat-l.toNat) es,[]⟩):AO P ⟨dst,.slice t x lo hi none,ty,pos,af,g⟩ nid st K:=by
 obtain⟨⟨id,off⟩,h1,q,h2,l,h3,u,h4,h5,h6,⟨h7,h8,h9⟩,h10,h11⟩:=h
 dsimp only at h5 h2 h11
 subst h5
 exact⟨_,_,Io t e x lo hi id n es l u q.1 q.2 ht.out hs.out (qN h1) (vP h2) h6 h3 h4 h7 h8 h9 h10,h11⟩
theorem zt(t:TypeId)(l c':Operand)(e:TypeId)(es by':Nat)(zs:List Value)(kl kc:IntKind)(n:Int)(he:jf P t=some e)(hs:siz P e=some es)(hzs:jg P e=some zs)(hzl:zs.length=es)(h1:zs.all Value.oneCell'=true)
 (hb:byt P e=some by') (hl:st.op l= .val (.int kl 0)) (hc:st.op c'= .val (.int kc n)) (h0:0<=n) (hn:n<=9223372036854775807) (hbytes:(by':Int)*n<=281474976710656):
 OpT P ⟨dst,.makeSlice t l c',ty,pos,af,g⟩ nid 1 st ⟨.sl nid 0 0 es,[(nid,some (.cells [] e))]⟩:= .alloc λc ρ D J a w h=>by
 have e1:=h.op l;have e2:=h.op c'
 rw[hl] at e1;rw[hc] at e2
 have e1:=aG e1;have e2:=aG e2
 obtain⟨i,z,hi,his,hz,hzc⟩:=kU hs hzs
 have hb':i.bytes=by':=by unfold byt at hb;simpa[hi] using hb
 have hr:=run_make (P:=P) w t e i z (bg he) hi hz kl kc 0 n (Int.le_refl _) h0 (by rw[hb'];exact hbytes) hn
 have hcr:=λρ':Rho=>qK (w:=w.alloc (.cells (madeCells z.cells (n.toNat*i.size)) e)) (J:=J) (ρ:=ρ') hzc h1 n.toNat
 refine⟨.slice (some ⟨w.heap.size,0,none⟩) 0 n.toNat,_,_,n.toNat*es,?_,iF.alloc w (.cells (madeCells z.cells (n.toNat*i.size)) e),λρ' h1' h2'=>⟨.sl _ _ nid 0 0 es n.toNat h1' (Nat.zero_le _) omgz,madeCells z.cells (n.toNat*i.size),(iF.alloc w _).new,?_,Nat.zero_le _,λj hj=>absurd hj (Nat.not_lt_zero j),?_⟩⟩
 ·simp[execOp,e1,e2,hr]
 ·rw[size_madeCells,his]
 ·have:=(hcr ρ').2.2
  rw[hzl,<-his] at this
  exact this
theorem oC{e:TypeId} {es by':Nat} {zs:List Value}(t:TypeId)(l c:Operand) [he:dW P t e] [hs:gJ P e es] [hb:vC P e by'] [hz:jY P e zs]
 (h:aH (jK (st.op l)) λn=>aH (jK (st.op c)) λn'=>n=0/\zs.length=es/\zs.all Value.oneCell'=true/\0<=n'/\n'<=9223372036854775807/\(by':Int)*n'<=281474976710656/\
   K 1 ⟨.sl nid 0 0 es,[(nid,some (.cells [] e))]⟩):AO P ⟨dst,.makeSlice t l c,ty,pos,af,g⟩ nid st K:=by
 obtain⟨n,h1,n',h2,rfl,h3,h4,h5,h6,h7,h8⟩:=h
 obtain⟨k1,hk1⟩:=iB h1;obtain⟨k2,hk2⟩:=iB h2
 exact⟨_,_,zt t l c e es by' zs k1 k2 n' he.out hs.out hz.out h3 h4 hb.out hk1 hk2 h5 h6 h7,h8⟩
end
theorem Nf{n:Nat} {cs:List AV} {e:TypeId}:Cw n (.full cs e)=∀x∈cs,bnd n x:=rfl
theorem Fb{cs:List AV} {e:TypeId}:l7 (.full cs e)=∀x∈cs,noImm x:=rfl
attribute [push_cast] Nf Fb
end
section
section
variable {P:Program} {nid:Nat} {st:St} {dst:Option Nat} {ty:TypeId} {pos:String} {af:Array Edge} {g:Option (Nat×Bool)} {K:Nat->Eff->Prop}
theorem OpT.drop{o:Oper} {x:AV} {id:Nat} {o0:aC}(ho:st.ob id=some o0)
 (h:∀(c:Ctx) (ρ:Rho) (D J:Nat->Prop) (a:Act) (w:World) (b s:Nat),Sim c ρ D J st a w->ρ id=some (b,s)->ObjRep w J ρ b s o0->¬J b->
   ∃w' v,(execOp a.eval o).run P w= .ok (.value v) w'/\w'.heap.size=w.heap.size/\w'.os=w.os/\w'.tape=w.tape/\w'.output=w.output/\
    (∀k,k≠b->w'.heap[k]? =w.heap[k]?)/\((∀u y,Rep w J ρ u y->Rep w' J ρ u y)->Rep w' J ρ v x)):OpT P o nid 0 st ⟨x,[(id,none)]⟩:=by
 intro c ρ D J a w hs hD _ K Q hK
 obtain⟨b,s,hρ,hob,_,hnJ⟩:=hs.obj id o0 ho
 obtain⟨w',v,hr,hsz,hos,htp,hout,hoth,hrep⟩:=h c ρ D J a w b s hs hρ hob hnJ
 have h1:=hrep (λu y hu=>hu.mono (J:=J) (J':=J) (λk hk _=>⟨hk,hoth k (λe=>hnJ (e▸hk))⟩) omgz (λ_ _ h=>h))
 refine lZ hr (hK v w' ρ J ⟨omgz,hos,htp,hout,?_,λ_ _ h=>h,λ_ _ h=> .inl h,λ_ h=>h,λ_ h=> .inl h,h1,?_,?_,λh=>absurd h (lY lX)⟩)
 ·intro k hk hne _
  exact hoth k (λe=>hne id o0 s (by simp[Eff.keys]) ho (e▸hρ))
 ·intro i o' hi
  simp only[aQ] at hi
  split at hi<;>cases hi
 ·intro i i' o1 o2 b s1 s2 h1 h2 _ _
  simp only[aQ] at h1
  split at h1<;>cases h1
def r9(s:ByteArray):List AV:=(Lib.strCells s).map ofV
theorem nZ{s:ByteArray}:(r9 s).length=s.size:=by unfold r9;rw[List.length_map,Lib.strCells_length]
def byL(s:ByteArray):List Int:=s.data.toList.map λb=>(b.toNat:Int)
theorem Z0{s:ByteArray}:(byL s).length=s.size:=by unfold byL;rw[List.length_map,Array.length_toList];rfl
theorem Gh{s:ByteArray}:r9 s=cI .u8 (byL s):=by unfold r9 Lib.strCells byL cI;rw[List.map_map,List.map_map];rfl
theorem Bh(t u:TypeId)(x y:Operand)(e:TypeId)(s:ByteArray)(he:jf P t=some e)(hs:siz P e=some 1)(hzs:jg P e=some [.int .u8 0])(hb:byt P e=some 1)(hu:si P u=true)
 (hx:st.op x= .isl true [] 0) (hy:st.op y= .val (.string s)) (hm:0<s.size) (hbytes:s.size<=140737488355328):
 OpT P ⟨dst,.call ⟨.builtin .append,#[x,y],#[t,u]⟩,ty,pos,af,g⟩ nid 1 st ⟨.sl nid 0 s.size 1,[(nid,some (.cells (r9 s) e))]⟩:= .alloc λc ρ D J a w h=>by
 have e1:=h.op x;rw[hx] at e1
 have e2:=h.op y;rw[hy] at e2
 have e2:=aG e2
 obtain⟨i,z,hi,his,hz,hzc⟩:=kU hs hzs
 have hb':i.bytes=1:=by unfold byt at hb;simpa[hi] using hb
 generalize hv:a.eval x=v at e1
 have hv0:v= .slice none 0 0:=by
  generalize hxx:AV.isl true [] 0=xx at e1
  cases e1<;>simp at hxx
  rfl
 subst hv0
 have hr:=run_append_nil_string (P:=P) w t u ty e i z (bg he) (iL hu) hi hz s hm omgz (by rw[hb'];omega)
 have e3:(s.data.map λb=>Value.int .u8 b.toNat)=(Lib.strCells s).toArray:=by
  apply Array.ext'
  simp[Lib.strCells]
 rw[e3] at hr
 have hge:=grownCap_ge w s.size 0 e
 obtain⟨A,hA⟩:∃A,A=(Lib.strCells s).toArray++Builtin.zeroCells z.cells (grownCap w s.size 0 e-s.size):=⟨_,rfl⟩
 rw[<-hA] at hr
 refine⟨.slice (some ⟨w.heap.size,0,none⟩) s.size (grownCap w s.size 0 e),w.drew.alloc (.cells A e),.cells A e,grownCap w s.size 0 e*1,?_,iF.drew w _,λρ' h1' h2'=>⟨.sl _ _ nid 0 s.size 1 _ h1' hge omgz,A,(iF.drew w _).new,?_,?_,?_⟩⟩
 ·simp[execOp,resolve,invoke,builtin,hv,e2,hr]
 ·rw[hA]
  simp only[Array.size_append,List.size_toArray,size_zeroCells,Lib.strCells_length,hzc,List.length_singleton]
  omega
 ·rw[nZ];omega
 ·rw[hA] at*
  exact(l6 (J:=J) (ρ:=ρ') _ (kD (by decide) hzc _) (by rw[nZ,Lib.strCells_length]) (Lib.strCells_oneCell s) (λj hj=>by
   have hj':j<(Lib.strCells s).length:=by rw[Lib.strCells_length,<-nZ];exact hj
   have e5:(r9 s)[j]=ofV ((Lib.strCells s).getD j undef):=by simp[r9,List.getD_eq_getElem?_getD,hj']
   rw[e5]
   exact og _)).2
theorem Gi{e:TypeId}(t u:TypeId)(x y:Operand) [he:dW P t e] [hs:gJ P e 1] [hb:vC P e 1] [hz:jY P e [.int .u8 0]] [hu:Eo P u]
 (h:aH (wO (st.op x)) λp=>aH (y8 (st.op y)) λs=>p=(true,[],0)/\0<s.size/\s.size<=140737488355328/\K 1 ⟨.sl nid 0 s.size 1,[(nid,some (.cells (cI .u8 (byL s)) e))]⟩):
 AO P ⟨dst,.call ⟨.builtin .append,#[x,y],#[t,u]⟩,ty,pos,af,g⟩ nid st K:=by
 obtain⟨p,h1,s,h2,rfl,h3,h4,h5⟩:=h
 rw[<-Gh] at h5
 exact⟨_,_,Bh t u x y e s he.out hs.out hz.out hb.out hu.out (pu h1) (uj h2) h3 h4,h5⟩
class GR(P:Program)(t:TypeId)(e:outParam TypeId):Prop where out:P.underlying t=some (.pointer e)
class ah3(P:Program)(t:TypeId):Prop where out:P.underlying t=some .unsafePointer
theorem Gj{e:TypeId} {n:Nat}(h:siz P e=some n):∃j,P.info? e=some j/\j.size=n:=by
 unfold siz at h
 cases hi:P.info? e with
 |none=>simp[hi] at h
 |some j=>exact⟨j,rfl,by simpa[hi] using h⟩
theorem JE{e:TypeId} {n:Nat}(s t:TypeId)(x:Operand) [hp:GR P s e] [hu:ah3 P t] [hz:gJ P e n]
 (h:aH (CJ (st.op x)) λp=>aH (za (st.ob p.1)) λq=>n≠0/\p.2<q.1.length/\K 0 ⟨.pt p.1 p.2,[]⟩):AO P ⟨dst,.convert s t x,ty,pos,af,g⟩ nid st K:=by
 obtain⟨⟨id,off⟩,h1,⟨cs,e'⟩,h2,h3,h4,h5⟩:=h
 refine⟨0,_,.pure λc ρ D J a w hs=>?_,h5⟩
 have e1:=hs.op x
 rw[qN h1] at e1
 obtain⟨b,k,hρ,⟨cv,hc,hcs,hle,_⟩,_⟩:=hs.obj _ _ (mU h2)
 obtain⟨j,hj,hjn⟩:=Gj hz.out
 generalize hv:a.eval x=v at e1
 cases e1 with
 |pt b' s' _ _ hp'=>
  dsimp only at hp' hρ
  rw[hp'] at hρ
  cases hρ
  refine⟨_,?_,.pt _ _ _ _ hp'⟩
  have hsh:w.shape? b=some (e',cv.size):=by unfold World.shape?;rw[hc]
  have:=Lib.run_to_unsafe (P:=P) w ⟨b,off,none⟩ hp.out hu.out hj (by rw[hjn];exact h3) hsh (by dsimp only at h4 hle⊢;omega)
  simp only[execOp,hv]
  simp[this]
theorem Ub{e:TypeId} {n count:Nat}(h:P.cellsOf e=n)(h0:n≠0)(hc:1<=count):liesAt P P.depth e count 0 e 1=true:=by
 have hd:P.depth=(2*(P.types.size+Made.depth)+1)+1:=rfl
 rw[hd]
 simp only[liesAt,Bool.or_eq_true]
 left
 rw[hd]
 simp[rowAt,h,h0,hc,sameLayout]
class Es(P:Program)(e:TypeId)(n:outParam Nat):Prop where out:P.cellsOf e=n
theorem DN{e:TypeId} {n m:Nat}(s t:TypeId)(x:Operand) [hp:GR P t e] [hu:ah3 P s] [hz:gJ P e n] [hm:Es P e m]
 (h:aH (CJ (st.op x)) λp=>aH (za (st.ob p.1)) λq=>m≠0/\p.2=0/\q.2=e/\m<=q.1.length/\K 0 ⟨.pt p.1 0,[]⟩):AO P ⟨dst,.convert s t x,ty,pos,af,g⟩ nid st K:=by
 obtain⟨⟨id,off⟩,h1,⟨cs,e'⟩,h2,h3,h4,h5,h6,h7⟩:=h
 dsimp only at h4 h5 h6
 subst h4;subst h5
 refine⟨0,_,.pure λc ρ D J a w hs=>?_,h7⟩
 have e1:=hs.op x
 rw[qN h1] at e1
 obtain⟨b,k,hρ,⟨cv,hc,hcs,hle,_⟩,_⟩:=hs.obj _ _ (mU h2)
 obtain⟨j,hj,hjn⟩:=Gj hz.out
 generalize hv:a.eval x=v at e1
 cases e1 with
 |pt b' s' _ _ hp'=>
  dsimp only at hp' hρ
  rw[hp'] at hρ
  cases hρ
  refine⟨_,?_,.pt _ _ _ _ hp'⟩
  have hsh:w.shape? b=some (e',cv.size):=by unfold World.shape?;rw[hc]
  have hl:=Ub hm.out h3 (count:=cv.size/P.cellsOf e') (by rw[hm.out];exact(Nat.one_le_div_iff omgz).2 (by dsimp only at hle;omega))
  have:=Lib.run_from_unsafe (P:=P) w ⟨b,0,none⟩ hu.out hp.out hj hsh hl
  simp only[execOp,hv]
  simp[this]
class ac1(P:Program)(f:FuncId):Prop where
 out:∃fn,P.funcs[f]? =some fn/\(fn.name== "runtime.NumGoroutine")=false/\fn.body.isNone=true/\Extern.findNext fn=none/\Extern.find fn=some Extern.AbiNoEscape.same
theorem ahd{f:FuncId}(x:Operand)(tys:Array TypeId) [hf:ac1 P f](h:K 0 ⟨st.op x,[]⟩):AO P ⟨dst,.call ⟨.value (.func f),#[x],tys⟩,ty,pos,af,g⟩ nid st K:=by
 refine⟨0,_,.pure λc ρ D J a w hs=>?_,h⟩
 obtain⟨fn,h1,h2,h3,h4,h5⟩:=hf.out
 refine⟨a.eval x,?_,hs.op x⟩
 have:=run_callFunc_extern h1 h2 h3 h4 h5 #[a.eval x] w
 rw[Lib.run_noEscape] at this
 simp only[Result.andThen] at this
 simp[execOp,resolve,Act.eval,Deferred.ofValue,invoke] at this⊢
 simp[this]
theorem DR(t:TypeId)(x:Operand)(h:aH (A7 (st.op x)) λp=>0<p.2.2.1/\K 0 ⟨.pt p.1 p.2.1,[]⟩):AO P ⟨dst,.call ⟨.builtin .unsafeSliceData,#[x],#[t]⟩,ty,pos,af,g⟩ nid st K:=by
 obtain⟨⟨id,off,n,es⟩,h1,h2,h3⟩:=h
 refine⟨0,_,.pure λc ρ D J a w hs=>?_,h3⟩
 have e1:=hs.op x
 rw[ow h1] at e1
 dsimp only at e1 h2 h3
 generalize hv:a.eval x=v at e1
 cases e1 with
 |sl b s _ _ _ _ cap hp hc hss=>
  refine⟨.pointer (some ⟨b,off,none⟩),?_,.pt _ _ _ _ hp⟩
  have:=Lib.run_unsafeSliceData_row (P:=P) w #[t] ty ⟨b,off,none⟩ n cap omgz
  simp[execOp,resolve,invoke,builtin,hv,this]
theorem Gl{e:TypeId}(s:ByteArray)(t it:TypeId)(x y:Operand) [hp:GR P t e] [hc:Es P e 1]
 (h:aH (CJ (st.op x)) λp=>aH (za (st.ob p.1)) λq=>p.2=0/\q.2=e/\q.1=cI .u8 (byL s)/\st.op y= .val (.int .i64 s.size)/\0<s.size/\s.size<=140737488355328/\K 0 ⟨.val (.string s),[(p.1,none)]⟩):
 AO P ⟨dst,.call ⟨.builtin .unsafeString,#[x,y],#[t,it]⟩,ty,pos,af,g⟩ nid st K:=by
 obtain⟨⟨id,off⟩,h1,⟨cs,e'⟩,h2,h3,h4,h5,h6,h7,h8,h9⟩:=h
 dsimp only at h3 h4 h5 h9
 rw[<-Gh] at h5
 subst h3;subst h4;subst h5
 refine⟨0,_,OpT.drop (mU h2) (λc ρ D J a w b k hs hρ ho hnJ=>?_),h9⟩
 obtain⟨cv,hcv,hcs,hle,hcell,hone⟩:=ho
 have e1:=hs.op x
 rw[qN h1] at e1
 have e2:=hs.op y
 rw[h6] at e2
 have e2:=aG e2
 generalize hv:a.eval x=v at e1
 cases e1 with
 |pt b' s' _ _ hp'=>
  dsimp only at hp' hρ hle hcell
  rw[hp'] at hρ
  cases hρ
  have hsh:w.shape? b=some (e',cv.size):=by unfold World.shape?;rw[hcv]
  have hsz:s.data.toList.length=s.size:=by rw[Array.length_toList];rfl
  rw[nZ] at hle
  have hr:=Lib.run_unsafeString_row (P:=P) w t it ty e' hp.out hc.out b cv.size hsh s.data.toList (λh0=>by rw[h0] at hsz;simp at hsz;omega) omgz omgz (λj x hx=>by
   have hj:j<s.data.toList.length:=(List.getElem?_eq_some_iff.1 hx).1
   have hj2:j<(r9 s).length:=by rw[nZ];omega
   obtain⟨_,hrep⟩:=hcell j hj2
   have e3:(r9 s)[j]= .val (.int .u8 x.toNat):=by
    obtain⟨_,hx⟩:=List.getElem?_eq_some_iff.1 hx
    simp only[r9,Lib.strCells,List.getElem_map]
    rw[hx];rfl
   rw[e3] at hrep
   have:=aG hrep
   have ea:((⟨b,0,none⟩:Addr).add j)=⟨b,j,none⟩:=by simp[Addr.add_lit]
   rw[ea]
   simp only[World.cell?,hcv]
   have hj3:j<cv.size:=by omega
   rw[Array.getElem?_eq_getElem hj3]
   rw[Array.getD_eq_getD_getElem?,Array.getElem?_eq_getElem hj3] at this
   exact congrArg some this)
  refine⟨w.freeze ⟨b,0,none⟩ s.data.toList.length,.string s,?_,?_,?_,?_,?_,?_,λ_=> .val _⟩
  ·rw[hsz] at hr⊢
   simp[execOp,resolve,invoke,builtin,hv,e2,hr]
  all_goals unfold World.freeze;split<;>first|rfl|simp
  intro k hk
  rw[Array.getElem?_modify,if_neg (λe=>hk e.symm)]
class TB2(P:Program)(t:TypeId):Prop where
 out:∃e,P.underlying t=some (.array 2 e)/\siz P e=some 1/\P.underlying e=some .bool
 gd:P.eqGuardType P.depth t=false
def Uc:AV->Option (Bool×Bool)
 | .agg [.val (.bool a),.val (.bool b)]=>some (a,b)
 |_=>none
theorem ahe{a b:Bool}:Uc (.agg [.val (.bool a),.val (.bool b)])=some (a,b):=rfl
theorem LG{x:AV} {p:Bool×Bool}(h:Uc x=some p):x= .agg [.val (.bool p.1),.val (.bool p.2)]:=by
 unfold Uc at h
 split at h
 ·cases h;rfl
 ·cases h
theorem Ud{w:World} {J:Nat->Prop} {ρ:Rho} {v:Value} {a b:Bool}(h:Rep w J ρ v (.agg [.val (.bool a),.val (.bool b)])):v= .agg #[.bool a,.bool b]:=by
 cases h with
 |agg vs _ hs h=>
  have h0:=aG (h 0 (by simp))
  have h1:=aG (h 1 (by simp))
  congr 1
  have hs2:vs.size=2:=by simpa using hs
  apply Array.ext
  ·simp[hs2]
  ·intro i hi _
   have:i=0\/i=1:=by omega
   rcases this with rfl|rfl
   ·simpa[Array.getD_eq_getD_getElem?,Array.getElem?_eq_getElem hi] using h0
   ·simpa[Array.getD_eq_getD_getElem?,Array.getElem?_eq_getElem hi] using h1
theorem Ue{t:TypeId}(h:∃e,P.underlying t=some (.array 2 e)/\siz P e=some 1/\P.underlying e=some .bool)(a b c d:Bool)(w:World):
 (Op.equal t (.agg #[.bool a,.bool b]) (.agg #[.bool c,.bool d])).run P w= .ok (decide (a=c)&&decide (b=d)) w:=by
 obtain⟨e,hu,hz,hb⟩:=h
 show(Op.equalIn (9998+1+1) t _ _).run P w=_
 have ha:jy P e=some false:=by unfold jy;rw[hb];rfl
 have e0:∀x y:Bool,(part e #[.bool x,.bool y] 0).run P w= .ok (.bool x) w:=λx y=>by simp[part,fq ha]
 have e1:∀x y:Bool,(part e #[.bool x,.bool y] 1).run P w= .ok (.bool y) w:=λx y=>by simp[part,fq ha]
 have e2:∀(d:Nat) (x y:Bool),(Op.equalIn (d+1) e (.bool x) (.bool y)).run P w= .ok (x==y) w:=λd x y=>by simp[Op.equalIn,run_underlying hb]
 rw[Op.equalIn]
 simp only[Sem.run_bind,run_underlying hu,Result.andThen_ok,dx hz,Std.Legacy.Range.forIn_eq_forIn_range',Std.Legacy.Range.size,Nat.sub_zero,Nat.add_sub_cancel,Nat.div_one]
 simp only[List.range',List.forIn_cons,List.forIn_nil,Nat.mul_one,Nat.zero_add,Sem.run_bind,e0,e1,Result.andThen_ok,e2]
 cases a<;>cases b<;>cases c<;>cases d<;>simp[e0,e1,e2]
theorem ahf(t:TypeId)(x y:Operand)(t':TypeId) [ht:TB2 P t](h:aH (Uc (st.op x)) λp=>aH (Uc (st.op y)) λq=>K 0 ⟨.val (.bool (decide (p.1=q.1)&&decide (p.2=q.2))),[]⟩):AO P ⟨dst,.binOp .eql t x y t',ty,pos,af,g⟩ nid st K:=by
 obtain⟨p,h1,q,h2,h5⟩:=h
 refine⟨0,_,.pure λc ρ D J a w hs=>?_,h5⟩
 have e1:=hs.op x;have e2:=hs.op y
 rw[LG h1] at e1;rw[LG h2] at e2
 refine⟨_,?_,.val _⟩
 simp only[execOp,Ud e1,Ud e2,Sem.run_bind,run_eqGuard_agg w _ t x y _ _ ht.gd,Result.andThen_ok,binOp,Op.equal]
 have:=Ue ht.out p.1 p.2 q.1 q.2 w
 unfold Op.equal at this
 simp[this]
end
attribute [push_cast] Z0 ahe
end
